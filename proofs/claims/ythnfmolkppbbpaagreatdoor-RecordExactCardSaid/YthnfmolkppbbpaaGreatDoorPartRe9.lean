/- Parts of one proof: RexLines, RexThirtySix, RexTwo, RexLists, RexTwentyEight, RexMakes, RexFourteen. -/
import Derived.Test.YthnfmolkppbbpaaGreatDoorPartRe8
set_option linter.unusedSimpArgs false
set_option linter.unusedVariables false
namespace Go.Proofs.YthnfmolkppbbpaaGreatDoor
section
set_option maxRecDepth 100000
open Go.RowKit Cal
attribute [local go_sem] toList_mk mk_size bytes_append str_append
set_option maxHeartbeats 16000000 in
theorem rexLines (w : World) (id0 ver0 : Int) (ra : Option Addr) (rc : Nat) (vals0 : List (List UInt8)) (t0 : List UInt8) (cut : Int) (HVar : Hid (VarsAt w)) (HDb : Hid (DbAt w)) (HRaw : Hid (Vec w Any1 1 encS (.slice ra vals0.length rc) vals0)) (HCw : Hid (-9223372036854775808 ≤ cut ∧ cut ≤ 9223372036854775807)) (hn1 : vals0.length ≤ 20) (ht : t0.length ≤ 600) (HS200 : Hid (∀ x ∈ vals0, x.length ≤ 200)) (Y : Nat) (af at' an as' : Option Addr) (N cf nt ct nk cn ns cs : Nat) (s : SchemaL) (HCs : Hid (checkS s = 0)) (C : List RV) (arv : Option Addr) (crv : Nat) (hC5 : C.length ≤ 5) (Z : Nat) (oid over : Int) (ovals : List (List UInt8)) (oa : Option Addr) (oc : Nat) (HOw : Hid (RawOk ⟨oid, over, ovals⟩)) (HRk : Hid (∀ r ∈ C.map pR, RawOk r)) (HRw : Hid (RawOk ⟨id0, ver0, vals0⟩)) (w0 : World) (HYm : Hid (w0.heap[Y]? = some (.cells #[.slice af N cf, .slice at' nt ct, .slice an nk cn, .slice as' ns cs] 33 (0, 0)))) (HXm : Hid (w0.heap[w.heap.size]? = some (.cells #[.int .i64 id0, .int .i64 ver0, .slice ra vals0.length rc] 44 (0, 0)))) (HZm : Hid (w0.heap[Z]? = some (.cells #[.int .i64 oid, .int .i64 over, .slice oa ovals.length oc] 44 (0, 0)))) (HSm' : Hid (SchemaAt w0 Any1 (.slice af N cf) (.slice at' nt ct) (.slice an nk cn) (.slice as' ns cs) s)) (HOm : Hid (Vec w0 Any1 1 encS (.slice oa ovals.length oc) ovals)) (HRm : Hid (RecsVec w0 Any1 (.slice arv C.length crv) (C.map pR))) (HBm : Hid (Below w.heap.size w w0)) (sl0 sl1 sl2 sl3 sl6 sl8 sl9 sl10 sl11 sl12 sl13 sl14 sl18 sl19 sl20 sl21 sl22 sl23 sl24 sl25 sl26 sl27 sl28 sl29 sl30 sl31 sl32 sl33 sl34 sl35 sl36 sl37 sl38 sl39 sl40 sl41 sl42 sl43 sl44 sl45 sl46 sl47 sl48 sl49 sl50 sl51 sl52 sl53 sl54 sl55 sl56 sl57 sl58 sl59 sl60 sl61 sl62 sl63 sl64 sl65 sl66 sl67 sl68 sl69 sl70 sl71 sl72 sl73 sl74 sl75 sl76 sl77 sl78 sl79 sl80 sl81 sl82 sl83 sl84 sl85 sl86 sl87 sl88 sl89 sl90 sl91 sl92 sl93 sl94 sl95 sl96 sl97 sl98 sl99 sl100 sl101 sl102 sl103 sl104 sl105 sl106 sl107 sl108 sl109 sl110 sl111 sl112 sl113 sl114 sl115 sl116 sl117 sl118 sl119 sl120 sl121 sl122 sl123 sl124 sl125 sl126 sl127 sl128 sl129 sl130 sl131 sl132 sl133 sl134 sl135 sl136 sl137 sl138 sl139 sl140 sl141 sl142 sl143 sl144 sl145 sl146 sl147 sl148 sl149 sl150 sl151 sl152 sl153 sl154 sl155 sl156 sl157 sl158 sl159 sl160 sl161 sl162 sl163 sl164 sl165 sl166 sl167 sl168 sl169 sl170 sl171 sl172 sl173 sl174 sl175 sl176 sl177 sl178 sl179 sl180 sl181 sl182 sl183 sl184 sl185 sl186 sl187 sl188 sl189 sl190 sl191 sl192 sl193 sl194 sl195 sl196 sl197 sl198 sl199 sl200 sl201 sl202 sl203 sl204 sl205 sl206 sl207 sl208 sl209 sl210 sl211 sl212 sl213 sl214 sl215 sl216 sl217 sl218 sl219 sl220 sl221 sl222 sl223 sl224 sl225 sl226 sl227 sl228 sl229 sl230 sl231 sl232 sl233 sl234 sl235 sl236 sl237 sl238 sl239 sl240 sl241 sl242 sl243 sl244 sl245 sl246 sl247 sl248 sl249 sl250 sl251 sl252 sl253 sl254 sl255 sl256 sl257 sl258 sl259 sl260 sl261 sl262 sl263 sl264 sl265 sl266 sl267 sl268 sl269 sl270 sl271 sl272 sl273 sl274 sl275 sl276 sl277 sl278 sl279 sl280 sl281 sl282 sl283 sl284 sl285 sl286 sl287 sl288 sl289 sl290 sl291 sl292 sl293 sl294 sl295 sl296 sl297 sl298 sl299 sl300 sl301 sl302 sl303 sl304 sl305 sl306 sl307 sl308 sl309 sl310 sl311 sl312 sl313 sl314 sl315 sl316 sl317 sl318 sl319 sl320 sl321 sl322 sl323 sl324 sl325 sl326 sl327 sl328 sl329 sl330 sl331 sl332 sl333 sl334 sl335 sl336 sl337 sl338 sl339 sl340 sl341 sl342 sl343 sl344 sl345 sl346 sl347 sl348 sl349 sl350 sl351 sl352 sl353 sl354 sl355 sl356 sl357 sl358 sl359 sl360 sl361 sl362 sl363 sl364 sl365 sl366 sl367 sl368 sl369 sl370 sl371 sl372 sl373 sl374 sl375 sl376 sl377 sl378 sl379 sl380 sl381 sl382 sl383 sl384 sl385 sl386 sl387 sl388 sl389 sl390 sl391 sl392 sl393 sl394 sl395 sl396 sl397 sl398 sl399 sl400 sl401 sl402 sl403 sl404 sl405 sl406 sl407 sl408 sl409 sl410 sl411 sl412 sl413 sl414 sl415 sl416 sl417 sl418 sl419 sl420 sl421 sl422 sl423 sl424 sl425 sl426 sl427 : Value) (K : Act → World → Prop) (Q' : Exit → Act → World → Prop)
  (hK : ∀ (tl0 tl1 tl2 tl3 tl6 tl8 tl9 tl10 tl11 tl12 tl13 tl14 tl18 tl19 tl20 tl21 tl22 tl23 tl24 tl25 tl26 tl27 tl28 tl29 tl30 tl31 tl32 tl33 tl34 tl35 tl36 tl37 tl38 tl39 tl40 tl41 tl42 tl43 tl44 tl45 tl46 tl47 tl48 tl49 tl50 tl51 tl52 tl53 tl54 tl55 tl56 tl57 tl58 tl59 tl60 tl61 tl62 tl63 tl64 tl65 tl66 tl67 tl68 tl69 tl70 tl71 tl72 tl73 tl74 tl75 tl76 tl77 tl78 tl79 tl80 tl81 tl82 tl83 tl84 tl85 tl86 tl87 tl88 tl89 tl90 tl91 tl92 tl93 tl94 tl95 tl96 tl97 tl98 tl99 tl100 tl101 tl102 tl103 tl104 tl105 tl106 tl107 tl108 tl109 tl110 tl111 tl112 tl113 tl114 tl115 tl116 tl117 tl118 tl119 tl120 tl121 tl122 tl123 tl124 tl125 tl126 tl127 tl128 tl129 tl130 tl131 tl132 tl133 tl134 tl135 tl136 tl137 tl138 tl139 tl140 tl141 tl142 tl143 tl144 tl145 tl146 tl147 tl148 tl149 tl150 tl151 tl152 tl153 tl154 tl155 tl156 tl157 tl158 tl159 tl160 tl161 tl162 tl163 tl164 tl165 tl166 tl167 tl168 tl169 tl170 tl171 tl172 tl173 tl174 tl175 tl176 tl177 tl178 tl179 tl180 tl181 tl182 tl183 tl184 tl185 tl186 tl187 tl188 tl189 tl190 tl191 tl192 tl193 tl194 tl195 tl196 tl197 tl198 tl199 tl200 tl201 tl202 tl203 tl204 tl205 tl206 tl207 tl208 tl209 tl210 tl211 tl212 tl213 tl214 tl215 tl216 tl217 tl218 tl219 tl220 tl221 tl222 tl223 tl224 tl225 tl226 tl227 tl228 tl229 tl230 tl231 tl232 tl233 tl234 tl235 tl236 tl237 tl238 tl239 tl240 tl241 tl242 tl243 tl244 tl245 tl246 tl247 tl248 tl249 tl250 tl251 tl252 tl253 tl254 tl255 tl256 tl257 tl258 tl259 tl260 tl261 tl262 tl263 tl264 tl265 tl266 tl267 tl268 tl269 tl270 tl271 tl272 tl273 tl274 tl275 tl276 tl277 tl278 tl279 tl280 tl281 tl282 tl283 tl284 tl285 tl286 tl287 tl288 tl289 tl290 tl291 tl292 tl293 tl294 tl295 tl296 tl297 tl298 tl299 tl300 tl301 tl302 tl303 tl304 tl305 tl306 tl307 tl308 tl309 tl310 tl311 tl312 tl313 tl314 tl315 tl316 tl317 tl318 tl319 tl320 tl321 tl322 tl323 tl324 tl325 tl326 tl327 tl328 tl329 tl330 tl331 tl332 tl333 tl334 tl335 tl336 tl337 tl338 tl339 tl340 tl341 tl342 tl343 tl344 tl345 tl346 tl347 tl348 tl349 tl350 tl351 tl352 tl353 tl354 tl355 tl356 tl357 tl358 tl359 tl360 tl361 tl362 tl363 tl364 tl365 tl366 tl367 tl368 tl369 tl370 tl371 tl372 tl373 tl374 tl375 tl376 tl377 tl378 tl379 tl380 tl381 tl382 tl383 tl384 tl385 tl386 tl387 tl388 tl389 tl390 tl391 tl392 tl393 tl394 tl395 tl396 tl397 tl398 tl399 tl400 tl401 tl402 tl403 tl404 tl405 tl406 tl407 tl408 tl409 tl410 tl411 tl412 tl413 tl414 tl415 tl416 tl417 tl418 tl419 tl420 tl421 tl422 tl423 tl424 tl425 tl426 tl427 : Value) (wx : World), Hid (Below w0.heap.size w0 wx) → K ⟨List.toArray (tl0 :: tl1 :: tl2 :: tl3 :: .string ⟨t0.toArray⟩ :: .int .i64 cut :: tl6 :: .pointer (some ⟨w.heap.size, 0, none⟩) :: tl8 :: tl9 :: tl10 :: tl11 :: tl12 :: tl13 :: tl14 :: .pointer (some ⟨Y, 0, none⟩) :: .slice arv C.length crv :: .pointer (some ⟨Z, 0, none⟩) :: tl18 :: tl19 :: tl20 :: tl21 :: tl22 :: tl23 :: tl24 :: tl25 :: tl26 :: tl27 :: tl28 :: tl29 :: tl30 :: tl31 :: tl32 :: tl33 :: tl34 :: tl35 :: tl36 :: tl37 :: tl38 :: tl39 :: tl40 :: tl41 :: tl42 :: tl43 :: tl44 :: tl45 :: tl46 :: tl47 :: tl48 :: tl49 :: tl50 :: tl51 :: tl52 :: tl53 :: tl54 :: tl55 :: tl56 :: tl57 :: tl58 :: tl59 :: tl60 :: tl61 :: tl62 :: tl63 :: tl64 :: tl65 :: tl66 :: tl67 :: tl68 :: tl69 :: tl70 :: tl71 :: tl72 :: tl73 :: tl74 :: tl75 :: tl76 :: tl77 :: tl78 :: tl79 :: tl80 :: tl81 :: tl82 :: tl83 :: tl84 :: tl85 :: tl86 :: tl87 :: tl88 :: tl89 :: tl90 :: tl91 :: tl92 :: tl93 :: tl94 :: tl95 :: tl96 :: tl97 :: tl98 :: tl99 :: tl100 :: tl101 :: tl102 :: tl103 :: tl104 :: tl105 :: tl106 :: tl107 :: tl108 :: tl109 :: tl110 :: tl111 :: tl112 :: tl113 :: tl114 :: tl115 :: tl116 :: tl117 :: tl118 :: tl119 :: tl120 :: tl121 :: tl122 :: tl123 :: tl124 :: tl125 :: tl126 :: tl127 :: tl128 :: tl129 :: tl130 :: tl131 :: tl132 :: tl133 :: tl134 :: tl135 :: tl136 :: tl137 :: tl138 :: tl139 :: tl140 :: tl141 :: tl142 :: tl143 :: tl144 :: tl145 :: tl146 :: tl147 :: tl148 :: tl149 :: tl150 :: tl151 :: tl152 :: tl153 :: tl154 :: tl155 :: tl156 :: tl157 :: tl158 :: tl159 :: tl160 :: tl161 :: tl162 :: tl163 :: tl164 :: tl165 :: tl166 :: tl167 :: tl168 :: tl169 :: tl170 :: tl171 :: tl172 :: tl173 :: tl174 :: tl175 :: tl176 :: tl177 :: tl178 :: tl179 :: tl180 :: tl181 :: tl182 :: tl183 :: tl184 :: tl185 :: tl186 :: tl187 :: tl188 :: tl189 :: tl190 :: tl191 :: tl192 :: tl193 :: tl194 :: tl195 :: tl196 :: tl197 :: tl198 :: tl199 :: tl200 :: tl201 :: tl202 :: tl203 :: tl204 :: tl205 :: tl206 :: tl207 :: tl208 :: tl209 :: tl210 :: tl211 :: tl212 :: tl213 :: tl214 :: tl215 :: tl216 :: tl217 :: tl218 :: tl219 :: tl220 :: tl221 :: tl222 :: tl223 :: tl224 :: tl225 :: tl226 :: tl227 :: tl228 :: tl229 :: tl230 :: tl231 :: tl232 :: tl233 :: tl234 :: tl235 :: tl236 :: tl237 :: tl238 :: tl239 :: tl240 :: tl241 :: tl242 :: tl243 :: tl244 :: tl245 :: tl246 :: tl247 :: tl248 :: tl249 :: tl250 :: tl251 :: tl252 :: tl253 :: tl254 :: tl255 :: tl256 :: tl257 :: tl258 :: tl259 :: tl260 :: tl261 :: tl262 :: tl263 :: tl264 :: tl265 :: tl266 :: tl267 :: tl268 :: tl269 :: tl270 :: tl271 :: tl272 :: tl273 :: tl274 :: tl275 :: tl276 :: tl277 :: tl278 :: tl279 :: tl280 :: tl281 :: tl282 :: tl283 :: tl284 :: tl285 :: tl286 :: tl287 :: tl288 :: tl289 :: tl290 :: tl291 :: tl292 :: tl293 :: tl294 :: tl295 :: tl296 :: tl297 :: tl298 :: tl299 :: tl300 :: tl301 :: tl302 :: tl303 :: tl304 :: tl305 :: tl306 :: tl307 :: tl308 :: tl309 :: tl310 :: tl311 :: tl312 :: tl313 :: tl314 :: tl315 :: tl316 :: tl317 :: tl318 :: tl319 :: tl320 :: tl321 :: tl322 :: tl323 :: tl324 :: tl325 :: tl326 :: tl327 :: tl328 :: tl329 :: tl330 :: tl331 :: tl332 :: tl333 :: tl334 :: tl335 :: tl336 :: tl337 :: tl338 :: tl339 :: tl340 :: tl341 :: tl342 :: tl343 :: tl344 :: tl345 :: tl346 :: tl347 :: tl348 :: tl349 :: tl350 :: tl351 :: tl352 :: tl353 :: tl354 :: tl355 :: tl356 :: tl357 :: tl358 :: tl359 :: tl360 :: tl361 :: tl362 :: tl363 :: tl364 :: tl365 :: tl366 :: tl367 :: tl368 :: tl369 :: tl370 :: tl371 :: tl372 :: tl373 :: tl374 :: tl375 :: tl376 :: tl377 :: tl378 :: tl379 :: tl380 :: tl381 :: tl382 :: tl383 :: tl384 :: tl385 :: tl386 :: tl387 :: tl388 :: tl389 :: tl390 :: tl391 :: tl392 :: tl393 :: tl394 :: tl395 :: tl396 :: tl397 :: tl398 :: tl399 :: tl400 :: tl401 :: tl402 :: tl403 :: tl404 :: tl405 :: tl406 :: tl407 :: tl408 :: tl409 :: tl410 :: tl411 :: tl412 :: tl413 :: tl414 :: tl415 :: tl416 :: tl417 :: tl418 :: tl419 :: tl420 :: tl421 :: tl422 :: tl423 :: tl424 :: tl425 :: tl426 :: tl427 :: []), []⟩ wx) :
  (stmtOf Tryz.f4 37).wp Tryz.prog (Exit.then K Q') ⟨List.toArray (sl0 :: sl1 :: sl2 :: sl3 :: .string ⟨t0.toArray⟩ :: .int .i64 cut :: sl6 :: .pointer (some ⟨w.heap.size, 0, none⟩) :: sl8 :: sl9 :: sl10 :: sl11 :: sl12 :: sl13 :: sl14 :: .pointer (some ⟨Y, 0, none⟩) :: .slice arv C.length crv :: .pointer (some ⟨Z, 0, none⟩) :: sl18 :: sl19 :: sl20 :: sl21 :: sl22 :: sl23 :: sl24 :: sl25 :: sl26 :: sl27 :: sl28 :: sl29 :: sl30 :: sl31 :: sl32 :: sl33 :: sl34 :: sl35 :: sl36 :: sl37 :: sl38 :: sl39 :: sl40 :: sl41 :: sl42 :: sl43 :: sl44 :: sl45 :: sl46 :: sl47 :: sl48 :: sl49 :: sl50 :: sl51 :: sl52 :: sl53 :: sl54 :: sl55 :: sl56 :: sl57 :: sl58 :: sl59 :: sl60 :: sl61 :: sl62 :: sl63 :: sl64 :: sl65 :: sl66 :: sl67 :: sl68 :: sl69 :: sl70 :: sl71 :: sl72 :: sl73 :: sl74 :: sl75 :: sl76 :: sl77 :: sl78 :: sl79 :: sl80 :: sl81 :: sl82 :: sl83 :: sl84 :: sl85 :: sl86 :: sl87 :: sl88 :: sl89 :: sl90 :: sl91 :: sl92 :: sl93 :: sl94 :: sl95 :: sl96 :: sl97 :: sl98 :: sl99 :: sl100 :: sl101 :: sl102 :: sl103 :: sl104 :: sl105 :: sl106 :: sl107 :: sl108 :: sl109 :: sl110 :: sl111 :: sl112 :: sl113 :: sl114 :: sl115 :: sl116 :: sl117 :: sl118 :: sl119 :: sl120 :: sl121 :: sl122 :: sl123 :: sl124 :: sl125 :: sl126 :: sl127 :: sl128 :: sl129 :: sl130 :: sl131 :: sl132 :: sl133 :: sl134 :: sl135 :: sl136 :: sl137 :: sl138 :: sl139 :: sl140 :: sl141 :: sl142 :: sl143 :: sl144 :: sl145 :: sl146 :: sl147 :: sl148 :: sl149 :: sl150 :: sl151 :: sl152 :: sl153 :: sl154 :: sl155 :: sl156 :: sl157 :: sl158 :: sl159 :: sl160 :: sl161 :: sl162 :: sl163 :: sl164 :: sl165 :: sl166 :: sl167 :: sl168 :: sl169 :: sl170 :: sl171 :: sl172 :: sl173 :: sl174 :: sl175 :: sl176 :: sl177 :: sl178 :: sl179 :: sl180 :: sl181 :: sl182 :: sl183 :: sl184 :: sl185 :: sl186 :: sl187 :: sl188 :: sl189 :: sl190 :: sl191 :: sl192 :: sl193 :: sl194 :: sl195 :: sl196 :: sl197 :: sl198 :: sl199 :: sl200 :: sl201 :: sl202 :: sl203 :: sl204 :: sl205 :: sl206 :: sl207 :: sl208 :: sl209 :: sl210 :: sl211 :: sl212 :: sl213 :: sl214 :: sl215 :: sl216 :: sl217 :: sl218 :: sl219 :: sl220 :: sl221 :: sl222 :: sl223 :: sl224 :: sl225 :: sl226 :: sl227 :: sl228 :: sl229 :: sl230 :: sl231 :: sl232 :: sl233 :: sl234 :: sl235 :: sl236 :: sl237 :: sl238 :: sl239 :: sl240 :: sl241 :: sl242 :: sl243 :: sl244 :: sl245 :: sl246 :: sl247 :: sl248 :: sl249 :: sl250 :: sl251 :: sl252 :: sl253 :: sl254 :: sl255 :: sl256 :: sl257 :: sl258 :: sl259 :: sl260 :: sl261 :: sl262 :: sl263 :: sl264 :: sl265 :: sl266 :: sl267 :: sl268 :: sl269 :: sl270 :: sl271 :: sl272 :: sl273 :: sl274 :: sl275 :: sl276 :: sl277 :: sl278 :: sl279 :: sl280 :: sl281 :: sl282 :: sl283 :: sl284 :: sl285 :: sl286 :: sl287 :: sl288 :: sl289 :: sl290 :: sl291 :: sl292 :: sl293 :: sl294 :: sl295 :: sl296 :: sl297 :: sl298 :: sl299 :: sl300 :: sl301 :: sl302 :: sl303 :: sl304 :: sl305 :: sl306 :: sl307 :: sl308 :: sl309 :: sl310 :: sl311 :: sl312 :: sl313 :: sl314 :: sl315 :: sl316 :: sl317 :: sl318 :: sl319 :: sl320 :: sl321 :: sl322 :: sl323 :: sl324 :: sl325 :: sl326 :: sl327 :: sl328 :: sl329 :: sl330 :: sl331 :: sl332 :: sl333 :: sl334 :: sl335 :: sl336 :: sl337 :: sl338 :: sl339 :: sl340 :: sl341 :: sl342 :: sl343 :: sl344 :: sl345 :: sl346 :: sl347 :: sl348 :: sl349 :: sl350 :: sl351 :: sl352 :: sl353 :: sl354 :: sl355 :: sl356 :: sl357 :: sl358 :: sl359 :: sl360 :: sl361 :: sl362 :: sl363 :: sl364 :: sl365 :: sl366 :: sl367 :: sl368 :: sl369 :: sl370 :: sl371 :: sl372 :: sl373 :: sl374 :: sl375 :: sl376 :: sl377 :: sl378 :: sl379 :: sl380 :: sl381 :: sl382 :: sl383 :: sl384 :: sl385 :: sl386 :: sl387 :: sl388 :: sl389 :: sl390 :: sl391 :: sl392 :: sl393 :: sl394 :: sl395 :: sl396 :: sl397 :: sl398 :: sl399 :: sl400 :: sl401 :: sl402 :: sl403 :: sl404 :: sl405 :: sl406 :: sl407 :: sl408 :: sl409 :: sl410 :: sl411 :: sl412 :: sl413 :: sl414 :: sl415 :: sl416 :: sl417 :: sl418 :: sl419 :: sl420 :: sl421 :: sl422 :: sl423 :: sl424 :: sl425 :: sl426 :: sl427 :: []), []⟩ w0 := by
 conv => arg 2; whnf
 obtain ⟨x0, x1, x2⟩ := cells3 HXm.out; obtain ⟨o0, o1, o2⟩ := cells3 HZm.out
 go_wp2_with fail
 refine wp_world (fun WN hWN => ?_)
 have bN : Below w0.heap.size w0 WN := by rw [hWN]; exact (Below.refl _ _).alloc (Nat.le_refl _) _
 have gN : WN.heap[w0.heap.size]? = some (.cells #[.int .i64 id0, .int .i64 ver0, .slice ra vals0.length rc, .int .i64 oid, .int .i64 over, .slice oa ovals.length oc] 44 (0, 0)) := by rw [hWN]; exact blk_new rfl
 have HSN := Lib.hid (HSm'.out.below bN); have HYN := Lib.hid (blk_below bN (lt_of_blk HYm.out) HYm.out); have HON := Lib.hid (HOm.out.below bN); have HRN := Lib.hid (HRm.out.below bN); have HBN := Lib.hid (HBm.out.trans (bN.mono HBm.out.size))
 obtain ⟨Nn, hNn⟩ : ∃ Nn, w0.heap.size = Nn := ⟨_, rfl⟩
 have lN := lt_of_blk gN
 rw [hNn] at gN lN ⊢
 have HP := Lib.hid (show ∀ k, k < 2 → ∃ (r : RecL) (qa : Option Addr) (qc : Nat), (WN.cell? ⟨Nn, k * 3, none⟩ = some (.int .i64 r.id) ∧ WN.cell? ⟨Nn, k * 3 + 1, none⟩ = some (.int .i64 r.ver) ∧ WN.cell? ⟨Nn, k * 3 + 2, none⟩ = some (.slice qa r.vals.length qc)) ∧ Vec WN Any1 1 encS (.slice qa r.vals.length qc) r.vals ∧ RawOk r by
  intro k hk2
  have c0 : ∀ j v, (#[.int .i64 id0, .int .i64 ver0, .slice ra vals0.length rc, .int .i64 oid, .int .i64 over, .slice oa ovals.length oc] : Array Value)[j]? = some v → WN.cell? ⟨Nn, j, none⟩ = some v := fun j v h => by rw [cell_of_row _ _ _ _ _ _ gN]; exact h
  rcases (by omega : k = 0 ∨ k = 1) with rfl | rfl
  ·exact ⟨⟨id0, ver0, vals0⟩, ra, rc, ⟨c0 0 _ rfl, c0 1 _ rfl, c0 2 _ rfl⟩, HRaw.out.below HBN.out, HRw.out⟩
  ·exact ⟨⟨oid, over, ovals⟩, oa, oc, ⟨c0 3 _ rfl, c0 4 _ rfl, c0 5 _ rfl⟩, HON.out, HOw.out⟩)
 have lY := lt_of_blk HYN.out
 have bN0 := Lib.hid bN
 clear bN gN hWN hNn HYm HXm HZm HSm' HOm HRm HBm x0 x1 x2 o0 o1 o2
 go_loopw [311] (fun i wr => ∃ k : Nat, k ≤ 2 ∧ i = .int .i64 k ∧ Below WN.heap.size WN wr) (fun i _ => 2 - (intOf i).toNat)
 case atStart => exact ⟨0, by omega, rfl, Below.refl _ _⟩
 case round =>
  obtain ⟨k, hk, rfl, hbw⟩ := hrel
  have HBk := Lib.hid hbw
  by_cases hlt : k < 2
  ·have hq : decide ((k : Int) < 2) = true := by simp; omega
   obtain ⟨⟨rid, rver, rvals⟩, qa, qc, ⟨c0, c1, c2⟩, hv, hok⟩ := HP.out k hlt
   dsimp only at c0 c1 c2 hv
   have c0 := (hbw.cell (p := ⟨Nn, k * 3, none⟩) lN).trans c0; have c1 := (hbw.cell (p := ⟨Nn, k * 3 + 1, none⟩) lN).trans c1; have c2 := (hbw.cell (p := ⟨Nn, k * 3 + 2, none⟩) lN).trans c2
   obtain ⟨⟨F, fe⟩, hF⟩ : ∃ p, lineN s ⟨rid, rver, rvals⟩ = p := ⟨_, rfl⟩
   have hFl : F.length ≤ 500 := by have := lineN_len ⟨rid, rver, rvals⟩ HCs.out; rw [hF] at this; exact this
   have HF := Lib.hid hF; have HVr := Lib.hid (hv.below hbw); have HOk := Lib.hid hok
   have d1 : (F != F) = false := by simp
   have d2 : (fe != fe) = false := by simp
   obtain ⟨p0, p1, p2, p3⟩ := cellsS (blk_below hbw lY HYN.out)
   have lyr := Nat.lt_of_lt_of_le lY hbw.size
   clear hbw hv hok hF
   go_wp2_with fail
   refine wp_calls_world (fun W1 hW1 => ?_)
   have b1 : Below wr.heap.size wr W1 := by rw [hW1]; exact (Below.refl _ _).alloc (Nat.le_refl _) _
   have gT : W1.heap[wr.heap.size]? = some (.cells #[.int .i64 rid, .int .i64 rver, .slice qa rvals.length qc] 44 (0, 0)) := by rw [hW1]; exact blk_new rfl
   have B1 := Lib.hid (HBk.out.trans (b1.mono HBk.out.size)); have HV1 := Lib.hid (HVr.out.below b1)
   clear hW1 b1 p0 p1 p2 p3 c0 c1 c2 HVr lyr
   refine (rLine_any Any1 _ _ _ _ s ⟨rid, rver, rvals⟩ _ W1 (HSN.out.below B1.out) HV1.out HCs.out (HVar.out.old (HBN.out.trans (B1.out.mono HBN.out.size))) HOk.out.s6 HOk.out.n6).mono ?_
   rw [HF.out]
   rintro e m1 ⟨rfl, hb⟩
   have B2 := Lib.hid (B1.out.trans (hb.mono B1.out.size)); have HV2 := Lib.hid (HV1.out.below hb); have gT2 := blk_below hb (lt_of_blk gT) gT
   obtain ⟨p0, p1, p2, p3⟩ := cellsS (blk_below B2.out lY HYN.out); obtain ⟨c0, c1, c2⟩ := cells3 gT2
   clear hb gT gT2 HV1
   dsimp only
   go_wp2_with fail
   refine (rrLine_any Any1 _ _ _ _ s ⟨rid, rver, rvals⟩ _ m1 (HSN.out.below B2.out) HV2.out HOk.out.s6 HOk.out.n6).mono ?_
   rw [HF.out]
   rintro e m2 ⟨rfl, hb⟩
   have B3 := Lib.hid (B2.out.trans (hb.mono B2.out.size))
   clear hb p0 p1 p2 p3 c0 c1 c2 HV2
   dsimp only
   have n1 : ¬ 9223372036854775807 < F.length + 1 := by omega
   have n2 : ¬ 9223372036854775807 < 1 + F.length := by omega
   have n3 : ¬ 9223372036854775807 < 4 + t0.length := by omega
   have n4 : ¬ 9223372036854775807 < t0.length + 4 := by omega
   go_wp2_with fail
   refine wp_world (fun WT hWT => ?_)
   obtain ⟨bT, lT, hT⟩ := strs_below (wb := m2) (t := 9) 2000 [F, t0, F ++ [9], [48] ++ F, [55, 9, 49, 9] ++ t0] (by intro x hx; simp at hx; rcases hx with rfl | rfl | rfl | rfl | rfl <;> first | omega | (simp; done) | (simp; omega)) _ rfl
   have bT : Below m2.heap.size m2 WT := by rw [hWT]; exact bT
   have lT : m2.heap.size < WT.heap.size := by rw [hWT]; exact lT
   have hT : ∀ j, j < 5 → ∃ x, WT.cell? ⟨m2.heap.size, j, none⟩ = some (strV x) ∧ x.length ≤ 2000 := by rw [hWT]; exact hT
   have HTx := Lib.hid hT; have BT := Lib.hid (B3.out.trans (bT.mono B3.out.size))
   obtain ⟨Tn, hTn⟩ : ∃ Tn, m2.heap.size = Tn := ⟨_, rfl⟩
   rw [hTn] at HTx lT ⊢
   clear hT bT hWT hTn n1 n2 n3 n4 d1 d2 B1 B2 B3
   go_loopw [345] (fun i wr => ∃ j : Nat, j ≤ 5 ∧ i = .int .i64 j ∧ Below WT.heap.size WT wr) (fun i _ => 5 - (intOf i).toNat)
   case atStart => exact ⟨0, by omega, rfl, Below.refl _ _⟩
   case round =>
    obtain ⟨j, hj, rfl, hbw⟩ := hrel
    have HBj := Lib.hid hbw
    have HBL2 := Lib.hid (BT.out.trans (hbw.mono BT.out.size))
    by_cases hlt2 : j < 5
    ·have hq2 : decide ((j : Int) < 5) = true := by simp; omega
     obtain ⟨z, cz, hz⟩ := HTx.out j hlt2
     have cz := (hbw.cell (p := ⟨Tn, j, none⟩) lT).trans cz
     obtain ⟨p0, p1, p2, p3⟩ := cellsS (blk_below HBL2.out lY HYN.out)
     obtain ⟨⟨R1, f1⟩, h1⟩ : ∃ p, parseR s z = p := ⟨_, rfl⟩
     have hR1 : RawOk R1 := by have := @parse_raw s z HCs.out; rw [h1] at this; exact this
     have HR1 := Lib.hid hR1; have H1 := Lib.hid h1
     have d1 : (f1 != f1) = false := by simp
     clear hR1 h1 hbw
     go_wp2_with fail
     refine (rParse_any Any1 _ _ _ _ s z wr (HSN.out.below HBL2.out) HCs.out (HVar.out.old (HBN.out.trans (HBL2.out.mono HBN.out.size))) (by omega)).mono ?_
     rw [H1.out]
     rintro e m1 ⟨_, rfl, ⟨_, rfl, hm⟩, hb⟩
     obtain ⟨ma1, mc1, rfl⟩ := hm.slice
     have Hr1 := Lib.hid hm.any; have Bm1 := Lib.hid (HBj.out.trans (hb.mono HBj.out.size)); have BL1 := Lib.hid (HBL2.out.trans (hb.mono HBL2.out.size))
     clear hm hb p0 p1 p2 p3 cz
     dsimp only
     obtain ⟨p0, p1, p2, p3⟩ := cellsS (blk_below BL1.out lY HYN.out)
     have ly1 := Nat.lt_of_lt_of_le lY BL1.out.size
     go_wp2_with fail
     refine wp_calls_world (fun n1 hn => ?_)
     have bn : Below m1.heap.size m1 n1 := by rw [hn]; exact (Below.refl _ _).alloc (Nat.le_refl _) _
     have HA1 := Lib.hid (show n1.heap[m1.heap.size]? = some (.cells #[.int .i64 R1.id, .int .i64 R1.ver, .slice ma1 R1.vals.length mc1] 44 (0, 0)) by rw [hn]; exact blk_new rfl)
     have Bn1 := Lib.hid (Bm1.out.trans (bn.mono Bm1.out.size)); have BLn := Lib.hid (BL1.out.trans (bn.mono BL1.out.size)); have Hq1 := Lib.hid (Hr1.out.below bn)
     clear bn hn p0 p1 p2 p3 Hr1 ly1
     refine (rrparse_any Any1 _ _ _ _ s z n1 (HSN.out.below BLn.out) HCs.out (by omega)).mono ?_
     rw [H1.out]
     rintro e m2 ⟨_, rfl, ⟨_, rfl, hm⟩, hb⟩
     obtain ⟨ma2, mc2, rfl⟩ := hm.slice
     have Hr2 := Lib.hid hm.any; have Bm2 := Lib.hid (Bn1.out.trans (hb.mono Bn1.out.size)); have Hq1' := Lib.hid (Hq1.out.below hb)
     have ha1 := blk_below hb (lt_of_blk HA1.out) HA1.out
     obtain ⟨a10, a11, a12⟩ := cells3 ha1; have la1 := lt_of_blk ha1
     clear hm hb ha1 Hq1
     dsimp only
     go_wp2_with fail
     refine wp_calls_world (fun n2 hn => ?_)
     have bn : Below m2.heap.size m2 n2 := by rw [hn]; exact (Below.refl _ _).alloc (Nat.le_refl _) _
     have Bn2 := Lib.hid (Bm2.out.trans (bn.mono Bm2.out.size))
     have hv1 := Hq1'.out.below bn; have hv2 := Hr2.out.below bn
     clear bn hn a10 a11 a12 la1
     refine (rrsame_any Any1 Any1 _ _ R1 R1 _ hv1 hv2 HR1.out.n6 HR1.out.n6).mono ?_
     rw [sameR_self _ _ rfl rfl rfl]
     rintro e m3 ⟨rfl, hb⟩
     have B3 := Lib.hid (Bn2.out.trans (hb.mono Bn2.out.size))
     clear hb hv1 hv2
     dsimp only
     go_wp2_with fail
     go_roundw
     case rel => exact ⟨j + 1, by omega, by go_num, B3.out⟩
     case measure => simp [intOf]; omega
    ·have hq2 : decide ((j : Int) < 5) = false := by simp; omega
     clear hbw
     go_wp2_with fail
     go_roundw
     case rel => exact ⟨k + 1, by omega, by go_num, HBL2.out⟩
     case measure => simp [intOf]; omega
  have hq : decide ((k : Int) < 2) = false := by simp; omega
  have hfin := Lib.hid (bN0.out.trans (hbw.mono bN0.out.size))
  clear hbw HBk HP
  go_wp2_with fail
  first | exact hfin | exact hK _ _ _ _ _ _ _ _ _ _ _ _ _ _ _ _ _ _ _ _ _ _ _ _ _ _ _ _ _ _ _ _ _ _ _ _ _ _ _ _ _ _ _ _ _ _ _ _ _ _ _ _ _ _ _ _ _ _ _ _ _ _ _ _ _ _ _ _ _ _ _ _ _ _ _ _ _ _ _ _ _ _ _ _ _ _ _ _ _ _ _ _ _ _ _ _ _ _ _ _ _ _ _ _ _ _ _ _ _ _ _ _ _ _ _ _ _ _ _ _ _ _ _ _ _ _ _ _ _ _ _ _ _ _ _ _ _ _ _ _ _ _ _ _ _ _ _ _ _ _ _ _ _ _ _ _ _ _ _ _ _ _ _ _ _ _ _ _ _ _ _ _ _ _ _ _ _ _ _ _ _ _ _ _ _ _ _ _ _ _ _ _ _ _ _ _ _ _ _ _ _ _ _ _ _ _ _ _ _ _ _ _ _ _ _ _ _ _ _ _ _ _ _ _ _ _ _ _ _ _ _ _ _ _ _ _ _ _ _ _ _ _ _ _ _ _ _ _ _ _ _ _ _ _ _ _ _ _ _ _ _ _ _ _ _ _ _ _ _ _ _ _ _ _ _ _ _ _ _ _ _ _ _ _ _ _ _ _ _ _ _ _ _ _ _ _ _ _ _ _ _ _ _ _ _ _ _ _ _ _ _ _ _ _ _ _ _ _ _ _ _ _ _ _ _ _ _ _ _ _ _ _ _ _ _ _ _ _ _ _ _ _ _ _ _ _ _ _ _ _ _ _ _ _ _ _ _ _ _ _ _ _ _ _ _ _ _ _ _ _ _ _ _ _ _ _ _ _ _ _ _ _ _ _ _ _ _ _ _ _ _ _ _ _ _ _ _ _ _ _ _ _ _ _ _ _ _ _ _ _ _ _ _ _ _ _ _ _ _ _ _ _ _ hfin
end
section
set_option maxRecDepth 100000
open Go.RowKit Cal
attribute [local go_sem] toList_mk mk_size bytes_append str_append
set_option maxHeartbeats 16000000 in
theorem rex36 (w : World) (id0 ver0 : Int) (ra : Option Addr) (rc : Nat) (vals0 : List (List UInt8)) (t0 : List UInt8) (cut : Int) (HVar : Hid (VarsAt w)) (HDb : Hid (DbAt w)) (HRaw : Hid (Vec w Any1 1 encS (.slice ra vals0.length rc) vals0)) (HCw : Hid (-9223372036854775808 ≤ cut ∧ cut ≤ 9223372036854775807)) (hn1 : vals0.length ≤ 20) (ht : t0.length ≤ 600) (HS200 : Hid (∀ x ∈ vals0, x.length ≤ 200)) (Y : Nat) (af at' an as' : Option Addr) (N cf nt ct nk cn ns cs : Nat) (s : SchemaL) (HCs : Hid (checkS s = 0)) (C : List RV) (arv : Option Addr) (crv : Nat) (hC5 : C.length ≤ 5) (Z : Nat) (oid over : Int) (ovals : List (List UInt8)) (oa : Option Addr) (oc : Nat) (HOw : Hid (RawOk ⟨oid, over, ovals⟩)) (HRk : Hid (∀ r ∈ C.map pR, RawOk r)) (HRw : Hid (RawOk ⟨id0, ver0, vals0⟩)) (w0 : World) (HYm : Hid (w0.heap[Y]? = some (.cells #[.slice af N cf, .slice at' nt ct, .slice an nk cn, .slice as' ns cs] 33 (0, 0)))) (HXm : Hid (w0.heap[w.heap.size]? = some (.cells #[.int .i64 id0, .int .i64 ver0, .slice ra vals0.length rc] 44 (0, 0)))) (HZm : Hid (w0.heap[Z]? = some (.cells #[.int .i64 oid, .int .i64 over, .slice oa ovals.length oc] 44 (0, 0)))) (HSm' : Hid (SchemaAt w0 Any1 (.slice af N cf) (.slice at' nt ct) (.slice an nk cn) (.slice as' ns cs) s)) (HOm : Hid (Vec w0 Any1 1 encS (.slice oa ovals.length oc) ovals)) (HRm : Hid (RecsVec w0 Any1 (.slice arv C.length crv) (C.map pR))) (HBm : Hid (Below w.heap.size w w0)) (sl0 sl1 sl2 sl3 sl6 sl8 sl9 sl10 sl11 sl12 sl13 sl14 sl18 sl19 sl20 sl21 sl22 sl23 sl24 sl25 sl26 sl27 sl28 sl29 sl30 sl31 sl32 sl33 sl34 sl35 sl36 sl37 sl38 sl39 sl40 sl41 sl42 sl43 sl44 sl45 sl46 sl47 sl48 sl49 sl50 sl51 sl52 sl53 sl54 sl55 sl56 sl57 sl58 sl59 sl60 sl61 sl62 sl63 sl64 sl65 sl66 sl67 sl68 sl69 sl70 sl71 sl72 sl73 sl74 sl75 sl76 sl77 sl78 sl79 sl80 sl81 sl82 sl83 sl84 sl85 sl86 sl87 sl88 sl89 sl90 sl91 sl92 sl93 sl94 sl95 sl96 sl97 sl98 sl99 sl100 sl101 sl102 sl103 sl104 sl105 sl106 sl107 sl108 sl109 sl110 sl111 sl112 sl113 sl114 sl115 sl116 sl117 sl118 sl119 sl120 sl121 sl122 sl123 sl124 sl125 sl126 sl127 sl128 sl129 sl130 sl131 sl132 sl133 sl134 sl135 sl136 sl137 sl138 sl139 sl140 sl141 sl142 sl143 sl144 sl145 sl146 sl147 sl148 sl149 sl150 sl151 sl152 sl153 sl154 sl155 sl156 sl157 sl158 sl159 sl160 sl161 sl162 sl163 sl164 sl165 sl166 sl167 sl168 sl169 sl170 sl171 sl172 sl173 sl174 sl175 sl176 sl177 sl178 sl179 sl180 sl181 sl182 sl183 sl184 sl185 sl186 sl187 sl188 sl189 sl190 sl191 sl192 sl193 sl194 sl195 sl196 sl197 sl198 sl199 sl200 sl201 sl202 sl203 sl204 sl205 sl206 sl207 sl208 sl209 sl210 sl211 sl212 sl213 sl214 sl215 sl216 sl217 sl218 sl219 sl220 sl221 sl222 sl223 sl224 sl225 sl226 sl227 sl228 sl229 sl230 sl231 sl232 sl233 sl234 sl235 sl236 sl237 sl238 sl239 sl240 sl241 sl242 sl243 sl244 sl245 sl246 sl247 sl248 sl249 sl250 sl251 sl252 sl253 sl254 sl255 sl256 sl257 sl258 sl259 sl260 sl261 sl262 sl263 sl264 sl265 sl266 sl267 sl268 sl269 sl270 sl271 sl272 sl273 sl274 sl275 sl276 sl277 sl278 sl279 sl280 sl281 sl282 sl283 sl284 sl285 sl286 sl287 sl288 sl289 sl290 sl291 sl292 sl293 sl294 sl295 sl296 sl297 sl298 sl299 sl300 sl301 sl302 sl303 sl304 sl305 sl306 sl307 sl308 sl309 sl310 sl311 sl312 sl313 sl314 sl315 sl316 sl317 sl318 sl319 sl320 sl321 sl322 sl323 sl324 sl325 sl326 sl327 sl328 sl329 sl330 sl331 sl332 sl333 sl334 sl335 sl336 sl337 sl338 sl339 sl340 sl341 sl342 sl343 sl344 sl345 sl346 sl347 sl348 sl349 sl350 sl351 sl352 sl353 sl354 sl355 sl356 sl357 sl358 sl359 sl360 sl361 sl362 sl363 sl364 sl365 sl366 sl367 sl368 sl369 sl370 sl371 sl372 sl373 sl374 sl375 sl376 sl377 sl378 sl379 sl380 sl381 sl382 sl383 sl384 sl385 sl386 sl387 sl388 sl389 sl390 sl391 sl392 sl393 sl394 sl395 sl396 sl397 sl398 sl399 sl400 sl401 sl402 sl403 sl404 sl405 sl406 sl407 sl408 sl409 sl410 sl411 sl412 sl413 sl414 sl415 sl416 sl417 sl418 sl419 sl420 sl421 sl422 sl423 sl424 sl425 sl426 sl427 : Value) :
  (restOf Tryz.f4 36).wp Tryz.prog (bodyPost Tryz.prog Tryz.f4 fun e w' => e = .returned (.bool true) ∧ Below w.heap.size w w') ⟨List.toArray (sl0 :: sl1 :: sl2 :: sl3 :: .string ⟨t0.toArray⟩ :: .int .i64 cut :: sl6 :: .pointer (some ⟨w.heap.size, 0, none⟩) :: sl8 :: sl9 :: sl10 :: sl11 :: sl12 :: sl13 :: sl14 :: .pointer (some ⟨Y, 0, none⟩) :: .slice arv C.length crv :: .pointer (some ⟨Z, 0, none⟩) :: sl18 :: sl19 :: sl20 :: sl21 :: sl22 :: sl23 :: sl24 :: sl25 :: sl26 :: sl27 :: sl28 :: sl29 :: sl30 :: sl31 :: sl32 :: sl33 :: sl34 :: sl35 :: sl36 :: sl37 :: sl38 :: sl39 :: sl40 :: sl41 :: sl42 :: sl43 :: sl44 :: sl45 :: sl46 :: sl47 :: sl48 :: sl49 :: sl50 :: sl51 :: sl52 :: sl53 :: sl54 :: sl55 :: sl56 :: sl57 :: sl58 :: sl59 :: sl60 :: sl61 :: sl62 :: sl63 :: sl64 :: sl65 :: sl66 :: sl67 :: sl68 :: sl69 :: sl70 :: sl71 :: sl72 :: sl73 :: sl74 :: sl75 :: sl76 :: sl77 :: sl78 :: sl79 :: sl80 :: sl81 :: sl82 :: sl83 :: sl84 :: sl85 :: sl86 :: sl87 :: sl88 :: sl89 :: sl90 :: sl91 :: sl92 :: sl93 :: sl94 :: sl95 :: sl96 :: sl97 :: sl98 :: sl99 :: sl100 :: sl101 :: sl102 :: sl103 :: sl104 :: sl105 :: sl106 :: sl107 :: sl108 :: sl109 :: sl110 :: sl111 :: sl112 :: sl113 :: sl114 :: sl115 :: sl116 :: sl117 :: sl118 :: sl119 :: sl120 :: sl121 :: sl122 :: sl123 :: sl124 :: sl125 :: sl126 :: sl127 :: sl128 :: sl129 :: sl130 :: sl131 :: sl132 :: sl133 :: sl134 :: sl135 :: sl136 :: sl137 :: sl138 :: sl139 :: sl140 :: sl141 :: sl142 :: sl143 :: sl144 :: sl145 :: sl146 :: sl147 :: sl148 :: sl149 :: sl150 :: sl151 :: sl152 :: sl153 :: sl154 :: sl155 :: sl156 :: sl157 :: sl158 :: sl159 :: sl160 :: sl161 :: sl162 :: sl163 :: sl164 :: sl165 :: sl166 :: sl167 :: sl168 :: sl169 :: sl170 :: sl171 :: sl172 :: sl173 :: sl174 :: sl175 :: sl176 :: sl177 :: sl178 :: sl179 :: sl180 :: sl181 :: sl182 :: sl183 :: sl184 :: sl185 :: sl186 :: sl187 :: sl188 :: sl189 :: sl190 :: sl191 :: sl192 :: sl193 :: sl194 :: sl195 :: sl196 :: sl197 :: sl198 :: sl199 :: sl200 :: sl201 :: sl202 :: sl203 :: sl204 :: sl205 :: sl206 :: sl207 :: sl208 :: sl209 :: sl210 :: sl211 :: sl212 :: sl213 :: sl214 :: sl215 :: sl216 :: sl217 :: sl218 :: sl219 :: sl220 :: sl221 :: sl222 :: sl223 :: sl224 :: sl225 :: sl226 :: sl227 :: sl228 :: sl229 :: sl230 :: sl231 :: sl232 :: sl233 :: sl234 :: sl235 :: sl236 :: sl237 :: sl238 :: sl239 :: sl240 :: sl241 :: sl242 :: sl243 :: sl244 :: sl245 :: sl246 :: sl247 :: sl248 :: sl249 :: sl250 :: sl251 :: sl252 :: sl253 :: sl254 :: sl255 :: sl256 :: sl257 :: sl258 :: sl259 :: sl260 :: sl261 :: sl262 :: sl263 :: sl264 :: sl265 :: sl266 :: sl267 :: sl268 :: sl269 :: sl270 :: sl271 :: sl272 :: sl273 :: sl274 :: sl275 :: sl276 :: sl277 :: sl278 :: sl279 :: sl280 :: sl281 :: sl282 :: sl283 :: sl284 :: sl285 :: sl286 :: sl287 :: sl288 :: sl289 :: sl290 :: sl291 :: sl292 :: sl293 :: sl294 :: sl295 :: sl296 :: sl297 :: sl298 :: sl299 :: sl300 :: sl301 :: sl302 :: sl303 :: sl304 :: sl305 :: sl306 :: sl307 :: sl308 :: sl309 :: sl310 :: sl311 :: sl312 :: sl313 :: sl314 :: sl315 :: sl316 :: sl317 :: sl318 :: sl319 :: sl320 :: sl321 :: sl322 :: sl323 :: sl324 :: sl325 :: sl326 :: sl327 :: sl328 :: sl329 :: sl330 :: sl331 :: sl332 :: sl333 :: sl334 :: sl335 :: sl336 :: sl337 :: sl338 :: sl339 :: sl340 :: sl341 :: sl342 :: sl343 :: sl344 :: sl345 :: sl346 :: sl347 :: sl348 :: sl349 :: sl350 :: sl351 :: sl352 :: sl353 :: sl354 :: sl355 :: sl356 :: sl357 :: sl358 :: sl359 :: sl360 :: sl361 :: sl362 :: sl363 :: sl364 :: sl365 :: sl366 :: sl367 :: sl368 :: sl369 :: sl370 :: sl371 :: sl372 :: sl373 :: sl374 :: sl375 :: sl376 :: sl377 :: sl378 :: sl379 :: sl380 :: sl381 :: sl382 :: sl383 :: sl384 :: sl385 :: sl386 :: sl387 :: sl388 :: sl389 :: sl390 :: sl391 :: sl392 :: sl393 :: sl394 :: sl395 :: sl396 :: sl397 :: sl398 :: sl399 :: sl400 :: sl401 :: sl402 :: sl403 :: sl404 :: sl405 :: sl406 :: sl407 :: sl408 :: sl409 :: sl410 :: sl411 :: sl412 :: sl413 :: sl414 :: sl415 :: sl416 :: sl417 :: sl418 :: sl419 :: sl420 :: sl421 :: sl422 :: sl423 :: sl424 :: sl425 :: sl426 :: sl427 :: []), []⟩ w0 := by
 conv => arg 2; whnf
 go_step
 go_step
 refine rexLines w id0 ver0 ra rc vals0 t0 cut HVar HDb HRaw HCw hn1 ht HS200 Y af at' an as' N cf nt ct nk cn ns cs s HCs C arv crv hC5 Z oid over ovals oa oc HOw HRk HRw w0 HYm HXm HZm HSm' HOm HRm HBm _ _ _ _ _ _ _ _ _ _ _ _ _ _ _ _ _ _ _ _ _ _ _ _ _ _ _ _ _ _ _ _ _ _ _ _ _ _ _ _ _ _ _ _ _ _ _ _ _ _ _ _ _ _ _ _ _ _ _ _ _ _ _ _ _ _ _ _ _ _ _ _ _ _ _ _ _ _ _ _ _ _ _ _ _ _ _ _ _ _ _ _ _ _ _ _ _ _ _ _ _ _ _ _ _ _ _ _ _ _ _ _ _ _ _ _ _ _ _ _ _ _ _ _ _ _ _ _ _ _ _ _ _ _ _ _ _ _ _ _ _ _ _ _ _ _ _ _ _ _ _ _ _ _ _ _ _ _ _ _ _ _ _ _ _ _ _ _ _ _ _ _ _ _ _ _ _ _ _ _ _ _ _ _ _ _ _ _ _ _ _ _ _ _ _ _ _ _ _ _ _ _ _ _ _ _ _ _ _ _ _ _ _ _ _ _ _ _ _ _ _ _ _ _ _ _ _ _ _ _ _ _ _ _ _ _ _ _ _ _ _ _ _ _ _ _ _ _ _ _ _ _ _ _ _ _ _ _ _ _ _ _ _ _ _ _ _ _ _ _ _ _ _ _ _ _ _ _ _ _ _ _ _ _ _ _ _ _ _ _ _ _ _ _ _ _ _ _ _ _ _ _ _ _ _ _ _ _ _ _ _ _ _ _ _ _ _ _ _ _ _ _ _ _ _ _ _ _ _ _ _ _ _ _ _ _ _ _ _ _ _ _ _ _ _ _ _ _ _ _ _ _ _ _ _ _ _ _ _ _ _ _ _ _ _ _ _ _ _ _ _ _ _ _ _ _ _ _ _ _ _ _ _ _ _ _ _ _ _ _ _ _ _ _ _ _ _ _ _ _ _ _ _ _ _ _ _ _ _ _ _ _ _ _ _ _ _ _ _ _ _ _ _ _ ?_
 intro tl0 tl1 tl2 tl3 tl6 tl8 tl9 tl10 tl11 tl12 tl13 tl14 tl18 tl19 tl20 tl21 tl22 tl23 tl24 tl25 tl26 tl27 tl28 tl29 tl30 tl31 tl32 tl33 tl34 tl35 tl36 tl37 tl38 tl39 tl40 tl41 tl42 tl43 tl44 tl45 tl46 tl47 tl48 tl49 tl50 tl51 tl52 tl53 tl54 tl55 tl56 tl57 tl58 tl59 tl60 tl61 tl62 tl63 tl64 tl65 tl66 tl67 tl68 tl69 tl70 tl71 tl72 tl73 tl74 tl75 tl76 tl77 tl78 tl79 tl80 tl81 tl82 tl83 tl84 tl85 tl86 tl87 tl88 tl89 tl90 tl91 tl92 tl93 tl94 tl95 tl96 tl97 tl98 tl99 tl100 tl101 tl102 tl103 tl104 tl105 tl106 tl107 tl108 tl109 tl110 tl111 tl112 tl113 tl114 tl115 tl116 tl117 tl118 tl119 tl120 tl121 tl122 tl123 tl124 tl125 tl126 tl127 tl128 tl129 tl130 tl131 tl132 tl133 tl134 tl135 tl136 tl137 tl138 tl139 tl140 tl141 tl142 tl143 tl144 tl145 tl146 tl147 tl148 tl149 tl150 tl151 tl152 tl153 tl154 tl155 tl156 tl157 tl158 tl159 tl160 tl161 tl162 tl163 tl164 tl165 tl166 tl167 tl168 tl169 tl170 tl171 tl172 tl173 tl174 tl175 tl176 tl177 tl178 tl179 tl180 tl181 tl182 tl183 tl184 tl185 tl186 tl187 tl188 tl189 tl190 tl191 tl192 tl193 tl194 tl195 tl196 tl197 tl198 tl199 tl200 tl201 tl202 tl203 tl204 tl205 tl206 tl207 tl208 tl209 tl210 tl211 tl212 tl213 tl214 tl215 tl216 tl217 tl218 tl219 tl220 tl221 tl222 tl223 tl224 tl225 tl226 tl227 tl228 tl229 tl230 tl231 tl232 tl233 tl234 tl235 tl236 tl237 tl238 tl239 tl240 tl241 tl242 tl243 tl244 tl245 tl246 tl247 tl248 tl249 tl250 tl251 tl252 tl253 tl254 tl255 tl256 tl257 tl258 tl259 tl260 tl261 tl262 tl263 tl264 tl265 tl266 tl267 tl268 tl269 tl270 tl271 tl272 tl273 tl274 tl275 tl276 tl277 tl278 tl279 tl280 tl281 tl282 tl283 tl284 tl285 tl286 tl287 tl288 tl289 tl290 tl291 tl292 tl293 tl294 tl295 tl296 tl297 tl298 tl299 tl300 tl301 tl302 tl303 tl304 tl305 tl306 tl307 tl308 tl309 tl310 tl311 tl312 tl313 tl314 tl315 tl316 tl317 tl318 tl319 tl320 tl321 tl322 tl323 tl324 tl325 tl326 tl327 tl328 tl329 tl330 tl331 tl332 tl333 tl334 tl335 tl336 tl337 tl338 tl339 tl340 tl341 tl342 tl343 tl344 tl345 tl346 tl347 tl348 tl349 tl350 tl351 tl352 tl353 tl354 tl355 tl356 tl357 tl358 tl359 tl360 tl361 tl362 tl363 tl364 tl365 tl366 tl367 tl368 tl369 tl370 tl371 tl372 tl373 tl374 tl375 tl376 tl377 tl378 tl379 tl380 tl381 tl382 tl383 tl384 tl385 tl386 tl387 tl388 tl389 tl390 tl391 tl392 tl393 tl394 tl395 tl396 tl397 tl398 tl399 tl400 tl401 tl402 tl403 tl404 tl405 tl406 tl407 tl408 tl409 tl410 tl411 tl412 tl413 tl414 tl415 tl416 tl417 tl418 tl419 tl420 tl421 tl422 tl423 tl424 tl425 tl426 tl427 wx hR
 have hb := hR.out
 have HY2 := Lib.hid (blk_below hb (lt_of_blk HYm.out) HYm.out); have HS2 := Lib.hid (HSm'.out.below hb); have HR2 := Lib.hid (HRm.out.below hb); have HB2 := Lib.hid (HBm.out.trans (hb.mono HBm.out.size))
 clear hb hR
 go_step
 exact rex52 w t0 cut HVar HDb HCw ht Y af at' an as' N cf nt ct nk cn ns cs s HCs C arv crv hC5 HRk _ HY2 HS2 HR2 HB2 _ _ _ _ _ _ _ _ _ _ _ _ _ _ _ _ _ _ _ _ _ _ _ _ _ _ _ _ _ _ _ _ _ _ _ _ _ _ _ _ _ _ _ _ _ _ _ _ _ _ _ _ _ _ _ _ _ _ _ _ _ _ _ _ _ _ _ _ _ _ _ _ _ _ _ _ _ _ _ _ _ _ _ _ _ _ _ _ _ _ _ _ _ _ _ _ _ _ _ _ _ _ _ _ _ _ _ _ _ _ _ _ _ _ _ _ _ _ _ _ _ _ _ _ _ _ _ _ _ _ _ _ _ _ _ _ _ _ _ _ _ _ _ _ _ _ _ _ _ _ _ _ _ _ _ _ _ _ _ _ _ _ _ _ _ _ _ _ _ _ _ _ _ _ _ _ _ _ _ _ _ _ _ _ _ _ _ _ _ _ _ _ _ _ _ _ _ _ _ _ _ _ _ _ _ _ _ _ _ _ _ _ _ _ _ _ _ _ _ _ _ _ _ _ _ _ _ _ _ _ _ _ _ _ _ _ _ _ _ _ _ _ _ _ _ _ _ _ _ _ _ _ _ _ _ _ _ _ _ _ _ _ _ _ _ _ _ _ _ _ _ _ _ _ _ _ _ _ _ _ _ _ _ _ _ _ _ _ _ _ _ _ _ _ _ _ _ _ _ _ _ _ _ _ _ _ _ _ _ _ _ _ _ _ _ _ _ _ _ _ _ _ _ _ _ _ _ _ _ _ _ _ _ _ _ _ _ _ _ _ _ _ _ _ _ _ _ _ _ _ _ _ _ _ _ _ _ _ _ _ _ _ _ _ _ _ _ _ _ _ _ _ _ _ _ _ _ _ _ _ _ _ _ _ _ _ _ _ _ _ _ _ _ _ _ _ _ _ _ _ _ _ _ _ _ _ _ _ _ _ _ _ _ _ _ _ _ _ _ _ _ _ _ _
end
section
set_option maxRecDepth 100000
open Go.RowKit Cal
attribute [local go_sem] toList_mk mk_size bytes_append str_append
/-- what holds behind the four lists: the third and the fourth have the raw record behind, and the own one ahead of, the dealt ones -/
def RTwo (lv lw : Value) (C : List RV) (raw own : RV) (D : Nat) (Wc WR : World) (s253 s254 s255 : Value) (wx : World) : Prop :=
 s254 = .int .i64 4 ∧ s255 = .int .i64 0 ∧ ∃ (G : Nat) (v5 v9 : Value), s253 = .slice (some ⟨G, 0, none⟩) 4 4 ∧ wx.heap[G]? = some (.cells #[lv, lw, v5, v9] 35 (0, 0)) ∧ OwnM D 44 3 encRV Wc v5 (C ++ [raw]) wx ∧ OwnM D 44 3 encRV Wc v9 ([own] ++ C) wx ∧ Kept29 D Wc lw C WR wx
theorem rtwo_mk {lv lw : Value} {C : List RV} {raw own : RV} {D : Nat} {Wc WR : World} {s253 s254 s255 : Value} {wx : World}
  (h : s254 = .int .i64 4 ∧ s255 = .int .i64 0 ∧ ∃ (G : Nat) (v5 v9 : Value), s253 = .slice (some ⟨G, 0, none⟩) 4 4 ∧ wx.heap[G]? = some (.cells #[lv, lw, v5, v9] 35 (0, 0)) ∧ OwnM D 44 3 encRV Wc v5 (C ++ [raw]) wx ∧ OwnM D 44 3 encRV Wc v9 ([own] ++ C) wx ∧ Kept29 D Wc lw C WR wx) : RTwo lv lw C raw own D Wc WR s253 s254 s255 wx := h
set_option maxHeartbeats 16000000 in
theorem rexTwo (w : World) (id0 ver0 : Int) (ra : Option Addr) (rc : Nat) (vals0 : List (List UInt8)) (t0 : List UInt8) (cut : Int) (HVar : Hid (VarsAt w)) (HDb : Hid (DbAt w)) (HRaw : Hid (Vec w Any1 1 encS (.slice ra vals0.length rc) vals0)) (HCw : Hid (-9223372036854775808 ≤ cut ∧ cut ≤ 9223372036854775807)) (hn1 : vals0.length ≤ 20) (ht : t0.length ≤ 600) (HS200 : Hid (∀ x ∈ vals0, x.length ≤ 200)) (Y : Nat) (af at' an as' : Option Addr) (N cf nt ct nk cn ns cs : Nat) (s : SchemaL) (HCs : Hid (checkS s = 0)) (C : List RV) (arv : Option Addr) (crv : Nat) (hC5 : C.length ≤ 5) (Z : Nat) (oid over : Int) (ovals : List (List UInt8)) (oa : Option Addr) (oc : Nat) (HOw : Hid (RawOk ⟨oid, over, ovals⟩)) (la : Option Addr) (lc : Nat) (Rs : List RecL) (HList : Hid (RecsVec w Any1 (.slice la Rs.length lc) Rs)) (hn2 : Rs.length ≤ 80) (HAll : Hid (∀ r ∈ Rs, RawOk r)) (HRw : Hid (RawOk ⟨id0, ver0, vals0⟩)) (D : Nat) (idc : Int) (Wd Wc w4 : World) (S1 : Nat → Prop) (HG4 : Hid (∀ k, (Value.slice arv C.length crv).ownBlock = some k → Wc.heap.size ≤ k ∧ k < w4.heap.size)) (HSm : Hid (∀ b, S1 b → Wd.heap.size ≤ b ∧ b < Wc.heap.size)) (HBc : Hid (Below w.heap.size w Wc)) (zX : w.heap.size < Wc.heap.size) (zY : Y < Wc.heap.size) (zwD : w.heap.size ≤ D) (hZ4 : w4.heap.size ≤ Z) (WR : World) (z4 : w4.heap.size ≤ WR.heap.size) (KR : Hid (QX D Wd w.heap.size id0 ver0 (.slice ra vals0.length rc) Y S1 (.slice af N cf) (.slice at' nt ct) (.slice an nk cn) (.slice as' ns cs) s WR)) (HRm : Hid (ROut D Wc s (.slice arv C.length crv) C idc WR)) (HZr : Hid (WR.heap[Z]? = some (.cells #[.int .i64 oid, .int .i64 over, .slice oa ovals.length oc] 44 (0, 0)))) (HOVr : Hid (Vec WR (fun b => w4.heap.size ≤ b) 1 encS (.slice oa ovals.length oc) ovals)) (sl0 sl1 sl3 sl6 sl8 sl9 sl10 sl11 sl12 sl13 sl14 sl18 sl19 sl20 sl21 sl22 sl23 sl24 sl25 sl26 sl27 sl28 sl29 sl30 sl31 sl32 sl33 sl34 sl35 sl36 sl37 sl38 sl39 sl40 sl41 sl42 sl43 sl44 sl45 sl46 sl47 sl48 sl49 sl50 sl51 sl52 sl53 sl54 sl55 sl56 sl57 sl58 sl59 sl60 sl61 sl62 sl63 sl64 sl65 sl66 sl67 sl68 sl69 sl70 sl71 sl72 sl73 sl74 sl75 sl76 sl77 sl78 sl79 sl80 sl81 sl82 sl83 sl84 sl85 sl86 sl87 sl88 sl89 sl90 sl91 sl92 sl93 sl94 sl95 sl96 sl97 sl98 sl99 sl100 sl101 sl102 sl103 sl104 sl105 sl106 sl107 sl108 sl109 sl110 sl111 sl112 sl113 sl114 sl115 sl116 sl117 sl118 sl119 sl120 sl121 sl122 sl123 sl124 sl125 sl126 sl127 sl128 sl129 sl130 sl131 sl132 sl133 sl134 sl135 sl136 sl137 sl138 sl139 sl140 sl141 sl142 sl143 sl144 sl145 sl146 sl147 sl148 sl149 sl150 sl151 sl152 sl153 sl154 sl155 sl156 sl157 sl158 sl159 sl160 sl161 sl162 sl163 sl164 sl165 sl166 sl167 sl168 sl169 sl170 sl171 sl172 sl173 sl174 sl175 sl176 sl177 sl178 sl179 sl180 sl181 sl182 sl183 sl184 sl185 sl186 sl187 sl188 sl189 sl190 sl191 sl192 sl193 sl194 sl195 sl196 sl197 sl198 sl199 sl200 sl201 sl202 sl203 sl204 sl205 sl206 sl207 sl208 sl209 sl210 sl211 sl212 sl213 sl214 sl215 sl216 sl217 sl218 sl219 sl220 sl221 sl222 sl223 sl224 sl225 sl226 sl227 sl228 sl229 sl230 sl231 sl232 sl233 sl234 sl235 sl236 sl237 sl238 sl239 sl240 sl241 sl242 sl243 sl244 sl245 sl246 sl247 sl248 sl249 sl250 sl251 sl252 sl253 sl254 sl255 sl256 sl257 sl258 sl259 sl260 sl261 sl262 sl263 sl264 sl265 sl266 sl267 sl268 sl269 sl270 sl271 sl272 sl273 sl274 sl275 sl276 sl277 sl278 sl279 sl280 sl281 sl282 sl283 sl284 sl285 sl286 sl287 sl288 sl289 sl290 sl291 sl292 sl293 sl294 sl295 sl296 sl297 sl298 sl299 sl300 sl301 sl302 sl303 sl304 sl305 sl306 sl307 sl308 sl309 sl310 sl311 sl312 sl313 sl314 sl315 sl316 sl317 sl318 sl319 sl320 sl321 sl322 sl323 sl324 sl325 sl326 sl327 sl328 sl329 sl330 sl331 sl332 sl333 sl334 sl335 sl336 sl337 sl338 sl339 sl340 sl341 sl342 sl343 sl344 sl345 sl346 sl347 sl348 sl349 sl350 sl351 sl352 sl353 sl354 sl355 sl356 sl357 sl358 sl359 sl360 sl361 sl362 sl363 sl364 sl365 sl366 sl367 sl368 sl369 sl370 sl371 sl372 sl373 sl374 sl375 sl376 sl377 sl378 sl379 sl380 sl381 sl382 sl383 sl384 sl385 sl386 sl387 sl388 sl389 sl390 sl391 sl392 sl393 sl394 sl395 sl396 sl397 sl398 sl399 sl400 sl401 sl402 sl403 sl404 sl405 sl406 sl407 sl408 sl409 sl410 sl411 sl412 sl413 sl414 sl415 sl416 sl417 sl418 sl419 sl420 sl421 sl422 sl423 sl424 sl425 sl426 sl427 : Value) (K : Act → World → Prop) (Q' : Exit → Act → World → Prop)
  (hK : ∀ (tl0 tl1 tl3 tl6 tl8 tl9 tl10 tl11 tl12 tl13 tl14 tl18 tl19 tl20 tl21 tl22 tl23 tl24 tl25 tl26 tl27 tl28 tl29 tl30 tl31 tl32 tl33 tl34 tl35 tl36 tl37 tl38 tl39 tl40 tl41 tl42 tl43 tl44 tl45 tl46 tl47 tl48 tl49 tl50 tl51 tl52 tl53 tl54 tl55 tl56 tl57 tl58 tl59 tl60 tl61 tl62 tl63 tl64 tl65 tl66 tl67 tl68 tl69 tl70 tl71 tl72 tl73 tl74 tl75 tl76 tl77 tl78 tl79 tl80 tl81 tl82 tl83 tl84 tl85 tl86 tl87 tl88 tl89 tl90 tl91 tl92 tl93 tl94 tl95 tl96 tl97 tl98 tl99 tl100 tl101 tl102 tl103 tl104 tl105 tl106 tl107 tl108 tl109 tl110 tl111 tl112 tl113 tl114 tl115 tl116 tl117 tl118 tl119 tl120 tl121 tl122 tl123 tl124 tl125 tl126 tl127 tl128 tl129 tl130 tl131 tl132 tl133 tl134 tl135 tl136 tl137 tl138 tl139 tl140 tl141 tl142 tl143 tl144 tl145 tl146 tl147 tl148 tl149 tl150 tl151 tl152 tl153 tl154 tl155 tl156 tl157 tl158 tl159 tl160 tl161 tl162 tl163 tl164 tl165 tl166 tl167 tl168 tl169 tl170 tl171 tl172 tl173 tl174 tl175 tl176 tl177 tl178 tl179 tl180 tl181 tl182 tl183 tl184 tl185 tl186 tl187 tl188 tl189 tl190 tl191 tl192 tl193 tl194 tl195 tl196 tl197 tl198 tl199 tl200 tl201 tl202 tl203 tl204 tl205 tl206 tl207 tl208 tl209 tl210 tl211 tl212 tl213 tl214 tl215 tl216 tl217 tl218 tl219 tl220 tl221 tl222 tl223 tl224 tl225 tl226 tl227 tl228 tl229 tl230 tl231 tl232 tl233 tl234 tl235 tl236 tl237 tl238 tl239 tl240 tl241 tl242 tl243 tl244 tl245 tl246 tl247 tl248 tl249 tl250 tl251 tl252 tl253 tl254 tl255 tl256 tl257 tl258 tl259 tl260 tl261 tl262 tl263 tl264 tl265 tl266 tl267 tl268 tl269 tl270 tl271 tl272 tl273 tl274 tl275 tl276 tl277 tl278 tl279 tl280 tl281 tl282 tl283 tl284 tl285 tl286 tl287 tl288 tl289 tl290 tl291 tl292 tl293 tl294 tl295 tl296 tl297 tl298 tl299 tl300 tl301 tl302 tl303 tl304 tl305 tl306 tl307 tl308 tl309 tl310 tl311 tl312 tl313 tl314 tl315 tl316 tl317 tl318 tl319 tl320 tl321 tl322 tl323 tl324 tl325 tl326 tl327 tl328 tl329 tl330 tl331 tl332 tl333 tl334 tl335 tl336 tl337 tl338 tl339 tl340 tl341 tl342 tl343 tl344 tl345 tl346 tl347 tl348 tl349 tl350 tl351 tl352 tl353 tl354 tl355 tl356 tl357 tl358 tl359 tl360 tl361 tl362 tl363 tl364 tl365 tl366 tl367 tl368 tl369 tl370 tl371 tl372 tl373 tl374 tl375 tl376 tl377 tl378 tl379 tl380 tl381 tl382 tl383 tl384 tl385 tl386 tl387 tl388 tl389 tl390 tl391 tl392 tl393 tl394 tl395 tl396 tl397 tl398 tl399 tl400 tl401 tl402 tl403 tl404 tl405 tl406 tl407 tl408 tl409 tl410 tl411 tl412 tl413 tl414 tl415 tl416 tl417 tl418 tl419 tl420 tl421 tl422 tl423 tl424 tl425 tl426 tl427 : Value) (wx : World), Hid (RTwo (.slice la Rs.length lc) (.slice arv C.length crv) C (⟨id0, ver0, ra, vals0.length, rc, vals0⟩ : RV) (⟨oid, over, oa, ovals.length, oc, ovals⟩ : RV) D Wc WR tl253 tl254 tl255 wx) → K ⟨List.toArray (tl0 :: tl1 :: .slice la Rs.length lc :: tl3 :: .string ⟨t0.toArray⟩ :: .int .i64 cut :: tl6 :: .pointer (some ⟨w.heap.size, 0, none⟩) :: tl8 :: tl9 :: tl10 :: tl11 :: tl12 :: tl13 :: tl14 :: .pointer (some ⟨Y, 0, none⟩) :: .slice arv C.length crv :: .pointer (some ⟨Z, 0, none⟩) :: tl18 :: tl19 :: tl20 :: tl21 :: tl22 :: tl23 :: tl24 :: tl25 :: tl26 :: tl27 :: tl28 :: tl29 :: tl30 :: tl31 :: tl32 :: tl33 :: tl34 :: tl35 :: tl36 :: tl37 :: tl38 :: tl39 :: tl40 :: tl41 :: tl42 :: tl43 :: tl44 :: tl45 :: tl46 :: tl47 :: tl48 :: tl49 :: tl50 :: tl51 :: tl52 :: tl53 :: tl54 :: tl55 :: tl56 :: tl57 :: tl58 :: tl59 :: tl60 :: tl61 :: tl62 :: tl63 :: tl64 :: tl65 :: tl66 :: tl67 :: tl68 :: tl69 :: tl70 :: tl71 :: tl72 :: tl73 :: tl74 :: tl75 :: tl76 :: tl77 :: tl78 :: tl79 :: tl80 :: tl81 :: tl82 :: tl83 :: tl84 :: tl85 :: tl86 :: tl87 :: tl88 :: tl89 :: tl90 :: tl91 :: tl92 :: tl93 :: tl94 :: tl95 :: tl96 :: tl97 :: tl98 :: tl99 :: tl100 :: tl101 :: tl102 :: tl103 :: tl104 :: tl105 :: tl106 :: tl107 :: tl108 :: tl109 :: tl110 :: tl111 :: tl112 :: tl113 :: tl114 :: tl115 :: tl116 :: tl117 :: tl118 :: tl119 :: tl120 :: tl121 :: tl122 :: tl123 :: tl124 :: tl125 :: tl126 :: tl127 :: tl128 :: tl129 :: tl130 :: tl131 :: tl132 :: tl133 :: tl134 :: tl135 :: tl136 :: tl137 :: tl138 :: tl139 :: tl140 :: tl141 :: tl142 :: tl143 :: tl144 :: tl145 :: tl146 :: tl147 :: tl148 :: tl149 :: tl150 :: tl151 :: tl152 :: tl153 :: tl154 :: tl155 :: tl156 :: tl157 :: tl158 :: tl159 :: tl160 :: tl161 :: tl162 :: tl163 :: tl164 :: tl165 :: tl166 :: tl167 :: tl168 :: tl169 :: tl170 :: tl171 :: tl172 :: tl173 :: tl174 :: tl175 :: tl176 :: tl177 :: tl178 :: tl179 :: tl180 :: tl181 :: tl182 :: tl183 :: tl184 :: tl185 :: tl186 :: tl187 :: tl188 :: tl189 :: tl190 :: tl191 :: tl192 :: tl193 :: tl194 :: tl195 :: tl196 :: tl197 :: tl198 :: tl199 :: tl200 :: tl201 :: tl202 :: tl203 :: tl204 :: tl205 :: tl206 :: tl207 :: tl208 :: tl209 :: tl210 :: tl211 :: tl212 :: tl213 :: tl214 :: tl215 :: tl216 :: tl217 :: tl218 :: tl219 :: tl220 :: tl221 :: tl222 :: tl223 :: tl224 :: tl225 :: tl226 :: tl227 :: tl228 :: tl229 :: tl230 :: tl231 :: tl232 :: tl233 :: tl234 :: tl235 :: tl236 :: tl237 :: tl238 :: tl239 :: tl240 :: tl241 :: tl242 :: tl243 :: tl244 :: tl245 :: tl246 :: tl247 :: tl248 :: tl249 :: tl250 :: tl251 :: tl252 :: tl253 :: tl254 :: tl255 :: tl256 :: tl257 :: tl258 :: tl259 :: tl260 :: tl261 :: tl262 :: tl263 :: tl264 :: tl265 :: tl266 :: tl267 :: tl268 :: tl269 :: tl270 :: tl271 :: tl272 :: tl273 :: tl274 :: tl275 :: tl276 :: tl277 :: tl278 :: tl279 :: tl280 :: tl281 :: tl282 :: tl283 :: tl284 :: tl285 :: tl286 :: tl287 :: tl288 :: tl289 :: tl290 :: tl291 :: tl292 :: tl293 :: tl294 :: tl295 :: tl296 :: tl297 :: tl298 :: tl299 :: tl300 :: tl301 :: tl302 :: tl303 :: tl304 :: tl305 :: tl306 :: tl307 :: tl308 :: tl309 :: tl310 :: tl311 :: tl312 :: tl313 :: tl314 :: tl315 :: tl316 :: tl317 :: tl318 :: tl319 :: tl320 :: tl321 :: tl322 :: tl323 :: tl324 :: tl325 :: tl326 :: tl327 :: tl328 :: tl329 :: tl330 :: tl331 :: tl332 :: tl333 :: tl334 :: tl335 :: tl336 :: tl337 :: tl338 :: tl339 :: tl340 :: tl341 :: tl342 :: tl343 :: tl344 :: tl345 :: tl346 :: tl347 :: tl348 :: tl349 :: tl350 :: tl351 :: tl352 :: tl353 :: tl354 :: tl355 :: tl356 :: tl357 :: tl358 :: tl359 :: tl360 :: tl361 :: tl362 :: tl363 :: tl364 :: tl365 :: tl366 :: tl367 :: tl368 :: tl369 :: tl370 :: tl371 :: tl372 :: tl373 :: tl374 :: tl375 :: tl376 :: tl377 :: tl378 :: tl379 :: tl380 :: tl381 :: tl382 :: tl383 :: tl384 :: tl385 :: tl386 :: tl387 :: tl388 :: tl389 :: tl390 :: tl391 :: tl392 :: tl393 :: tl394 :: tl395 :: tl396 :: tl397 :: tl398 :: tl399 :: tl400 :: tl401 :: tl402 :: tl403 :: tl404 :: tl405 :: tl406 :: tl407 :: tl408 :: tl409 :: tl410 :: tl411 :: tl412 :: tl413 :: tl414 :: tl415 :: tl416 :: tl417 :: tl418 :: tl419 :: tl420 :: tl421 :: tl422 :: tl423 :: tl424 :: tl425 :: tl426 :: tl427 :: []), []⟩ wx) :
  (leftOf (stmtOf Tryz.f4 29)).wp Tryz.prog (Exit.then K Q') ⟨List.toArray (sl0 :: sl1 :: .slice la Rs.length lc :: sl3 :: .string ⟨t0.toArray⟩ :: .int .i64 cut :: sl6 :: .pointer (some ⟨w.heap.size, 0, none⟩) :: sl8 :: sl9 :: sl10 :: sl11 :: sl12 :: sl13 :: sl14 :: .pointer (some ⟨Y, 0, none⟩) :: .slice arv C.length crv :: .pointer (some ⟨Z, 0, none⟩) :: sl18 :: sl19 :: sl20 :: sl21 :: sl22 :: sl23 :: sl24 :: sl25 :: sl26 :: sl27 :: sl28 :: sl29 :: sl30 :: sl31 :: sl32 :: sl33 :: sl34 :: sl35 :: sl36 :: sl37 :: sl38 :: sl39 :: sl40 :: sl41 :: sl42 :: sl43 :: sl44 :: sl45 :: sl46 :: sl47 :: sl48 :: sl49 :: sl50 :: sl51 :: sl52 :: sl53 :: sl54 :: sl55 :: sl56 :: sl57 :: sl58 :: sl59 :: sl60 :: sl61 :: sl62 :: sl63 :: sl64 :: sl65 :: sl66 :: sl67 :: sl68 :: sl69 :: sl70 :: sl71 :: sl72 :: sl73 :: sl74 :: sl75 :: sl76 :: sl77 :: sl78 :: sl79 :: sl80 :: sl81 :: sl82 :: sl83 :: sl84 :: sl85 :: sl86 :: sl87 :: sl88 :: sl89 :: sl90 :: sl91 :: sl92 :: sl93 :: sl94 :: sl95 :: sl96 :: sl97 :: sl98 :: sl99 :: sl100 :: sl101 :: sl102 :: sl103 :: sl104 :: sl105 :: sl106 :: sl107 :: sl108 :: sl109 :: sl110 :: sl111 :: sl112 :: sl113 :: sl114 :: sl115 :: sl116 :: sl117 :: sl118 :: sl119 :: sl120 :: sl121 :: sl122 :: sl123 :: sl124 :: sl125 :: sl126 :: sl127 :: sl128 :: sl129 :: sl130 :: sl131 :: sl132 :: sl133 :: sl134 :: sl135 :: sl136 :: sl137 :: sl138 :: sl139 :: sl140 :: sl141 :: sl142 :: sl143 :: sl144 :: sl145 :: sl146 :: sl147 :: sl148 :: sl149 :: sl150 :: sl151 :: sl152 :: sl153 :: sl154 :: sl155 :: sl156 :: sl157 :: sl158 :: sl159 :: sl160 :: sl161 :: sl162 :: sl163 :: sl164 :: sl165 :: sl166 :: sl167 :: sl168 :: sl169 :: sl170 :: sl171 :: sl172 :: sl173 :: sl174 :: sl175 :: sl176 :: sl177 :: sl178 :: sl179 :: sl180 :: sl181 :: sl182 :: sl183 :: sl184 :: sl185 :: sl186 :: sl187 :: sl188 :: sl189 :: sl190 :: sl191 :: sl192 :: sl193 :: sl194 :: sl195 :: sl196 :: sl197 :: sl198 :: sl199 :: sl200 :: sl201 :: sl202 :: sl203 :: sl204 :: sl205 :: sl206 :: sl207 :: sl208 :: sl209 :: sl210 :: sl211 :: sl212 :: sl213 :: sl214 :: sl215 :: sl216 :: sl217 :: sl218 :: sl219 :: sl220 :: sl221 :: sl222 :: sl223 :: sl224 :: sl225 :: sl226 :: sl227 :: sl228 :: sl229 :: sl230 :: sl231 :: sl232 :: sl233 :: sl234 :: sl235 :: sl236 :: sl237 :: sl238 :: sl239 :: sl240 :: sl241 :: sl242 :: sl243 :: sl244 :: sl245 :: sl246 :: sl247 :: sl248 :: sl249 :: sl250 :: sl251 :: sl252 :: sl253 :: sl254 :: sl255 :: sl256 :: sl257 :: sl258 :: sl259 :: sl260 :: sl261 :: sl262 :: sl263 :: sl264 :: sl265 :: sl266 :: sl267 :: sl268 :: sl269 :: sl270 :: sl271 :: sl272 :: sl273 :: sl274 :: sl275 :: sl276 :: sl277 :: sl278 :: sl279 :: sl280 :: sl281 :: sl282 :: sl283 :: sl284 :: sl285 :: sl286 :: sl287 :: sl288 :: sl289 :: sl290 :: sl291 :: sl292 :: sl293 :: sl294 :: sl295 :: sl296 :: sl297 :: sl298 :: sl299 :: sl300 :: sl301 :: sl302 :: sl303 :: sl304 :: sl305 :: sl306 :: sl307 :: sl308 :: sl309 :: sl310 :: sl311 :: sl312 :: sl313 :: sl314 :: sl315 :: sl316 :: sl317 :: sl318 :: sl319 :: sl320 :: sl321 :: sl322 :: sl323 :: sl324 :: sl325 :: sl326 :: sl327 :: sl328 :: sl329 :: sl330 :: sl331 :: sl332 :: sl333 :: sl334 :: sl335 :: sl336 :: sl337 :: sl338 :: sl339 :: sl340 :: sl341 :: sl342 :: sl343 :: sl344 :: sl345 :: sl346 :: sl347 :: sl348 :: sl349 :: sl350 :: sl351 :: sl352 :: sl353 :: sl354 :: sl355 :: sl356 :: sl357 :: sl358 :: sl359 :: sl360 :: sl361 :: sl362 :: sl363 :: sl364 :: sl365 :: sl366 :: sl367 :: sl368 :: sl369 :: sl370 :: sl371 :: sl372 :: sl373 :: sl374 :: sl375 :: sl376 :: sl377 :: sl378 :: sl379 :: sl380 :: sl381 :: sl382 :: sl383 :: sl384 :: sl385 :: sl386 :: sl387 :: sl388 :: sl389 :: sl390 :: sl391 :: sl392 :: sl393 :: sl394 :: sl395 :: sl396 :: sl397 :: sl398 :: sl399 :: sl400 :: sl401 :: sl402 :: sl403 :: sl404 :: sl405 :: sl406 :: sl407 :: sl408 :: sl409 :: sl410 :: sl411 :: sl412 :: sl413 :: sl414 :: sl415 :: sl416 :: sl417 :: sl418 :: sl419 :: sl420 :: sl421 :: sl422 :: sl423 :: sl424 :: sl425 :: sl426 :: sl427 :: []), []⟩ WR := by
 conv => arg 2; whnf
 have zWR := z4
 have hXg : some w.heap.size ≠ (Value.slice arv C.length crv).ownBlock := fun e => by have := (HG4.out _ e.symm).1; omega
 have hZg : some Z ≠ (Value.slice arv C.length crv).ownBlock := fun e => by have := (HG4.out _ e.symm).2; omega
 have hC5' : C.length ≤ 5 := hC5
 have HS29 := Lib.hid (show ∀ w', Kept29 D Wc (.slice arv C.length crv) C WR w' → (w'.cell? ⟨w.heap.size, 0, none⟩ = some (.int .i64 id0) ∧ w'.cell? ⟨w.heap.size, 1, none⟩ = some (.int .i64 ver0) ∧ w'.cell? ⟨w.heap.size, 2, none⟩ = some (.slice ra vals0.length rc)) ∧ w'.cell? ⟨Z, 0, none⟩ = some (.int .i64 oid) ∧ w'.cell? ⟨Z, 1, none⟩ = some (.int .i64 over) ∧ w'.cell? ⟨Z, 2, none⟩ = some (.slice oa ovals.length oc) from
  fun w' h => ⟨cells3 (h.keep _ _ hXg KR.out.x), cells3 (h.keep _ _ hZg HZr.out)⟩)
 have k0 : Kept29 D Wc (.slice arv C.length crv) C WR WR.drew := (Kept29.start HRm.out.own).below (Below.refl _ _).drew
 refine wp_region_noPanic ?_
 refine wp_region_held_drew (S := (fun w' => (w'.cell? ⟨w.heap.size, 0, none⟩ = some (.int .i64 id0) ∧ w'.cell? ⟨w.heap.size, 1, none⟩ = some (.int .i64 ver0) ∧ w'.cell? ⟨w.heap.size, 2, none⟩ = some (.slice ra vals0.length rc)) ∧ w'.cell? ⟨Z, 0, none⟩ = some (.int .i64 oid) ∧ w'.cell? ⟨Z, 1, none⟩ = some (.int .i64 over) ∧ w'.cell? ⟨Z, 2, none⟩ = some (.slice oa ovals.length oc))) (by kernel_rfl) (HS29.out _ k0) (fun hHeld => ?_)
 refine tH 0 (h := ?_)
 refine tH 1 (h := ?_)
 refine tH 2 (h := ?_)
 refine tH 3 (h := ?_)
 refine tH 6 (h := ?_)
 refine tH 8 (h := ?_)
 refine tH 12 (h := ?_)
 refine wpAnyH_ready (rs := [4, 7]) (by kernel_rfl) (by simp) ?_
 refine AllReadyH.cons rfl (fun K hK => ?_) (AllReadyH.cons rfl (fun K hK => ?_) AllReadyH.nil)
 ·as_aux_lemma =>
   go_simp
   refine hK.out _ _ (HS29.out _ (k0.alloc _)) (fun hHeld => ?_)
   clear hK K
   try simp only [List.getElem_toArray, List.getElem_cons_zero, List.getElem_cons_succ, Act.put, List.setIfInBounds_toArray, List.set_cons_zero, List.set_cons_succ]
   refine wph_name (fun W1 hW1 => ?_)
   have k1 : Kept29 D Wc (.slice arv C.length crv) C WR W1 := by rw [hW1]; exact k0.alloc _
   have ga : W1.heap[WR.heap.size]? = some (.cells (encRV (⟨id0, ver0, ra, vals0.length, rc, vals0⟩ : RV)).toArray 44 (0, 0)) := by rw [hW1]; exact blk_new rfl
   have lga : WR.heap.size < W1.heap.size := lt_of_blk ga
   have zga : WR.heap.size ≤ WR.heap.size := by first | exact k0.size | exact Nat.le_refl _
   clear hW1 hHeld
   have hHeld := HS29.out _ k1
   refine wpAnyH_ready (rs := [5, 7]) (by kernel_rfl) (by simp) ?_
   refine AllReadyH.cons rfl (fun K hK => ?_) (AllReadyH.cons rfl (fun K hK => ?_) AllReadyH.nil)
   ·as_aux_lemma =>
     refine wp_append_keep (.tmp 245) (.tmp 247) 35 (by rfl) D 44 (.agg #[.int .i64 0, .int .i64 0, .slice none 0 0]) 3 40 encRV (fun _ => rfl) one_encRV Tryz.underlying35 infoR rfl (by decide) (by decide) (wA := Wc) (v := (.slice arv C.length crv)) (A := C) (B := [(⟨id0, ver0, ra, vals0.length, rc, vals0⟩ : RV)]) (by rfl) k1.own (by rfl) (reads_block (size := 3) ga rfl) (by first | omega | (simp; omega)) ?_
     intro v5 W2 ho5 hold5 hk5 hz5 hat5
     obtain ⟨a5, c5, e5⟩ := own_slice ho5.1
     obtain ⟨n5, hlen5⟩ : ∃ n, (C ++ [(⟨id0, ver0, ra, vals0.length, rc, vals0⟩ : RV)]).length = n := ⟨_, rfl⟩
     rw [hlen5] at e5
     subst e5
     clear hlen5
     have k2 : Kept29 D Wc (.slice arv C.length crv) C WR W2 := k1.grow hold5 hk5 hz5
     have hl5 : ∀ k, (Value.slice a5 n5 c5).ownBlock = some k → k < W2.heap.size := fun k e => (World.ownsRow.lt ho5.1 k e).2
     refine hK.out _ _ (HS29.out _ k2) (fun hHeld => ?_)
     clear hK K
     try simp only [List.getElem_toArray, List.getElem_cons_zero, List.getElem_cons_succ, Act.put, List.setIfInBounds_toArray, List.set_cons_zero, List.set_cons_succ]
     refine wpAnyH_ready (rs := [7]) (by kernel_rfl) (by simp) ?_
     refine AllReadyH.cons rfl (fun K hK => ?_) AllReadyH.nil
     go_simp
     refine hK.out _ _ (HS29.out _ (k2.alloc _)) (fun hHeld => ?_)
     clear hK K
     try simp only [List.getElem_toArray, List.getElem_cons_zero, List.getElem_cons_succ, Act.put, List.setIfInBounds_toArray, List.set_cons_zero, List.set_cons_succ]
     refine wph_name (fun W3 hW3 => ?_)
     have k3 : Kept29 D Wc (.slice arv C.length crv) C WR W3 := by rw [hW3]; exact k2.alloc _
     have gb : W3.heap[W2.heap.size]? = some (.cells (encRV (⟨oid, over, oa, ovals.length, oc, ovals⟩ : RV)).toArray 44 (0, 0)) := by rw [hW3]; exact blk_new rfl
     have lgb : W2.heap.size < W3.heap.size := lt_of_blk gb
     have zgb : WR.heap.size ≤ W2.heap.size := by first | exact k2.size | exact Nat.le_refl _
     have ho5' : OwnM D 44 3 encRV Wc (.slice a5 n5 c5) (C ++ [(⟨id0, ver0, ra, vals0.length, rc, vals0⟩ : RV)]) W3 := by rw [hW3]; exact ho5.below ((Below.refl _ _).alloc (Nat.le_refl _) _)
     clear hW3 hHeld
     have hHeld := HS29.out _ k3
     refine wpAnyH_ready (rs := [9]) (by kernel_rfl) (by simp) ?_
     refine AllReadyH.cons rfl (fun K hK => ?_) AllReadyH.nil
     have hrd9 : Reads W3 3 (.slice arv C.length crv) C.length (C.flatMap encRV) := Vec.reads (k := 3) (enc := encRV) (fun _ => rfl) (OwnM.vec (size := 3) (enc := encRV) (fun _ => rfl) k3.own)
     have how9 := own_one (x := (⟨oid, over, oa, ovals.length, oc, ovals⟩ : RV)) k3.own.2 gb (by have := HRm.out.own.2.size; omega)
     refine wp_append_keep (.tmp 250) (.tmp 251) 35 (by rfl) D 44 (.agg #[.int .i64 0, .int .i64 0, .slice none 0 0]) 3 40 encRV (fun _ => rfl) one_encRV Tryz.underlying35 infoR rfl (by decide) (by decide) (wA := Wc) (v := .slice (some ⟨W2.heap.size, 0, none⟩) 1 1) (A := [(⟨oid, over, oa, ovals.length, oc, ovals⟩ : RV)]) (B := C) (by rfl) how9 (by rfl) hrd9 (by first | omega | (simp; omega)) ?_
     intro v9 W4 ho9 hold9 hk9 hz9 hat9
     obtain ⟨a9, c9, e9⟩ := own_slice ho9.1
     obtain ⟨n9, hlen9⟩ : ∃ n, ([(⟨oid, over, oa, ovals.length, oc, ovals⟩ : RV)] ++ C).length = n := ⟨_, rfl⟩
     rw [hlen9] at e9
     subst e9
     clear hlen9
     have k4 : Kept29 D Wc (.slice arv C.length crv) C WR W4 := k3.other HRm.out.own (by omega) ho9.2 hk9 hz9
     have hn5 : ∀ k, (Value.slice a5 n5 c5).ownBlock = some k → k ≠ W2.heap.size := fun k e => by have := hl5 k e; omega
     have ho5'' : OwnM D 44 3 encRV Wc (.slice a5 n5 c5) (C ++ [(⟨id0, ver0, ra, vals0.length, rc, vals0⟩ : RV)]) W4 := ho5'.kept ho9.2 (fun k o e ho => hk9 k o (fun e2 => hn5 k e (by cases e2; rfl)) ho)
     refine hK.out _ _ (HS29.out _ k4) (fun hHeld => ?_)
     clear hK K
     try simp only [List.getElem_toArray, List.getElem_cons_zero, List.getElem_cons_succ, Act.put, List.setIfInBounds_toArray, List.set_cons_zero, List.set_cons_succ]
     refine wpAnyH_ready (rs := [10]) (by kernel_rfl) (by simp) ?_
     refine AllReadyH.cons rfl (fun K hK => ?_) AllReadyH.nil
     go_simp
     skip
     refine hK.out _ _ (HS29.out _ (k4.alloc _)) (fun hHeld => ?_)
     clear hK K
     try simp only [List.getElem_toArray, List.getElem_cons_zero, List.getElem_cons_succ, Act.put, List.setIfInBounds_toArray, List.set_cons_zero, List.set_cons_succ]
     refine tH 11 (h := ?_)
     refine wpAnyH_done (by kernel_rfl) ?_ _
     refine NoPanic.normal ?_
     go_wp2_with fail
     exact Lib.hid (rtwo_mk ⟨rfl, rfl, _, .slice a5 n5 c5, .slice a9 n9 c9, rfl, blk_new rfl, ho5''.below ((Below.refl _ _).alloc (Nat.le_refl _) _), ho9.below ((Below.refl _ _).alloc (Nat.le_refl _) _), k4.alloc _⟩)
   ·as_aux_lemma =>
     go_simp
     refine hK.out _ _ (HS29.out _ (k1.alloc _)) (fun hHeld => ?_)
     clear hK K
     try simp only [List.getElem_toArray, List.getElem_cons_zero, List.getElem_cons_succ, Act.put, List.setIfInBounds_toArray, List.set_cons_zero, List.set_cons_succ]
     refine wph_name (fun W2 hW2 => ?_)
     have k2 : Kept29 D Wc (.slice arv C.length crv) C WR W2 := by rw [hW2]; exact k1.alloc _
     have gb : W2.heap[W1.heap.size]? = some (.cells (encRV (⟨oid, over, oa, ovals.length, oc, ovals⟩ : RV)).toArray 44 (0, 0)) := by rw [hW2]; exact blk_new rfl
     have lgb : W1.heap.size < W2.heap.size := lt_of_blk gb
     have zgb : WR.heap.size ≤ W1.heap.size := by first | exact k1.size | exact Nat.le_refl _
     have ga2 : W2.heap[WR.heap.size]? = some (.cells (encRV (⟨id0, ver0, ra, vals0.length, rc, vals0⟩ : RV)).toArray 44 (0, 0)) := by rw [hW2]; exact blk_old ga
     clear hW2 hHeld
     have hHeld := HS29.out _ k2
     refine wpAnyH_ready (rs := [5]) (by kernel_rfl) (by simp) ?_
     refine AllReadyH.cons rfl (fun K hK => ?_) AllReadyH.nil
     refine wp_append_keep (.tmp 245) (.tmp 247) 35 (by rfl) D 44 (.agg #[.int .i64 0, .int .i64 0, .slice none 0 0]) 3 40 encRV (fun _ => rfl) one_encRV Tryz.underlying35 infoR rfl (by decide) (by decide) (wA := Wc) (v := (.slice arv C.length crv)) (A := C) (B := [(⟨id0, ver0, ra, vals0.length, rc, vals0⟩ : RV)]) (by rfl) k2.own (by rfl) (reads_block (size := 3) ga2 rfl) (by first | omega | (simp; omega)) ?_
     intro v5 W3 ho5 hold5 hk5 hz5 hat5
     obtain ⟨a5, c5, e5⟩ := own_slice ho5.1
     obtain ⟨n5, hlen5⟩ : ∃ n, (C ++ [(⟨id0, ver0, ra, vals0.length, rc, vals0⟩ : RV)]).length = n := ⟨_, rfl⟩
     rw [hlen5] at e5
     subst e5
     clear hlen5
     have k3 : Kept29 D Wc (.slice arv C.length crv) C WR W3 := k2.grow hold5 hk5 hz5
     have gb3 : W3.heap[W1.heap.size]? = some (.cells (encRV (⟨oid, over, oa, ovals.length, oc, ovals⟩ : RV)).toArray 44 (0, 0)) := hk5 _ _ (fun e => by have := (Kept29.lt (Wc := Wc) (w := WR) HRm.out.own _ e.symm).2; omega) gb
     have hn5 : ∀ k, (Value.slice a5 n5 c5).ownBlock = some k → k ≠ W1.heap.size := fun k e => by
      rcases hat5 with h5 | h5
      ·have := (Kept29.lt (Wc := Wc) (w := WR) HRm.out.own k (h5.symm.trans e)).2; omega
      ·have h6 := Option.some.inj (h5.symm.trans e); omega
     refine hK.out _ _ (HS29.out _ k3) (fun hHeld => ?_)
     clear hK K
     try simp only [List.getElem_toArray, List.getElem_cons_zero, List.getElem_cons_succ, Act.put, List.setIfInBounds_toArray, List.set_cons_zero, List.set_cons_succ]
     refine wpAnyH_ready (rs := [9]) (by kernel_rfl) (by simp) ?_
     refine AllReadyH.cons rfl (fun K hK => ?_) AllReadyH.nil
     have hrd9 : Reads W3 3 (.slice arv C.length crv) C.length (C.flatMap encRV) := Vec.reads (k := 3) (enc := encRV) (fun _ => rfl) (OwnM.vec (size := 3) (enc := encRV) (fun _ => rfl) k3.own)
     have how9 := own_one (x := (⟨oid, over, oa, ovals.length, oc, ovals⟩ : RV)) k3.own.2 gb3 (by have := HRm.out.own.2.size; omega)
     refine wp_append_keep (.tmp 250) (.tmp 251) 35 (by rfl) D 44 (.agg #[.int .i64 0, .int .i64 0, .slice none 0 0]) 3 40 encRV (fun _ => rfl) one_encRV Tryz.underlying35 infoR rfl (by decide) (by decide) (wA := Wc) (v := .slice (some ⟨W1.heap.size, 0, none⟩) 1 1) (A := [(⟨oid, over, oa, ovals.length, oc, ovals⟩ : RV)]) (B := C) (by rfl) how9 (by rfl) hrd9 (by first | omega | (simp; omega)) ?_
     intro v9 W4 ho9 hold9 hk9 hz9 hat9
     obtain ⟨a9, c9, e9⟩ := own_slice ho9.1
     obtain ⟨n9, hlen9⟩ : ∃ n, ([(⟨oid, over, oa, ovals.length, oc, ovals⟩ : RV)] ++ C).length = n := ⟨_, rfl⟩
     rw [hlen9] at e9
     subst e9
     clear hlen9
     have k4 : Kept29 D Wc (.slice arv C.length crv) C WR W4 := k3.other HRm.out.own (by omega) ho9.2 hk9 hz9
     have ho5' : OwnM D 44 3 encRV Wc (.slice a5 n5 c5) (C ++ [(⟨id0, ver0, ra, vals0.length, rc, vals0⟩ : RV)]) W4 := ho5.kept ho9.2 (fun k o e ho => hk9 k o (fun e2 => hn5 k e (by cases e2; rfl)) ho)
     refine hK.out _ _ (HS29.out _ k4) (fun hHeld => ?_)
     clear hK K
     try simp only [List.getElem_toArray, List.getElem_cons_zero, List.getElem_cons_succ, Act.put, List.setIfInBounds_toArray, List.set_cons_zero, List.set_cons_succ]
     refine wpAnyH_ready (rs := [10]) (by kernel_rfl) (by simp) ?_
     refine AllReadyH.cons rfl (fun K hK => ?_) AllReadyH.nil
     go_simp
     skip
     refine hK.out _ _ (HS29.out _ (k4.alloc _)) (fun hHeld => ?_)
     clear hK K
     try simp only [List.getElem_toArray, List.getElem_cons_zero, List.getElem_cons_succ, Act.put, List.setIfInBounds_toArray, List.set_cons_zero, List.set_cons_succ]
     refine tH 11 (h := ?_)
     refine wpAnyH_done (by kernel_rfl) ?_ _
     refine NoPanic.normal ?_
     go_wp2_with fail
     exact Lib.hid (rtwo_mk ⟨rfl, rfl, _, .slice a5 n5 c5, .slice a9 n9 c9, rfl, blk_new rfl, ho5'.below ((Below.refl _ _).alloc (Nat.le_refl _) _), ho9.below ((Below.refl _ _).alloc (Nat.le_refl _) _), k4.alloc _⟩)
 ·as_aux_lemma =>
   go_simp
   refine hK.out _ _ (HS29.out _ (k0.alloc _)) (fun hHeld => ?_)
   clear hK K
   try simp only [List.getElem_toArray, List.getElem_cons_zero, List.getElem_cons_succ, Act.put, List.setIfInBounds_toArray, List.set_cons_zero, List.set_cons_succ]
   refine wph_name (fun W1 hW1 => ?_)
   have k1 : Kept29 D Wc (.slice arv C.length crv) C WR W1 := by rw [hW1]; exact k0.alloc _
   have gb : W1.heap[WR.heap.size]? = some (.cells (encRV (⟨oid, over, oa, ovals.length, oc, ovals⟩ : RV)).toArray 44 (0, 0)) := by rw [hW1]; exact blk_new rfl
   have lgb : WR.heap.size < W1.heap.size := lt_of_blk gb
   have zgb : WR.heap.size ≤ WR.heap.size := by first | exact k0.size | exact Nat.le_refl _
   clear hW1 hHeld
   have hHeld := HS29.out _ k1
   refine wpAnyH_ready (rs := [4]) (by kernel_rfl) (by simp) ?_
   refine AllReadyH.cons rfl (fun K hK => ?_) AllReadyH.nil
   go_simp
   refine hK.out _ _ (HS29.out _ (k1.alloc _)) (fun hHeld => ?_)
   clear hK K
   try simp only [List.getElem_toArray, List.getElem_cons_zero, List.getElem_cons_succ, Act.put, List.setIfInBounds_toArray, List.set_cons_zero, List.set_cons_succ]
   refine wph_name (fun W2 hW2 => ?_)
   have k2 : Kept29 D Wc (.slice arv C.length crv) C WR W2 := by rw [hW2]; exact k1.alloc _
   have ga : W2.heap[W1.heap.size]? = some (.cells (encRV (⟨id0, ver0, ra, vals0.length, rc, vals0⟩ : RV)).toArray 44 (0, 0)) := by rw [hW2]; exact blk_new rfl
   have lga : W1.heap.size < W2.heap.size := lt_of_blk ga
   have zga : WR.heap.size ≤ W1.heap.size := by first | exact k1.size | exact Nat.le_refl _
   have gb2 : W2.heap[WR.heap.size]? = some (.cells (encRV (⟨oid, over, oa, ovals.length, oc, ovals⟩ : RV)).toArray 44 (0, 0)) := by rw [hW2]; exact blk_old gb
   clear hW2 hHeld
   have hHeld := HS29.out _ k2
   refine wpAnyH_ready (rs := [5]) (by kernel_rfl) (by simp) ?_
   refine AllReadyH.cons rfl (fun K hK => ?_) AllReadyH.nil
   refine wp_append_keep (.tmp 245) (.tmp 247) 35 (by rfl) D 44 (.agg #[.int .i64 0, .int .i64 0, .slice none 0 0]) 3 40 encRV (fun _ => rfl) one_encRV Tryz.underlying35 infoR rfl (by decide) (by decide) (wA := Wc) (v := (.slice arv C.length crv)) (A := C) (B := [(⟨id0, ver0, ra, vals0.length, rc, vals0⟩ : RV)]) (by rfl) k2.own (by rfl) (reads_block (size := 3) ga rfl) (by first | omega | (simp; omega)) ?_
   intro v5 W3 ho5 hold5 hk5 hz5 hat5
   obtain ⟨a5, c5, e5⟩ := own_slice ho5.1
   obtain ⟨n5, hlen5⟩ : ∃ n, (C ++ [(⟨id0, ver0, ra, vals0.length, rc, vals0⟩ : RV)]).length = n := ⟨_, rfl⟩
   rw [hlen5] at e5
   subst e5
   clear hlen5
   have k3 : Kept29 D Wc (.slice arv C.length crv) C WR W3 := k2.grow hold5 hk5 hz5
   have gb3 : W3.heap[WR.heap.size]? = some (.cells (encRV (⟨oid, over, oa, ovals.length, oc, ovals⟩ : RV)).toArray 44 (0, 0)) := hk5 _ _ (fun e => by have := (Kept29.lt (Wc := Wc) (w := WR) HRm.out.own _ e.symm).2; omega) gb2
   have hn5 : ∀ k, (Value.slice a5 n5 c5).ownBlock = some k → k ≠ WR.heap.size := fun k e => by
    rcases hat5 with h5 | h5
    ·have := (Kept29.lt (Wc := Wc) (w := WR) HRm.out.own k (h5.symm.trans e)).2; omega
    ·have h6 := Option.some.inj (h5.symm.trans e); omega
   refine hK.out _ _ (HS29.out _ k3) (fun hHeld => ?_)
   clear hK K
   try simp only [List.getElem_toArray, List.getElem_cons_zero, List.getElem_cons_succ, Act.put, List.setIfInBounds_toArray, List.set_cons_zero, List.set_cons_succ]
   refine wpAnyH_ready (rs := [9]) (by kernel_rfl) (by simp) ?_
   refine AllReadyH.cons rfl (fun K hK => ?_) AllReadyH.nil
   have hrd9 : Reads W3 3 (.slice arv C.length crv) C.length (C.flatMap encRV) := Vec.reads (k := 3) (enc := encRV) (fun _ => rfl) (OwnM.vec (size := 3) (enc := encRV) (fun _ => rfl) k3.own)
   have how9 := own_one (x := (⟨oid, over, oa, ovals.length, oc, ovals⟩ : RV)) k3.own.2 gb3 (by have := HRm.out.own.2.size; omega)
   refine wp_append_keep (.tmp 250) (.tmp 251) 35 (by rfl) D 44 (.agg #[.int .i64 0, .int .i64 0, .slice none 0 0]) 3 40 encRV (fun _ => rfl) one_encRV Tryz.underlying35 infoR rfl (by decide) (by decide) (wA := Wc) (v := .slice (some ⟨WR.heap.size, 0, none⟩) 1 1) (A := [(⟨oid, over, oa, ovals.length, oc, ovals⟩ : RV)]) (B := C) (by rfl) how9 (by rfl) hrd9 (by first | omega | (simp; omega)) ?_
   intro v9 W4 ho9 hold9 hk9 hz9 hat9
   obtain ⟨a9, c9, e9⟩ := own_slice ho9.1
   obtain ⟨n9, hlen9⟩ : ∃ n, ([(⟨oid, over, oa, ovals.length, oc, ovals⟩ : RV)] ++ C).length = n := ⟨_, rfl⟩
   rw [hlen9] at e9
   subst e9
   clear hlen9
   have k4 : Kept29 D Wc (.slice arv C.length crv) C WR W4 := k3.other HRm.out.own (by omega) ho9.2 hk9 hz9
   have ho5' : OwnM D 44 3 encRV Wc (.slice a5 n5 c5) (C ++ [(⟨id0, ver0, ra, vals0.length, rc, vals0⟩ : RV)]) W4 := ho5.kept ho9.2 (fun k o e ho => hk9 k o (fun e2 => hn5 k e (by cases e2; rfl)) ho)
   refine hK.out _ _ (HS29.out _ k4) (fun hHeld => ?_)
   clear hK K
   try simp only [List.getElem_toArray, List.getElem_cons_zero, List.getElem_cons_succ, Act.put, List.setIfInBounds_toArray, List.set_cons_zero, List.set_cons_succ]
   refine wpAnyH_ready (rs := [10]) (by kernel_rfl) (by simp) ?_
   refine AllReadyH.cons rfl (fun K hK => ?_) AllReadyH.nil
   go_simp
   skip
   refine hK.out _ _ (HS29.out _ (k4.alloc _)) (fun hHeld => ?_)
   clear hK K
   try simp only [List.getElem_toArray, List.getElem_cons_zero, List.getElem_cons_succ, Act.put, List.setIfInBounds_toArray, List.set_cons_zero, List.set_cons_succ]
   refine tH 11 (h := ?_)
   refine wpAnyH_done (by kernel_rfl) ?_ _
   refine NoPanic.normal ?_
   go_wp2_with fail
   exact Lib.hid (rtwo_mk ⟨rfl, rfl, _, .slice a5 n5 c5, .slice a9 n9 c9, rfl, blk_new rfl, ho5'.below ((Below.refl _ _).alloc (Nat.le_refl _) _), ho9.below ((Below.refl _ _).alloc (Nat.le_refl _) _), k4.alloc _⟩)
end
section
set_option maxRecDepth 100000
open Go.RowKit Cal
attribute [local go_sem] toList_mk mk_size bytes_append str_append
set_option maxHeartbeats 16000000 in
theorem rexLists (w : World) (id0 ver0 : Int) (ra : Option Addr) (rc : Nat) (vals0 : List (List UInt8)) (t0 : List UInt8) (cut : Int) (HVar : Hid (VarsAt w)) (HDb : Hid (DbAt w)) (HRaw : Hid (Vec w Any1 1 encS (.slice ra vals0.length rc) vals0)) (HCw : Hid (-9223372036854775808 ≤ cut ∧ cut ≤ 9223372036854775807)) (hn1 : vals0.length ≤ 20) (ht : t0.length ≤ 600) (HS200 : Hid (∀ x ∈ vals0, x.length ≤ 200)) (Y : Nat) (af at' an as' : Option Addr) (N cf nt ct nk cn ns cs : Nat) (s : SchemaL) (HCs : Hid (checkS s = 0)) (C : List RV) (arv : Option Addr) (crv : Nat) (hC5 : C.length ≤ 5) (Z : Nat) (oid over : Int) (ovals : List (List UInt8)) (oa : Option Addr) (oc : Nat) (HOw : Hid (RawOk ⟨oid, over, ovals⟩)) (HRk : Hid (∀ r ∈ C.map pR, RawOk r)) (HRw : Hid (RawOk ⟨id0, ver0, vals0⟩)) (WM : World) (HYM : Hid (WM.heap[Y]? = some (.cells #[.slice af N cf, .slice at' nt ct, .slice an nk cn, .slice as' ns cs] 33 (0, 0)))) (HXM : Hid (WM.heap[w.heap.size]? = some (.cells #[.int .i64 id0, .int .i64 ver0, .slice ra vals0.length rc] 44 (0, 0)))) (HZM : Hid (WM.heap[Z]? = some (.cells #[.int .i64 oid, .int .i64 over, .slice oa ovals.length oc] 44 (0, 0)))) (HSM : Hid (SchemaAt WM Any1 (.slice af N cf) (.slice at' nt ct) (.slice an nk cn) (.slice as' ns cs) s)) (HOM : Hid (Vec WM Any1 1 encS (.slice oa ovals.length oc) ovals)) (HRC : Hid (RecsVec WM Any1 (.slice arv C.length crv) (C.map pR))) (HBM : Hid (Below w.heap.size w WM)) (G4 : Nat) (lG4 : G4 < WM.heap.size) (HQ4 : Hid (∀ k, k < 4 → ∃ (v : Value) (R : List RecL), WM.cell? ⟨G4, k, none⟩ = some v ∧ RecsVec WM Any1 v R ∧ (∀ r ∈ R, RawOk r) ∧ R.length ≤ 100)) (sl0 sl1 sl2 sl3 sl6 sl8 sl9 sl10 sl11 sl12 sl13 sl14 sl18 sl19 sl20 sl21 sl22 sl23 sl24 sl25 sl26 sl27 sl28 sl29 sl30 sl31 sl32 sl33 sl34 sl35 sl36 sl37 sl38 sl39 sl40 sl41 sl42 sl43 sl44 sl45 sl46 sl47 sl48 sl49 sl50 sl51 sl52 sl53 sl54 sl55 sl56 sl57 sl58 sl59 sl60 sl61 sl62 sl63 sl64 sl65 sl66 sl67 sl68 sl69 sl70 sl71 sl72 sl73 sl74 sl75 sl76 sl77 sl78 sl79 sl80 sl81 sl82 sl83 sl84 sl85 sl86 sl87 sl88 sl89 sl90 sl91 sl92 sl93 sl94 sl95 sl96 sl97 sl98 sl99 sl100 sl101 sl102 sl103 sl104 sl105 sl106 sl107 sl108 sl109 sl110 sl111 sl112 sl113 sl114 sl115 sl116 sl117 sl118 sl119 sl120 sl121 sl122 sl123 sl124 sl125 sl126 sl127 sl128 sl129 sl130 sl131 sl132 sl133 sl134 sl135 sl136 sl137 sl138 sl139 sl140 sl141 sl142 sl143 sl144 sl145 sl146 sl147 sl148 sl149 sl150 sl151 sl152 sl153 sl154 sl155 sl156 sl157 sl158 sl159 sl160 sl161 sl162 sl163 sl164 sl165 sl166 sl167 sl168 sl169 sl170 sl171 sl172 sl173 sl174 sl175 sl176 sl177 sl178 sl179 sl180 sl181 sl182 sl183 sl184 sl185 sl186 sl187 sl188 sl189 sl190 sl191 sl192 sl193 sl194 sl195 sl196 sl197 sl198 sl199 sl200 sl201 sl202 sl203 sl204 sl205 sl206 sl207 sl208 sl209 sl210 sl211 sl212 sl213 sl214 sl215 sl216 sl217 sl218 sl219 sl220 sl221 sl222 sl223 sl224 sl225 sl226 sl227 sl228 sl229 sl230 sl231 sl232 sl233 sl234 sl235 sl236 sl237 sl238 sl239 sl240 sl241 sl242 sl243 sl244 sl245 sl246 sl247 sl248 sl249 sl250 sl251 sl252 sl256 sl257 sl258 sl259 sl260 sl261 sl262 sl263 sl264 sl265 sl266 sl267 sl268 sl269 sl270 sl271 sl272 sl273 sl274 sl275 sl276 sl277 sl278 sl279 sl280 sl281 sl282 sl283 sl284 sl285 sl286 sl287 sl288 sl289 sl290 sl291 sl292 sl293 sl294 sl295 sl296 sl297 sl298 sl299 sl300 sl301 sl302 sl303 sl304 sl305 sl306 sl307 sl308 sl309 sl310 sl311 sl312 sl313 sl314 sl315 sl316 sl317 sl318 sl319 sl320 sl321 sl322 sl323 sl324 sl325 sl326 sl327 sl328 sl329 sl330 sl331 sl332 sl333 sl334 sl335 sl336 sl337 sl338 sl339 sl340 sl341 sl342 sl343 sl344 sl345 sl346 sl347 sl348 sl349 sl350 sl351 sl352 sl353 sl354 sl355 sl356 sl357 sl358 sl359 sl360 sl361 sl362 sl363 sl364 sl365 sl366 sl367 sl368 sl369 sl370 sl371 sl372 sl373 sl374 sl375 sl376 sl377 sl378 sl379 sl380 sl381 sl382 sl383 sl384 sl385 sl386 sl387 sl388 sl389 sl390 sl391 sl392 sl393 sl394 sl395 sl396 sl397 sl398 sl399 sl400 sl401 sl402 sl403 sl404 sl405 sl406 sl407 sl408 sl409 sl410 sl411 sl412 sl413 sl414 sl415 sl416 sl417 sl418 sl419 sl420 sl421 sl422 sl423 sl424 sl425 sl426 sl427 : Value) (K : Act → World → Prop) (Q' : Exit → Act → World → Prop)
  (hK : ∀ (tl0 tl1 tl2 tl3 tl6 tl8 tl9 tl10 tl11 tl12 tl13 tl14 tl18 tl19 tl20 tl21 tl22 tl23 tl24 tl25 tl26 tl27 tl28 tl29 tl30 tl31 tl32 tl33 tl34 tl35 tl36 tl37 tl38 tl39 tl40 tl41 tl42 tl43 tl44 tl45 tl46 tl47 tl48 tl49 tl50 tl51 tl52 tl53 tl54 tl55 tl56 tl57 tl58 tl59 tl60 tl61 tl62 tl63 tl64 tl65 tl66 tl67 tl68 tl69 tl70 tl71 tl72 tl73 tl74 tl75 tl76 tl77 tl78 tl79 tl80 tl81 tl82 tl83 tl84 tl85 tl86 tl87 tl88 tl89 tl90 tl91 tl92 tl93 tl94 tl95 tl96 tl97 tl98 tl99 tl100 tl101 tl102 tl103 tl104 tl105 tl106 tl107 tl108 tl109 tl110 tl111 tl112 tl113 tl114 tl115 tl116 tl117 tl118 tl119 tl120 tl121 tl122 tl123 tl124 tl125 tl126 tl127 tl128 tl129 tl130 tl131 tl132 tl133 tl134 tl135 tl136 tl137 tl138 tl139 tl140 tl141 tl142 tl143 tl144 tl145 tl146 tl147 tl148 tl149 tl150 tl151 tl152 tl153 tl154 tl155 tl156 tl157 tl158 tl159 tl160 tl161 tl162 tl163 tl164 tl165 tl166 tl167 tl168 tl169 tl170 tl171 tl172 tl173 tl174 tl175 tl176 tl177 tl178 tl179 tl180 tl181 tl182 tl183 tl184 tl185 tl186 tl187 tl188 tl189 tl190 tl191 tl192 tl193 tl194 tl195 tl196 tl197 tl198 tl199 tl200 tl201 tl202 tl203 tl204 tl205 tl206 tl207 tl208 tl209 tl210 tl211 tl212 tl213 tl214 tl215 tl216 tl217 tl218 tl219 tl220 tl221 tl222 tl223 tl224 tl225 tl226 tl227 tl228 tl229 tl230 tl231 tl232 tl233 tl234 tl235 tl236 tl237 tl238 tl239 tl240 tl241 tl242 tl243 tl244 tl245 tl246 tl247 tl248 tl249 tl250 tl251 tl252 tl253 tl254 tl255 tl256 tl257 tl258 tl259 tl260 tl261 tl262 tl263 tl264 tl265 tl266 tl267 tl268 tl269 tl270 tl271 tl272 tl273 tl274 tl275 tl276 tl277 tl278 tl279 tl280 tl281 tl282 tl283 tl284 tl285 tl286 tl287 tl288 tl289 tl290 tl291 tl292 tl293 tl294 tl295 tl296 tl297 tl298 tl299 tl300 tl301 tl302 tl303 tl304 tl305 tl306 tl307 tl308 tl309 tl310 tl311 tl312 tl313 tl314 tl315 tl316 tl317 tl318 tl319 tl320 tl321 tl322 tl323 tl324 tl325 tl326 tl327 tl328 tl329 tl330 tl331 tl332 tl333 tl334 tl335 tl336 tl337 tl338 tl339 tl340 tl341 tl342 tl343 tl344 tl345 tl346 tl347 tl348 tl349 tl350 tl351 tl352 tl353 tl354 tl355 tl356 tl357 tl358 tl359 tl360 tl361 tl362 tl363 tl364 tl365 tl366 tl367 tl368 tl369 tl370 tl371 tl372 tl373 tl374 tl375 tl376 tl377 tl378 tl379 tl380 tl381 tl382 tl383 tl384 tl385 tl386 tl387 tl388 tl389 tl390 tl391 tl392 tl393 tl394 tl395 tl396 tl397 tl398 tl399 tl400 tl401 tl402 tl403 tl404 tl405 tl406 tl407 tl408 tl409 tl410 tl411 tl412 tl413 tl414 tl415 tl416 tl417 tl418 tl419 tl420 tl421 tl422 tl423 tl424 tl425 tl426 tl427 : Value) (wx : World), Hid (Below WM.heap.size WM wx) → K ⟨List.toArray (tl0 :: tl1 :: tl2 :: tl3 :: .string ⟨t0.toArray⟩ :: .int .i64 cut :: tl6 :: .pointer (some ⟨w.heap.size, 0, none⟩) :: tl8 :: tl9 :: tl10 :: tl11 :: tl12 :: tl13 :: tl14 :: .pointer (some ⟨Y, 0, none⟩) :: .slice arv C.length crv :: .pointer (some ⟨Z, 0, none⟩) :: tl18 :: tl19 :: tl20 :: tl21 :: tl22 :: tl23 :: tl24 :: tl25 :: tl26 :: tl27 :: tl28 :: tl29 :: tl30 :: tl31 :: tl32 :: tl33 :: tl34 :: tl35 :: tl36 :: tl37 :: tl38 :: tl39 :: tl40 :: tl41 :: tl42 :: tl43 :: tl44 :: tl45 :: tl46 :: tl47 :: tl48 :: tl49 :: tl50 :: tl51 :: tl52 :: tl53 :: tl54 :: tl55 :: tl56 :: tl57 :: tl58 :: tl59 :: tl60 :: tl61 :: tl62 :: tl63 :: tl64 :: tl65 :: tl66 :: tl67 :: tl68 :: tl69 :: tl70 :: tl71 :: tl72 :: tl73 :: tl74 :: tl75 :: tl76 :: tl77 :: tl78 :: tl79 :: tl80 :: tl81 :: tl82 :: tl83 :: tl84 :: tl85 :: tl86 :: tl87 :: tl88 :: tl89 :: tl90 :: tl91 :: tl92 :: tl93 :: tl94 :: tl95 :: tl96 :: tl97 :: tl98 :: tl99 :: tl100 :: tl101 :: tl102 :: tl103 :: tl104 :: tl105 :: tl106 :: tl107 :: tl108 :: tl109 :: tl110 :: tl111 :: tl112 :: tl113 :: tl114 :: tl115 :: tl116 :: tl117 :: tl118 :: tl119 :: tl120 :: tl121 :: tl122 :: tl123 :: tl124 :: tl125 :: tl126 :: tl127 :: tl128 :: tl129 :: tl130 :: tl131 :: tl132 :: tl133 :: tl134 :: tl135 :: tl136 :: tl137 :: tl138 :: tl139 :: tl140 :: tl141 :: tl142 :: tl143 :: tl144 :: tl145 :: tl146 :: tl147 :: tl148 :: tl149 :: tl150 :: tl151 :: tl152 :: tl153 :: tl154 :: tl155 :: tl156 :: tl157 :: tl158 :: tl159 :: tl160 :: tl161 :: tl162 :: tl163 :: tl164 :: tl165 :: tl166 :: tl167 :: tl168 :: tl169 :: tl170 :: tl171 :: tl172 :: tl173 :: tl174 :: tl175 :: tl176 :: tl177 :: tl178 :: tl179 :: tl180 :: tl181 :: tl182 :: tl183 :: tl184 :: tl185 :: tl186 :: tl187 :: tl188 :: tl189 :: tl190 :: tl191 :: tl192 :: tl193 :: tl194 :: tl195 :: tl196 :: tl197 :: tl198 :: tl199 :: tl200 :: tl201 :: tl202 :: tl203 :: tl204 :: tl205 :: tl206 :: tl207 :: tl208 :: tl209 :: tl210 :: tl211 :: tl212 :: tl213 :: tl214 :: tl215 :: tl216 :: tl217 :: tl218 :: tl219 :: tl220 :: tl221 :: tl222 :: tl223 :: tl224 :: tl225 :: tl226 :: tl227 :: tl228 :: tl229 :: tl230 :: tl231 :: tl232 :: tl233 :: tl234 :: tl235 :: tl236 :: tl237 :: tl238 :: tl239 :: tl240 :: tl241 :: tl242 :: tl243 :: tl244 :: tl245 :: tl246 :: tl247 :: tl248 :: tl249 :: tl250 :: tl251 :: tl252 :: tl253 :: tl254 :: tl255 :: tl256 :: tl257 :: tl258 :: tl259 :: tl260 :: tl261 :: tl262 :: tl263 :: tl264 :: tl265 :: tl266 :: tl267 :: tl268 :: tl269 :: tl270 :: tl271 :: tl272 :: tl273 :: tl274 :: tl275 :: tl276 :: tl277 :: tl278 :: tl279 :: tl280 :: tl281 :: tl282 :: tl283 :: tl284 :: tl285 :: tl286 :: tl287 :: tl288 :: tl289 :: tl290 :: tl291 :: tl292 :: tl293 :: tl294 :: tl295 :: tl296 :: tl297 :: tl298 :: tl299 :: tl300 :: tl301 :: tl302 :: tl303 :: tl304 :: tl305 :: tl306 :: tl307 :: tl308 :: tl309 :: tl310 :: tl311 :: tl312 :: tl313 :: tl314 :: tl315 :: tl316 :: tl317 :: tl318 :: tl319 :: tl320 :: tl321 :: tl322 :: tl323 :: tl324 :: tl325 :: tl326 :: tl327 :: tl328 :: tl329 :: tl330 :: tl331 :: tl332 :: tl333 :: tl334 :: tl335 :: tl336 :: tl337 :: tl338 :: tl339 :: tl340 :: tl341 :: tl342 :: tl343 :: tl344 :: tl345 :: tl346 :: tl347 :: tl348 :: tl349 :: tl350 :: tl351 :: tl352 :: tl353 :: tl354 :: tl355 :: tl356 :: tl357 :: tl358 :: tl359 :: tl360 :: tl361 :: tl362 :: tl363 :: tl364 :: tl365 :: tl366 :: tl367 :: tl368 :: tl369 :: tl370 :: tl371 :: tl372 :: tl373 :: tl374 :: tl375 :: tl376 :: tl377 :: tl378 :: tl379 :: tl380 :: tl381 :: tl382 :: tl383 :: tl384 :: tl385 :: tl386 :: tl387 :: tl388 :: tl389 :: tl390 :: tl391 :: tl392 :: tl393 :: tl394 :: tl395 :: tl396 :: tl397 :: tl398 :: tl399 :: tl400 :: tl401 :: tl402 :: tl403 :: tl404 :: tl405 :: tl406 :: tl407 :: tl408 :: tl409 :: tl410 :: tl411 :: tl412 :: tl413 :: tl414 :: tl415 :: tl416 :: tl417 :: tl418 :: tl419 :: tl420 :: tl421 :: tl422 :: tl423 :: tl424 :: tl425 :: tl426 :: tl427 :: []), []⟩ wx) :
  (rightOf (stmtOf Tryz.f4 29)).wp Tryz.prog (Exit.then K Q') ⟨List.toArray (sl0 :: sl1 :: sl2 :: sl3 :: .string ⟨t0.toArray⟩ :: .int .i64 cut :: sl6 :: .pointer (some ⟨w.heap.size, 0, none⟩) :: sl8 :: sl9 :: sl10 :: sl11 :: sl12 :: sl13 :: sl14 :: .pointer (some ⟨Y, 0, none⟩) :: .slice arv C.length crv :: .pointer (some ⟨Z, 0, none⟩) :: sl18 :: sl19 :: sl20 :: sl21 :: sl22 :: sl23 :: sl24 :: sl25 :: sl26 :: sl27 :: sl28 :: sl29 :: sl30 :: sl31 :: sl32 :: sl33 :: sl34 :: sl35 :: sl36 :: sl37 :: sl38 :: sl39 :: sl40 :: sl41 :: sl42 :: sl43 :: sl44 :: sl45 :: sl46 :: sl47 :: sl48 :: sl49 :: sl50 :: sl51 :: sl52 :: sl53 :: sl54 :: sl55 :: sl56 :: sl57 :: sl58 :: sl59 :: sl60 :: sl61 :: sl62 :: sl63 :: sl64 :: sl65 :: sl66 :: sl67 :: sl68 :: sl69 :: sl70 :: sl71 :: sl72 :: sl73 :: sl74 :: sl75 :: sl76 :: sl77 :: sl78 :: sl79 :: sl80 :: sl81 :: sl82 :: sl83 :: sl84 :: sl85 :: sl86 :: sl87 :: sl88 :: sl89 :: sl90 :: sl91 :: sl92 :: sl93 :: sl94 :: sl95 :: sl96 :: sl97 :: sl98 :: sl99 :: sl100 :: sl101 :: sl102 :: sl103 :: sl104 :: sl105 :: sl106 :: sl107 :: sl108 :: sl109 :: sl110 :: sl111 :: sl112 :: sl113 :: sl114 :: sl115 :: sl116 :: sl117 :: sl118 :: sl119 :: sl120 :: sl121 :: sl122 :: sl123 :: sl124 :: sl125 :: sl126 :: sl127 :: sl128 :: sl129 :: sl130 :: sl131 :: sl132 :: sl133 :: sl134 :: sl135 :: sl136 :: sl137 :: sl138 :: sl139 :: sl140 :: sl141 :: sl142 :: sl143 :: sl144 :: sl145 :: sl146 :: sl147 :: sl148 :: sl149 :: sl150 :: sl151 :: sl152 :: sl153 :: sl154 :: sl155 :: sl156 :: sl157 :: sl158 :: sl159 :: sl160 :: sl161 :: sl162 :: sl163 :: sl164 :: sl165 :: sl166 :: sl167 :: sl168 :: sl169 :: sl170 :: sl171 :: sl172 :: sl173 :: sl174 :: sl175 :: sl176 :: sl177 :: sl178 :: sl179 :: sl180 :: sl181 :: sl182 :: sl183 :: sl184 :: sl185 :: sl186 :: sl187 :: sl188 :: sl189 :: sl190 :: sl191 :: sl192 :: sl193 :: sl194 :: sl195 :: sl196 :: sl197 :: sl198 :: sl199 :: sl200 :: sl201 :: sl202 :: sl203 :: sl204 :: sl205 :: sl206 :: sl207 :: sl208 :: sl209 :: sl210 :: sl211 :: sl212 :: sl213 :: sl214 :: sl215 :: sl216 :: sl217 :: sl218 :: sl219 :: sl220 :: sl221 :: sl222 :: sl223 :: sl224 :: sl225 :: sl226 :: sl227 :: sl228 :: sl229 :: sl230 :: sl231 :: sl232 :: sl233 :: sl234 :: sl235 :: sl236 :: sl237 :: sl238 :: sl239 :: sl240 :: sl241 :: sl242 :: sl243 :: sl244 :: sl245 :: sl246 :: sl247 :: sl248 :: sl249 :: sl250 :: sl251 :: sl252 :: .slice (some ⟨G4, 0, none⟩) 4 4 :: .int .i64 4 :: .int .i64 0 :: sl256 :: sl257 :: sl258 :: sl259 :: sl260 :: sl261 :: sl262 :: sl263 :: sl264 :: sl265 :: sl266 :: sl267 :: sl268 :: sl269 :: sl270 :: sl271 :: sl272 :: sl273 :: sl274 :: sl275 :: sl276 :: sl277 :: sl278 :: sl279 :: sl280 :: sl281 :: sl282 :: sl283 :: sl284 :: sl285 :: sl286 :: sl287 :: sl288 :: sl289 :: sl290 :: sl291 :: sl292 :: sl293 :: sl294 :: sl295 :: sl296 :: sl297 :: sl298 :: sl299 :: sl300 :: sl301 :: sl302 :: sl303 :: sl304 :: sl305 :: sl306 :: sl307 :: sl308 :: sl309 :: sl310 :: sl311 :: sl312 :: sl313 :: sl314 :: sl315 :: sl316 :: sl317 :: sl318 :: sl319 :: sl320 :: sl321 :: sl322 :: sl323 :: sl324 :: sl325 :: sl326 :: sl327 :: sl328 :: sl329 :: sl330 :: sl331 :: sl332 :: sl333 :: sl334 :: sl335 :: sl336 :: sl337 :: sl338 :: sl339 :: sl340 :: sl341 :: sl342 :: sl343 :: sl344 :: sl345 :: sl346 :: sl347 :: sl348 :: sl349 :: sl350 :: sl351 :: sl352 :: sl353 :: sl354 :: sl355 :: sl356 :: sl357 :: sl358 :: sl359 :: sl360 :: sl361 :: sl362 :: sl363 :: sl364 :: sl365 :: sl366 :: sl367 :: sl368 :: sl369 :: sl370 :: sl371 :: sl372 :: sl373 :: sl374 :: sl375 :: sl376 :: sl377 :: sl378 :: sl379 :: sl380 :: sl381 :: sl382 :: sl383 :: sl384 :: sl385 :: sl386 :: sl387 :: sl388 :: sl389 :: sl390 :: sl391 :: sl392 :: sl393 :: sl394 :: sl395 :: sl396 :: sl397 :: sl398 :: sl399 :: sl400 :: sl401 :: sl402 :: sl403 :: sl404 :: sl405 :: sl406 :: sl407 :: sl408 :: sl409 :: sl410 :: sl411 :: sl412 :: sl413 :: sl414 :: sl415 :: sl416 :: sl417 :: sl418 :: sl419 :: sl420 :: sl421 :: sl422 :: sl423 :: sl424 :: sl425 :: sl426 :: sl427 :: []), []⟩ WM := by
 conv => arg 2; whnf
 let BP : Exit → Act → World → Prop := bodyPost Tryz.prog Tryz.f4 fun _ _ => True
 have lX := lt_of_blk HXM.out; have lY := lt_of_blk HYM.out
 go_wp2_with fail
 go_loopw [255] (fun i wr => ∃ k : Nat, k ≤ 4 ∧ i = .int .i64 k ∧ Below WM.heap.size WM wr) (fun i _ => 4 - (intOf i).toNat)
 case atStart => exact ⟨0, by omega, rfl, Below.refl _ _⟩
 case round =>
  obtain ⟨k, hk, rfl, hbw⟩ := hrel
  have HBk := Lib.hid hbw
  by_cases hlt : k < 4
  ·have hq : decide ((k : Int) < 4) = true := by simp; omega
   obtain ⟨qv, R, cq, hrv, hRk, hR1⟩ := HQ4.out k hlt
   have cq := (hbw.cell (p := ⟨G4, k, none⟩) lG4).trans cq
   have HRV := Lib.hid hrv
   have HR6 := Lib.hid (show ∀ r ∈ R, ∀ x ∈ r.vals, x.length ≤ 1000000 from fun r hr => (hRk r hr).s6); have HN6 := Lib.hid (show ∀ r ∈ R, r.vals.length ≤ 1000000 from fun r hr => (hRk r hr).n6)
   obtain ⟨⟨F, fe⟩, hF⟩ : ∃ p, fileN s R = p := ⟨_, rfl⟩
   obtain ⟨g1, hg1⟩ : ∃ c, allN s R = c := ⟨_, rfl⟩
   obtain ⟨g2, hg2⟩ : ∃ c, findA id0 0 R = c := ⟨_, rfl⟩
   obtain ⟨g3, hg3⟩ : ∃ c, findA 3 0 R = c := ⟨_, rfl⟩
   have HF := Lib.hid hF; have HG1 := Lib.hid hg1; have HG2 := Lib.hid hg2; have HG3 := Lib.hid hg3
   have d1 : (F != F) = false := by simp
   have d2 : (fe != fe) = false := by simp
   have d3 : (g1 != g1) = false := by simp
   have d4 : (g2 != g2) = false := by simp
   have d5 : (g3 != g3) = false := by simp
   obtain ⟨p0, p1, p2, p3⟩ := cellsS (blk_below hbw lY HYM.out)
   clear hbw hrv hRk hF hg1 hg2 hg3
   go_wp2_with fail
   refine (rFile_any Any1 Any1 _ _ _ _ _ s R wr (HSM.out.below HBk.out) (HRV.out.below HBk.out) (HVar.out.old (HBM.out.trans (HBk.out.mono HBM.out.size))) (HDb.out.old (HBM.out.trans (HBk.out.mono HBM.out.size))) HR6.out HN6.out (by omega)).mono ?_
   rw [HF.out]
   rintro e m1 ⟨rfl, hb⟩
   have B1 := Lib.hid (HBk.out.trans (hb.mono HBk.out.size))
   clear hb p0 p1 p2 p3 cq
   dsimp only
   obtain ⟨p0, p1, p2, p3⟩ := cellsS (blk_below B1.out lY HYM.out)
   go_wp2_with fail
   refine (rrFile_any Any1 Any1 _ _ _ _ _ s R m1 (HSM.out.below B1.out) (HRV.out.below B1.out) HR6.out HN6.out (by omega)).mono ?_
   rw [HF.out]
   rintro e m2 ⟨rfl, hb⟩
   have B2 := Lib.hid (B1.out.trans (hb.mono B1.out.size))
   clear hb p0 p1 p2 p3
   dsimp only
   obtain ⟨p0, p1, p2, p3⟩ := cellsS (blk_below B2.out lY HYM.out); obtain ⟨x0, x1, x2⟩ := cells3 (blk_below B2.out lX HXM.out)
   have HT := Lib.hid (show ∀ w', Below WM.heap.size WM w' → (w'.cell? ⟨Y, 0, none⟩ = some (.slice af N cf) ∧ w'.cell? ⟨Y, 1, none⟩ = some (.slice at' nt ct) ∧ w'.cell? ⟨Y, 2, none⟩ = some (.slice an nk cn) ∧ w'.cell? ⟨Y, 3, none⟩ = some (.slice as' ns cs)) ∧ w'.cell? ⟨w.heap.size, 0, none⟩ = some (.int .i64 id0) from
    fun w' hb => ⟨cellsS (blk_below hb lY HYM.out), (cells3 (blk_below hb lX HXM.out)).1⟩)
   have b0 : Below WM.heap.size WM m2.drew := B2.out.drew
   go_wp2_with fail
   go_cut [305] (fun s305 wx => s305 = .bool false ∧ Below WM.heap.size WM wx)
   case first =>
    refine wp_region_noPanic ?_
    refine wp_region_held_drew (S := (fun w' => (w'.cell? ⟨Y, 0, none⟩ = some (.slice af N cf) ∧ w'.cell? ⟨Y, 1, none⟩ = some (.slice at' nt ct) ∧ w'.cell? ⟨Y, 2, none⟩ = some (.slice an nk cn) ∧ w'.cell? ⟨Y, 3, none⟩ = some (.slice as' ns cs)) ∧ w'.cell? ⟨w.heap.size, 0, none⟩ = some (.int .i64 id0))) (by kernel_rfl) (HT.out _ b0) (fun hHeld => ?_)
    refine tH 0 (h := ?_)
    refine tH 1 (h := ?_)
    refine tH 2 (h := ?_)
    refine tH 3 (h := ?_)
    refine tH 4 (h := ?_)
    refine tH 5 (h := ?_)
    refine tH 6 (h := ?_)
    refine tH 7 (h := ?_)
    refine tH 8 (h := ?_)
    refine tH 9 (h := ?_)
    refine tH 10 (h := ?_)
    refine tH 12 (h := ?_)
    refine tH 13 (h := ?_)
    refine wpAnyH_ready (rs := [11]) (by kernel_rfl) (by simp) ?_
    refine AllReadyH.cons rfl (fun K hK => ?_) AllReadyH.nil
    go_simp
    refine (rall_any Any1 Any1 _ _ _ _ _ s R _ (HSM.out.below b0) (HRV.out.below b0) HR6.out HN6.out (by omega)).mono ?_; rw [HG1.out]; rintro e y1 ⟨rfl, hb⟩; have b1 := b0.trans (hb.mono b0.size); clear hb
    refine hK.out _ _ (HT.out _ b1) (fun hHeld => ?_)
    clear hK K
    try simp only [List.getElem_toArray, List.getElem_cons_zero, List.getElem_cons_succ, Act.put, List.setIfInBounds_toArray, List.set_cons_zero, List.set_cons_succ]
    refine wpAnyH_ready (rs := [14]) (by kernel_rfl) (by simp) ?_
    refine AllReadyH.cons rfl (fun K hK => ?_) AllReadyH.nil
    go_simp
    refine (rrall_any Any1 Any1 _ _ _ _ _ s R _ (HSM.out.below b1) (HRV.out.below b1) HR6.out HN6.out (by omega)).mono ?_; rw [HG1.out]; rintro e y2 ⟨rfl, hb⟩; have b2 := b1.trans (hb.mono b1.size); clear hb
    refine hK.out _ _ (HT.out _ b2) (fun hHeld => ?_)
    clear hK K
    try simp only [List.getElem_toArray, List.getElem_cons_zero, List.getElem_cons_succ, Act.put, List.setIfInBounds_toArray, List.set_cons_zero, List.set_cons_succ]
    refine tH 15 (h := ?_)
    refine tH 16 (h := ?_)
    refine tH 17 (h := ?_)
    refine tH 18 (h := ?_)
    refine tH 19 (h := ?_)
    refine tH 20 (h := ?_)
    refine tH 22 (h := ?_)
    refine tH 23 (h := ?_)
    refine tH 24 (h := ?_)
    refine wpAnyH_ready (rs := [21]) (by kernel_rfl) (by simp) ?_
    refine AllReadyH.cons rfl (fun K hK => ?_) AllReadyH.nil
    go_simp
    refine (rfind_any Any1 _ R id0 _ (HRV.out.below b2) (by omega)).mono ?_; rw [HG2.out]; rintro e y3 ⟨rfl, hb⟩; have b3 := b2.trans (hb.mono b2.size); clear hb
    refine hK.out _ _ (HT.out _ b3) (fun hHeld => ?_)
    clear hK K
    try simp only [List.getElem_toArray, List.getElem_cons_zero, List.getElem_cons_succ, Act.put, List.setIfInBounds_toArray, List.set_cons_zero, List.set_cons_succ]
    refine wpAnyH_ready (rs := [25]) (by kernel_rfl) (by simp) ?_
    refine AllReadyH.cons rfl (fun K hK => ?_) AllReadyH.nil
    go_simp
    refine (rrfind_any Any1 _ R id0 _ (HRV.out.below b3) (by omega)).mono ?_; rw [HG2.out]; rintro e y4 ⟨rfl, hb⟩; have b4 := b3.trans (hb.mono b3.size); clear hb
    refine hK.out _ _ (HT.out _ b4) (fun hHeld => ?_)
    clear hK K
    try simp only [List.getElem_toArray, List.getElem_cons_zero, List.getElem_cons_succ, Act.put, List.setIfInBounds_toArray, List.set_cons_zero, List.set_cons_succ]
    refine tH 26 (h := ?_)
    refine tH 27 (h := ?_)
    refine tH 28 (h := ?_)
    refine tH 29 (h := ?_)
    refine tH 31 (h := ?_)
    refine wpAnyH_ready (rs := [30]) (by kernel_rfl) (by simp) ?_
    refine AllReadyH.cons rfl (fun K hK => ?_) AllReadyH.nil
    go_simp
    refine (rfind_any Any1 _ R 3 _ (HRV.out.below b4) (by omega)).mono ?_; rw [HG3.out]; rintro e y5 ⟨rfl, hb⟩; have b5 := b4.trans (hb.mono b4.size); clear hb
    refine hK.out _ _ (HT.out _ b5) (fun hHeld => ?_)
    clear hK K
    try simp only [List.getElem_toArray, List.getElem_cons_zero, List.getElem_cons_succ, Act.put, List.setIfInBounds_toArray, List.set_cons_zero, List.set_cons_succ]
    refine wpAnyH_ready (rs := [32]) (by kernel_rfl) (by simp) ?_
    refine AllReadyH.cons rfl (fun K hK => ?_) AllReadyH.nil
    go_simp
    refine (rrfind_any Any1 _ R 3 _ (HRV.out.below b5) (by omega)).mono ?_; rw [HG3.out]; rintro e y6 ⟨rfl, hb⟩; have b6 := b5.trans (hb.mono b5.size); clear hb
    refine hK.out _ _ (HT.out _ b6) (fun hHeld => ?_)
    clear hK K
    try simp only [List.getElem_toArray, List.getElem_cons_zero, List.getElem_cons_succ, Act.put, List.setIfInBounds_toArray, List.set_cons_zero, List.set_cons_succ]
    refine tH 33 (h := ?_)
    refine tH 34 (h := ?_)
    refine wpAnyH_done (by kernel_rfl) ?_ _
    refine NoPanic.normal ?_
    go_wp2_with fail
    go_meet
    exact ⟨rfl, b6⟩
   case rest =>
    obtain ⟨m3, hm3⟩ : ∃ u, u = wc := ⟨_, rfl⟩
    subst hm3
    obtain ⟨rfl, hb3⟩ := hcut
    have B3 := Lib.hid hb3
    clear hb3 b0 HT p0 p1 p2 p3 x0 x1 x2
    go_wp2_with fail
    go_roundw
    case rel => exact ⟨k + 1, by omega, by go_num, B3.out⟩
    case measure => simp [intOf]; omega
  have hq : decide ((k : Int) < 4) = false := by simp; omega
  have hfin := Lib.hid hbw
  clear hbw HBk HQ4
  go_wp2_with fail
  first | exact hfin | exact hK _ _ _ _ _ _ _ _ _ _ _ _ _ _ _ _ _ _ _ _ _ _ _ _ _ _ _ _ _ _ _ _ _ _ _ _ _ _ _ _ _ _ _ _ _ _ _ _ _ _ _ _ _ _ _ _ _ _ _ _ _ _ _ _ _ _ _ _ _ _ _ _ _ _ _ _ _ _ _ _ _ _ _ _ _ _ _ _ _ _ _ _ _ _ _ _ _ _ _ _ _ _ _ _ _ _ _ _ _ _ _ _ _ _ _ _ _ _ _ _ _ _ _ _ _ _ _ _ _ _ _ _ _ _ _ _ _ _ _ _ _ _ _ _ _ _ _ _ _ _ _ _ _ _ _ _ _ _ _ _ _ _ _ _ _ _ _ _ _ _ _ _ _ _ _ _ _ _ _ _ _ _ _ _ _ _ _ _ _ _ _ _ _ _ _ _ _ _ _ _ _ _ _ _ _ _ _ _ _ _ _ _ _ _ _ _ _ _ _ _ _ _ _ _ _ _ _ _ _ _ _ _ _ _ _ _ _ _ _ _ _ _ _ _ _ _ _ _ _ _ _ _ _ _ _ _ _ _ _ _ _ _ _ _ _ _ _ _ _ _ _ _ _ _ _ _ _ _ _ _ _ _ _ _ _ _ _ _ _ _ _ _ _ _ _ _ _ _ _ _ _ _ _ _ _ _ _ _ _ _ _ _ _ _ _ _ _ _ _ _ _ _ _ _ _ _ _ _ _ _ _ _ _ _ _ _ _ _ _ _ _ _ _ _ _ _ _ _ _ _ _ _ _ _ _ _ _ _ _ _ _ _ _ _ _ _ _ _ _ _ _ _ _ _ _ _ _ _ _ _ _ _ _ _ _ _ _ _ _ _ _ _ _ _ _ _ _ _ _ _ _ _ _ _ _ _ _ _ _ _ _ _ _ _ _ _ _ _ _ _ _ _ _ hfin
end
section
set_option maxRecDepth 100000
open Go.RowKit Cal
attribute [local go_sem] toList_mk mk_size bytes_append str_append
set_option maxHeartbeats 16000000 in
theorem rex28 (w : World) (id0 ver0 : Int) (ra : Option Addr) (rc : Nat) (vals0 : List (List UInt8)) (t0 : List UInt8) (cut : Int) (HVar : Hid (VarsAt w)) (HDb : Hid (DbAt w)) (HRaw : Hid (Vec w Any1 1 encS (.slice ra vals0.length rc) vals0)) (HCw : Hid (-9223372036854775808 ≤ cut ∧ cut ≤ 9223372036854775807)) (hn1 : vals0.length ≤ 20) (ht : t0.length ≤ 600) (HS200 : Hid (∀ x ∈ vals0, x.length ≤ 200)) (Y : Nat) (af at' an as' : Option Addr) (N cf nt ct nk cn ns cs : Nat) (s : SchemaL) (HCs : Hid (checkS s = 0)) (C : List RV) (arv : Option Addr) (crv : Nat) (hC5 : C.length ≤ 5) (Z : Nat) (oid over : Int) (ovals : List (List UInt8)) (oa : Option Addr) (oc : Nat) (HOw : Hid (RawOk ⟨oid, over, ovals⟩)) (la : Option Addr) (lc : Nat) (Rs : List RecL) (HList : Hid (RecsVec w Any1 (.slice la Rs.length lc) Rs)) (hn2 : Rs.length ≤ 80) (HAll : Hid (∀ r ∈ Rs, RawOk r)) (HRw : Hid (RawOk ⟨id0, ver0, vals0⟩)) (D : Nat) (idc : Int) (Wd Wc w4 : World) (S1 : Nat → Prop) (HG4 : Hid (∀ k, (Value.slice arv C.length crv).ownBlock = some k → Wc.heap.size ≤ k ∧ k < w4.heap.size)) (HSm : Hid (∀ b, S1 b → Wd.heap.size ≤ b ∧ b < Wc.heap.size)) (HBc : Hid (Below w.heap.size w Wc)) (zX : w.heap.size < Wc.heap.size) (zY : Y < Wc.heap.size) (zwD : w.heap.size ≤ D) (hZ4 : w4.heap.size ≤ Z) (WR : World) (z4 : w4.heap.size ≤ WR.heap.size) (KR : Hid (QX D Wd w.heap.size id0 ver0 (.slice ra vals0.length rc) Y S1 (.slice af N cf) (.slice at' nt ct) (.slice an nk cn) (.slice as' ns cs) s WR)) (HRm : Hid (ROut D Wc s (.slice arv C.length crv) C idc WR)) (HZr : Hid (WR.heap[Z]? = some (.cells #[.int .i64 oid, .int .i64 over, .slice oa ovals.length oc] 44 (0, 0)))) (HOVr : Hid (Vec WR (fun b => w4.heap.size ≤ b) 1 encS (.slice oa ovals.length oc) ovals)) (sl0 sl1 sl3 sl6 sl8 sl9 sl10 sl11 sl12 sl13 sl14 sl18 sl19 sl20 sl21 sl22 sl23 sl24 sl25 sl26 sl27 sl28 sl29 sl30 sl31 sl32 sl33 sl34 sl35 sl36 sl37 sl38 sl39 sl40 sl41 sl42 sl43 sl44 sl45 sl46 sl47 sl48 sl49 sl50 sl51 sl52 sl53 sl54 sl55 sl56 sl57 sl58 sl59 sl60 sl61 sl62 sl63 sl64 sl65 sl66 sl67 sl68 sl69 sl70 sl71 sl72 sl73 sl74 sl75 sl76 sl77 sl78 sl79 sl80 sl81 sl82 sl83 sl84 sl85 sl86 sl87 sl88 sl89 sl90 sl91 sl92 sl93 sl94 sl95 sl96 sl97 sl98 sl99 sl100 sl101 sl102 sl103 sl104 sl105 sl106 sl107 sl108 sl109 sl110 sl111 sl112 sl113 sl114 sl115 sl116 sl117 sl118 sl119 sl120 sl121 sl122 sl123 sl124 sl125 sl126 sl127 sl128 sl129 sl130 sl131 sl132 sl133 sl134 sl135 sl136 sl137 sl138 sl139 sl140 sl141 sl142 sl143 sl144 sl145 sl146 sl147 sl148 sl149 sl150 sl151 sl152 sl153 sl154 sl155 sl156 sl157 sl158 sl159 sl160 sl161 sl162 sl163 sl164 sl165 sl166 sl167 sl168 sl169 sl170 sl171 sl172 sl173 sl174 sl175 sl176 sl177 sl178 sl179 sl180 sl181 sl182 sl183 sl184 sl185 sl186 sl187 sl188 sl189 sl190 sl191 sl192 sl193 sl194 sl195 sl196 sl197 sl198 sl199 sl200 sl201 sl202 sl203 sl204 sl205 sl206 sl207 sl208 sl209 sl210 sl211 sl212 sl213 sl214 sl215 sl216 sl217 sl218 sl219 sl220 sl221 sl222 sl223 sl224 sl225 sl226 sl227 sl228 sl229 sl230 sl231 sl232 sl233 sl234 sl235 sl236 sl237 sl238 sl239 sl240 sl241 sl242 sl243 sl244 sl245 sl246 sl247 sl248 sl249 sl250 sl251 sl252 sl253 sl254 sl255 sl256 sl257 sl258 sl259 sl260 sl261 sl262 sl263 sl264 sl265 sl266 sl267 sl268 sl269 sl270 sl271 sl272 sl273 sl274 sl275 sl276 sl277 sl278 sl279 sl280 sl281 sl282 sl283 sl284 sl285 sl286 sl287 sl288 sl289 sl290 sl291 sl292 sl293 sl294 sl295 sl296 sl297 sl298 sl299 sl300 sl301 sl302 sl303 sl304 sl305 sl306 sl307 sl308 sl309 sl310 sl311 sl312 sl313 sl314 sl315 sl316 sl317 sl318 sl319 sl320 sl321 sl322 sl323 sl324 sl325 sl326 sl327 sl328 sl329 sl330 sl331 sl332 sl333 sl334 sl335 sl336 sl337 sl338 sl339 sl340 sl341 sl342 sl343 sl344 sl345 sl346 sl347 sl348 sl349 sl350 sl351 sl352 sl353 sl354 sl355 sl356 sl357 sl358 sl359 sl360 sl361 sl362 sl363 sl364 sl365 sl366 sl367 sl368 sl369 sl370 sl371 sl372 sl373 sl374 sl375 sl376 sl377 sl378 sl379 sl380 sl381 sl382 sl383 sl384 sl385 sl386 sl387 sl388 sl389 sl390 sl391 sl392 sl393 sl394 sl395 sl396 sl397 sl398 sl399 sl400 sl401 sl402 sl403 sl404 sl405 sl406 sl407 sl408 sl409 sl410 sl411 sl412 sl413 sl414 sl415 sl416 sl417 sl418 sl419 sl420 sl421 sl422 sl423 sl424 sl425 sl426 sl427 : Value) :
  (restOf Tryz.f4 28).wp Tryz.prog (bodyPost Tryz.prog Tryz.f4 fun e w' => e = .returned (.bool true) ∧ Below w.heap.size w w') ⟨List.toArray (sl0 :: sl1 :: .slice la Rs.length lc :: sl3 :: .string ⟨t0.toArray⟩ :: .int .i64 cut :: sl6 :: .pointer (some ⟨w.heap.size, 0, none⟩) :: sl8 :: sl9 :: sl10 :: sl11 :: sl12 :: sl13 :: sl14 :: .pointer (some ⟨Y, 0, none⟩) :: .slice arv C.length crv :: .pointer (some ⟨Z, 0, none⟩) :: sl18 :: sl19 :: sl20 :: sl21 :: sl22 :: sl23 :: sl24 :: sl25 :: sl26 :: sl27 :: sl28 :: sl29 :: sl30 :: sl31 :: sl32 :: sl33 :: sl34 :: sl35 :: sl36 :: sl37 :: sl38 :: sl39 :: sl40 :: sl41 :: sl42 :: sl43 :: sl44 :: sl45 :: sl46 :: sl47 :: sl48 :: sl49 :: sl50 :: sl51 :: sl52 :: sl53 :: sl54 :: sl55 :: sl56 :: sl57 :: sl58 :: sl59 :: sl60 :: sl61 :: sl62 :: sl63 :: sl64 :: sl65 :: sl66 :: sl67 :: sl68 :: sl69 :: sl70 :: sl71 :: sl72 :: sl73 :: sl74 :: sl75 :: sl76 :: sl77 :: sl78 :: sl79 :: sl80 :: sl81 :: sl82 :: sl83 :: sl84 :: sl85 :: sl86 :: sl87 :: sl88 :: sl89 :: sl90 :: sl91 :: sl92 :: sl93 :: sl94 :: sl95 :: sl96 :: sl97 :: sl98 :: sl99 :: sl100 :: sl101 :: sl102 :: sl103 :: sl104 :: sl105 :: sl106 :: sl107 :: sl108 :: sl109 :: sl110 :: sl111 :: sl112 :: sl113 :: sl114 :: sl115 :: sl116 :: sl117 :: sl118 :: sl119 :: sl120 :: sl121 :: sl122 :: sl123 :: sl124 :: sl125 :: sl126 :: sl127 :: sl128 :: sl129 :: sl130 :: sl131 :: sl132 :: sl133 :: sl134 :: sl135 :: sl136 :: sl137 :: sl138 :: sl139 :: sl140 :: sl141 :: sl142 :: sl143 :: sl144 :: sl145 :: sl146 :: sl147 :: sl148 :: sl149 :: sl150 :: sl151 :: sl152 :: sl153 :: sl154 :: sl155 :: sl156 :: sl157 :: sl158 :: sl159 :: sl160 :: sl161 :: sl162 :: sl163 :: sl164 :: sl165 :: sl166 :: sl167 :: sl168 :: sl169 :: sl170 :: sl171 :: sl172 :: sl173 :: sl174 :: sl175 :: sl176 :: sl177 :: sl178 :: sl179 :: sl180 :: sl181 :: sl182 :: sl183 :: sl184 :: sl185 :: sl186 :: sl187 :: sl188 :: sl189 :: sl190 :: sl191 :: sl192 :: sl193 :: sl194 :: sl195 :: sl196 :: sl197 :: sl198 :: sl199 :: sl200 :: sl201 :: sl202 :: sl203 :: sl204 :: sl205 :: sl206 :: sl207 :: sl208 :: sl209 :: sl210 :: sl211 :: sl212 :: sl213 :: sl214 :: sl215 :: sl216 :: sl217 :: sl218 :: sl219 :: sl220 :: sl221 :: sl222 :: sl223 :: sl224 :: sl225 :: sl226 :: sl227 :: sl228 :: sl229 :: sl230 :: sl231 :: sl232 :: sl233 :: sl234 :: sl235 :: sl236 :: sl237 :: sl238 :: sl239 :: sl240 :: sl241 :: sl242 :: sl243 :: sl244 :: sl245 :: sl246 :: sl247 :: sl248 :: sl249 :: sl250 :: sl251 :: sl252 :: sl253 :: sl254 :: sl255 :: sl256 :: sl257 :: sl258 :: sl259 :: sl260 :: sl261 :: sl262 :: sl263 :: sl264 :: sl265 :: sl266 :: sl267 :: sl268 :: sl269 :: sl270 :: sl271 :: sl272 :: sl273 :: sl274 :: sl275 :: sl276 :: sl277 :: sl278 :: sl279 :: sl280 :: sl281 :: sl282 :: sl283 :: sl284 :: sl285 :: sl286 :: sl287 :: sl288 :: sl289 :: sl290 :: sl291 :: sl292 :: sl293 :: sl294 :: sl295 :: sl296 :: sl297 :: sl298 :: sl299 :: sl300 :: sl301 :: sl302 :: sl303 :: sl304 :: sl305 :: sl306 :: sl307 :: sl308 :: sl309 :: sl310 :: sl311 :: sl312 :: sl313 :: sl314 :: sl315 :: sl316 :: sl317 :: sl318 :: sl319 :: sl320 :: sl321 :: sl322 :: sl323 :: sl324 :: sl325 :: sl326 :: sl327 :: sl328 :: sl329 :: sl330 :: sl331 :: sl332 :: sl333 :: sl334 :: sl335 :: sl336 :: sl337 :: sl338 :: sl339 :: sl340 :: sl341 :: sl342 :: sl343 :: sl344 :: sl345 :: sl346 :: sl347 :: sl348 :: sl349 :: sl350 :: sl351 :: sl352 :: sl353 :: sl354 :: sl355 :: sl356 :: sl357 :: sl358 :: sl359 :: sl360 :: sl361 :: sl362 :: sl363 :: sl364 :: sl365 :: sl366 :: sl367 :: sl368 :: sl369 :: sl370 :: sl371 :: sl372 :: sl373 :: sl374 :: sl375 :: sl376 :: sl377 :: sl378 :: sl379 :: sl380 :: sl381 :: sl382 :: sl383 :: sl384 :: sl385 :: sl386 :: sl387 :: sl388 :: sl389 :: sl390 :: sl391 :: sl392 :: sl393 :: sl394 :: sl395 :: sl396 :: sl397 :: sl398 :: sl399 :: sl400 :: sl401 :: sl402 :: sl403 :: sl404 :: sl405 :: sl406 :: sl407 :: sl408 :: sl409 :: sl410 :: sl411 :: sl412 :: sl413 :: sl414 :: sl415 :: sl416 :: sl417 :: sl418 :: sl419 :: sl420 :: sl421 :: sl422 :: sl423 :: sl424 :: sl425 :: sl426 :: sl427 :: []), []⟩ WR := by
 conv => arg 2; whnf
 go_step
 go_step
 go_step
 refine rexTwo w id0 ver0 ra rc vals0 t0 cut HVar HDb HRaw HCw hn1 ht HS200 Y af at' an as' N cf nt ct nk cn ns cs s HCs C arv crv hC5 Z oid over ovals oa oc HOw la lc Rs HList hn2 HAll HRw D idc Wd Wc w4 S1 HG4 HSm HBc zX zY zwD hZ4 WR z4 KR HRm HZr HOVr _ _ _ _ _ _ _ _ _ _ _ _ _ _ _ _ _ _ _ _ _ _ _ _ _ _ _ _ _ _ _ _ _ _ _ _ _ _ _ _ _ _ _ _ _ _ _ _ _ _ _ _ _ _ _ _ _ _ _ _ _ _ _ _ _ _ _ _ _ _ _ _ _ _ _ _ _ _ _ _ _ _ _ _ _ _ _ _ _ _ _ _ _ _ _ _ _ _ _ _ _ _ _ _ _ _ _ _ _ _ _ _ _ _ _ _ _ _ _ _ _ _ _ _ _ _ _ _ _ _ _ _ _ _ _ _ _ _ _ _ _ _ _ _ _ _ _ _ _ _ _ _ _ _ _ _ _ _ _ _ _ _ _ _ _ _ _ _ _ _ _ _ _ _ _ _ _ _ _ _ _ _ _ _ _ _ _ _ _ _ _ _ _ _ _ _ _ _ _ _ _ _ _ _ _ _ _ _ _ _ _ _ _ _ _ _ _ _ _ _ _ _ _ _ _ _ _ _ _ _ _ _ _ _ _ _ _ _ _ _ _ _ _ _ _ _ _ _ _ _ _ _ _ _ _ _ _ _ _ _ _ _ _ _ _ _ _ _ _ _ _ _ _ _ _ _ _ _ _ _ _ _ _ _ _ _ _ _ _ _ _ _ _ _ _ _ _ _ _ _ _ _ _ _ _ _ _ _ _ _ _ _ _ _ _ _ _ _ _ _ _ _ _ _ _ _ _ _ _ _ _ _ _ _ _ _ _ _ _ _ _ _ _ _ _ _ _ _ _ _ _ _ _ _ _ _ _ _ _ _ _ _ _ _ _ _ _ _ _ _ _ _ _ _ _ _ _ _ _ _ _ _ _ _ _ _ _ _ _ _ _ _ _ _ _ _ _ _ _ _ _ _ _ _ _ _ _ _ _ _ _ _ _ _ _ _ _ _ _ _ _ _ _ ?_
 intro tl0 tl1 tl3 tl6 tl8 tl9 tl10 tl11 tl12 tl13 tl14 tl18 tl19 tl20 tl21 tl22 tl23 tl24 tl25 tl26 tl27 tl28 tl29 tl30 tl31 tl32 tl33 tl34 tl35 tl36 tl37 tl38 tl39 tl40 tl41 tl42 tl43 tl44 tl45 tl46 tl47 tl48 tl49 tl50 tl51 tl52 tl53 tl54 tl55 tl56 tl57 tl58 tl59 tl60 tl61 tl62 tl63 tl64 tl65 tl66 tl67 tl68 tl69 tl70 tl71 tl72 tl73 tl74 tl75 tl76 tl77 tl78 tl79 tl80 tl81 tl82 tl83 tl84 tl85 tl86 tl87 tl88 tl89 tl90 tl91 tl92 tl93 tl94 tl95 tl96 tl97 tl98 tl99 tl100 tl101 tl102 tl103 tl104 tl105 tl106 tl107 tl108 tl109 tl110 tl111 tl112 tl113 tl114 tl115 tl116 tl117 tl118 tl119 tl120 tl121 tl122 tl123 tl124 tl125 tl126 tl127 tl128 tl129 tl130 tl131 tl132 tl133 tl134 tl135 tl136 tl137 tl138 tl139 tl140 tl141 tl142 tl143 tl144 tl145 tl146 tl147 tl148 tl149 tl150 tl151 tl152 tl153 tl154 tl155 tl156 tl157 tl158 tl159 tl160 tl161 tl162 tl163 tl164 tl165 tl166 tl167 tl168 tl169 tl170 tl171 tl172 tl173 tl174 tl175 tl176 tl177 tl178 tl179 tl180 tl181 tl182 tl183 tl184 tl185 tl186 tl187 tl188 tl189 tl190 tl191 tl192 tl193 tl194 tl195 tl196 tl197 tl198 tl199 tl200 tl201 tl202 tl203 tl204 tl205 tl206 tl207 tl208 tl209 tl210 tl211 tl212 tl213 tl214 tl215 tl216 tl217 tl218 tl219 tl220 tl221 tl222 tl223 tl224 tl225 tl226 tl227 tl228 tl229 tl230 tl231 tl232 tl233 tl234 tl235 tl236 tl237 tl238 tl239 tl240 tl241 tl242 tl243 tl244 tl245 tl246 tl247 tl248 tl249 tl250 tl251 tl252 tl253 tl254 tl255 tl256 tl257 tl258 tl259 tl260 tl261 tl262 tl263 tl264 tl265 tl266 tl267 tl268 tl269 tl270 tl271 tl272 tl273 tl274 tl275 tl276 tl277 tl278 tl279 tl280 tl281 tl282 tl283 tl284 tl285 tl286 tl287 tl288 tl289 tl290 tl291 tl292 tl293 tl294 tl295 tl296 tl297 tl298 tl299 tl300 tl301 tl302 tl303 tl304 tl305 tl306 tl307 tl308 tl309 tl310 tl311 tl312 tl313 tl314 tl315 tl316 tl317 tl318 tl319 tl320 tl321 tl322 tl323 tl324 tl325 tl326 tl327 tl328 tl329 tl330 tl331 tl332 tl333 tl334 tl335 tl336 tl337 tl338 tl339 tl340 tl341 tl342 tl343 tl344 tl345 tl346 tl347 tl348 tl349 tl350 tl351 tl352 tl353 tl354 tl355 tl356 tl357 tl358 tl359 tl360 tl361 tl362 tl363 tl364 tl365 tl366 tl367 tl368 tl369 tl370 tl371 tl372 tl373 tl374 tl375 tl376 tl377 tl378 tl379 tl380 tl381 tl382 tl383 tl384 tl385 tl386 tl387 tl388 tl389 tl390 tl391 tl392 tl393 tl394 tl395 tl396 tl397 tl398 tl399 tl400 tl401 tl402 tl403 tl404 tl405 tl406 tl407 tl408 tl409 tl410 tl411 tl412 tl413 tl414 tl415 tl416 tl417 tl418 tl419 tl420 tl421 tl422 tl423 tl424 tl425 tl426 tl427 wx hR
 obtain ⟨rfl, rfl, G4, v5, v9, rfl, hG4, ho5, ho9, hk⟩ := hR.out
 clear hR
 have hXg : some w.heap.size ≠ (Value.slice arv C.length crv).ownBlock := fun e => by have := (HG4.out _ e.symm).1; omega
 have hYg : some Y ≠ (Value.slice arv C.length crv).ownBlock := fun e => by have := (HG4.out _ e.symm).1; omega
 have hZg : some Z ≠ (Value.slice arv C.length crv).ownBlock := fun e => by have := (HG4.out _ e.symm).2; omega
 obtain ⟨WM, hWM⟩ : ∃ u, u = wx := ⟨_, rfl⟩
 subst hWM
 have hmM := ho5.2
 have HBM := Lib.hid (hmM.base HBc.out (by omega))
 have hs1 := KR.out.s
 have hS1g : ∀ b, b < WR.heap.size → S1 b → some b ≠ (Value.slice arv C.length crv).ownBlock := fun b _ h e => by have := (HG4.out _ e.symm).1; have := (HSm.out b h).2; omega
 have HSM := Lib.hid (show SchemaAt WM Any1 (.slice af N cf) (.slice at' nt ct) (.slice an nk cn) (.slice as' ns cs) s from ⟨hk.vec hs1.1 hS1g, hk.vec hs1.2.1 hS1g, hk.vec hs1.2.2.1 hS1g, hk.vec hs1.2.2.2 hS1g⟩)
 have HXM := Lib.hid (hk.keep _ _ hXg KR.out.x); have HYM := Lib.hid (hk.keep _ _ hYg KR.out.y); have HZM := Lib.hid (hk.keep _ _ hZg HZr.out)
 have HOM := Lib.hid (hk.vec HOVr.out fun b _ h e => by have h' : w4.heap.size ≤ b := h; have := (HG4.out _ e.symm).2; omega)
 have hCv : ∀ x ∈ C, Vec WM Any1 1 encS (.slice x.a x.n x.c) x.vals := fun x hx => hk.vec (HRm.out.vals x hx) fun b _ h => h.2
 have hRk : ∀ r ∈ C.map pR, RawOk r := fun r hr => by
  obtain ⟨x, hx, rfl⟩ := List.mem_map.1 hr
  exact RawOk.of HCs.out (HRm.out.ok x hx).1
 have HRC := Lib.hid (show RecsVec WM Any1 (.slice arv C.length crv) (C.map pR) from ⟨C, (OwnM.vec (size := 3) (enc := encRV) (fun _ => rfl) hk.own).any, rfl, hCv⟩)
 have HRk := Lib.hid hRk
 have HQ4 := Lib.hid (show ∀ k, k < 4 → ∃ (v : Value) (R : List RecL), WM.cell? ⟨G4, k, none⟩ = some v ∧ RecsVec WM Any1 v R ∧ (∀ r ∈ R, RawOk r) ∧ R.length ≤ 100 by
  intro k hk4
  have c0 : ∀ j v, (#[.slice la Rs.length lc, (.slice arv C.length crv), v5, v9] : Array Value)[j]? = some v → WM.cell? ⟨G4, j, none⟩ = some v := fun j v h => by rw [cell_of_row _ _ _ _ _ _ hG4]; exact h
  rcases (by omega : k = 0 ∨ k = 1 ∨ k = 2 ∨ k = 3) with rfl | rfl | rfl | rfl
  ·exact ⟨_, Rs, c0 0 _ rfl, HList.out.below HBM.out, HAll.out, by omega⟩
  ·exact ⟨_, C.map pR, c0 1 _ rfl, HRC.out, hRk, by rw [List.length_map]; omega⟩
  ·refine ⟨_, (C ++ [(⟨id0, ver0, ra, vals0.length, rc, vals0⟩ : RV)]).map pR, c0 2 _ rfl, ⟨_, (OwnM.vec (size := 3) (enc := encRV) (fun _ => rfl) ho5).any, rfl, fun x hx => ?_⟩, fun r hr => ?_, by rw [List.length_map, List.length_append]; simp; omega⟩
   ·rcases List.mem_append.1 hx with h | h
    ·exact hCv x h
    ·simp at h; subst h; exact HRaw.out.below HBM.out
   ·rw [List.map_append] at hr
    rcases List.mem_append.1 hr with h | h
    ·exact hRk r h
    ·simp [pR] at h; subst h; exact HRw.out
  ·refine ⟨_, ([(⟨oid, over, oa, ovals.length, oc, ovals⟩ : RV)] ++ C).map pR, c0 3 _ rfl, ⟨_, (OwnM.vec (size := 3) (enc := encRV) (fun _ => rfl) ho9).any, rfl, fun x hx => ?_⟩, fun r hr => ?_, by rw [List.length_map, List.length_append]; simp; omega⟩
   ·rcases List.mem_append.1 hx with h | h
    ·simp at h; subst h; exact HOM.out
    ·exact hCv x h
   ·rw [List.map_append] at hr
    rcases List.mem_append.1 hr with h | h
    ·simp [pR] at h; subst h; exact HOw.out
    ·exact hRk r h)
 have lG4 := lt_of_blk hG4; have lX := lt_of_blk HXM.out; have lY := lt_of_blk HYM.out; have lZ := lt_of_blk HZM.out
 clear hmM hs1 hS1g hCv hRk hG4 ho5 ho9 hk KR HRm HZr HOVr hXg hYg hZg
 go_step
 refine rexLists w id0 ver0 ra rc vals0 t0 cut HVar HDb HRaw HCw hn1 ht HS200 Y af at' an as' N cf nt ct nk cn ns cs s HCs C arv crv hC5 Z oid over ovals oa oc HOw HRk HRw WM HYM HXM HZM HSM HOM HRC HBM G4 lG4 HQ4 _ _ _ _ _ _ _ _ _ _ _ _ _ _ _ _ _ _ _ _ _ _ _ _ _ _ _ _ _ _ _ _ _ _ _ _ _ _ _ _ _ _ _ _ _ _ _ _ _ _ _ _ _ _ _ _ _ _ _ _ _ _ _ _ _ _ _ _ _ _ _ _ _ _ _ _ _ _ _ _ _ _ _ _ _ _ _ _ _ _ _ _ _ _ _ _ _ _ _ _ _ _ _ _ _ _ _ _ _ _ _ _ _ _ _ _ _ _ _ _ _ _ _ _ _ _ _ _ _ _ _ _ _ _ _ _ _ _ _ _ _ _ _ _ _ _ _ _ _ _ _ _ _ _ _ _ _ _ _ _ _ _ _ _ _ _ _ _ _ _ _ _ _ _ _ _ _ _ _ _ _ _ _ _ _ _ _ _ _ _ _ _ _ _ _ _ _ _ _ _ _ _ _ _ _ _ _ _ _ _ _ _ _ _ _ _ _ _ _ _ _ _ _ _ _ _ _ _ _ _ _ _ _ _ _ _ _ _ _ _ _ _ _ _ _ _ _ _ _ _ _ _ _ _ _ _ _ _ _ _ _ _ _ _ _ _ _ _ _ _ _ _ _ _ _ _ _ _ _ _ _ _ _ _ _ _ _ _ _ _ _ _ _ _ _ _ _ _ _ _ _ _ _ _ _ _ _ _ _ _ _ _ _ _ _ _ _ _ _ _ _ _ _ _ _ _ _ _ _ _ _ _ _ _ _ _ _ _ _ _ _ _ _ _ _ _ _ _ _ _ _ _ _ _ _ _ _ _ _ _ _ _ _ _ _ _ _ _ _ _ _ _ _ _ _ _ _ _ _ _ _ _ _ _ _ _ _ _ _ _ _ _ _ _ _ _ _ _ _ _ _ _ _ _ _ _ _ _ _ _ _ _ _ _ _ _ _ _ _ _ _ ?_
 intro ul0 ul1 ul2 ul3 ul6 ul8 ul9 ul10 ul11 ul12 ul13 ul14 ul18 ul19 ul20 ul21 ul22 ul23 ul24 ul25 ul26 ul27 ul28 ul29 ul30 ul31 ul32 ul33 ul34 ul35 ul36 ul37 ul38 ul39 ul40 ul41 ul42 ul43 ul44 ul45 ul46 ul47 ul48 ul49 ul50 ul51 ul52 ul53 ul54 ul55 ul56 ul57 ul58 ul59 ul60 ul61 ul62 ul63 ul64 ul65 ul66 ul67 ul68 ul69 ul70 ul71 ul72 ul73 ul74 ul75 ul76 ul77 ul78 ul79 ul80 ul81 ul82 ul83 ul84 ul85 ul86 ul87 ul88 ul89 ul90 ul91 ul92 ul93 ul94 ul95 ul96 ul97 ul98 ul99 ul100 ul101 ul102 ul103 ul104 ul105 ul106 ul107 ul108 ul109 ul110 ul111 ul112 ul113 ul114 ul115 ul116 ul117 ul118 ul119 ul120 ul121 ul122 ul123 ul124 ul125 ul126 ul127 ul128 ul129 ul130 ul131 ul132 ul133 ul134 ul135 ul136 ul137 ul138 ul139 ul140 ul141 ul142 ul143 ul144 ul145 ul146 ul147 ul148 ul149 ul150 ul151 ul152 ul153 ul154 ul155 ul156 ul157 ul158 ul159 ul160 ul161 ul162 ul163 ul164 ul165 ul166 ul167 ul168 ul169 ul170 ul171 ul172 ul173 ul174 ul175 ul176 ul177 ul178 ul179 ul180 ul181 ul182 ul183 ul184 ul185 ul186 ul187 ul188 ul189 ul190 ul191 ul192 ul193 ul194 ul195 ul196 ul197 ul198 ul199 ul200 ul201 ul202 ul203 ul204 ul205 ul206 ul207 ul208 ul209 ul210 ul211 ul212 ul213 ul214 ul215 ul216 ul217 ul218 ul219 ul220 ul221 ul222 ul223 ul224 ul225 ul226 ul227 ul228 ul229 ul230 ul231 ul232 ul233 ul234 ul235 ul236 ul237 ul238 ul239 ul240 ul241 ul242 ul243 ul244 ul245 ul246 ul247 ul248 ul249 ul250 ul251 ul252 ul253 ul254 ul255 ul256 ul257 ul258 ul259 ul260 ul261 ul262 ul263 ul264 ul265 ul266 ul267 ul268 ul269 ul270 ul271 ul272 ul273 ul274 ul275 ul276 ul277 ul278 ul279 ul280 ul281 ul282 ul283 ul284 ul285 ul286 ul287 ul288 ul289 ul290 ul291 ul292 ul293 ul294 ul295 ul296 ul297 ul298 ul299 ul300 ul301 ul302 ul303 ul304 ul305 ul306 ul307 ul308 ul309 ul310 ul311 ul312 ul313 ul314 ul315 ul316 ul317 ul318 ul319 ul320 ul321 ul322 ul323 ul324 ul325 ul326 ul327 ul328 ul329 ul330 ul331 ul332 ul333 ul334 ul335 ul336 ul337 ul338 ul339 ul340 ul341 ul342 ul343 ul344 ul345 ul346 ul347 ul348 ul349 ul350 ul351 ul352 ul353 ul354 ul355 ul356 ul357 ul358 ul359 ul360 ul361 ul362 ul363 ul364 ul365 ul366 ul367 ul368 ul369 ul370 ul371 ul372 ul373 ul374 ul375 ul376 ul377 ul378 ul379 ul380 ul381 ul382 ul383 ul384 ul385 ul386 ul387 ul388 ul389 ul390 ul391 ul392 ul393 ul394 ul395 ul396 ul397 ul398 ul399 ul400 ul401 ul402 ul403 ul404 ul405 ul406 ul407 ul408 ul409 ul410 ul411 ul412 ul413 ul414 ul415 ul416 ul417 ul418 ul419 ul420 ul421 ul422 ul423 ul424 ul425 ul426 ul427 wx hR
 have hb := hR.out
 clear hR
 have HY2 := Lib.hid (blk_below hb (lt_of_blk HYM.out) HYM.out); have HX2 := Lib.hid (blk_below hb (lt_of_blk HXM.out) HXM.out); have HZ2 := Lib.hid (blk_below hb (lt_of_blk HZM.out) HZM.out)
 have HS2 := Lib.hid (HSM.out.below hb); have HO2 := Lib.hid (HOM.out.below hb); have HR2 := Lib.hid (HRC.out.below hb); have HB2 := Lib.hid (HBM.out.trans (hb.mono HBM.out.size))
 clear hb
 go_step
 exact rex36 w id0 ver0 ra rc vals0 t0 cut HVar HDb HRaw HCw hn1 ht HS200 Y af at' an as' N cf nt ct nk cn ns cs s HCs C arv crv hC5 Z oid over ovals oa oc HOw HRk HRw _ HY2 HX2 HZ2 HS2 HO2 HR2 HB2 _ _ _ _ _ _ _ _ _ _ _ _ _ _ _ _ _ _ _ _ _ _ _ _ _ _ _ _ _ _ _ _ _ _ _ _ _ _ _ _ _ _ _ _ _ _ _ _ _ _ _ _ _ _ _ _ _ _ _ _ _ _ _ _ _ _ _ _ _ _ _ _ _ _ _ _ _ _ _ _ _ _ _ _ _ _ _ _ _ _ _ _ _ _ _ _ _ _ _ _ _ _ _ _ _ _ _ _ _ _ _ _ _ _ _ _ _ _ _ _ _ _ _ _ _ _ _ _ _ _ _ _ _ _ _ _ _ _ _ _ _ _ _ _ _ _ _ _ _ _ _ _ _ _ _ _ _ _ _ _ _ _ _ _ _ _ _ _ _ _ _ _ _ _ _ _ _ _ _ _ _ _ _ _ _ _ _ _ _ _ _ _ _ _ _ _ _ _ _ _ _ _ _ _ _ _ _ _ _ _ _ _ _ _ _ _ _ _ _ _ _ _ _ _ _ _ _ _ _ _ _ _ _ _ _ _ _ _ _ _ _ _ _ _ _ _ _ _ _ _ _ _ _ _ _ _ _ _ _ _ _ _ _ _ _ _ _ _ _ _ _ _ _ _ _ _ _ _ _ _ _ _ _ _ _ _ _ _ _ _ _ _ _ _ _ _ _ _ _ _ _ _ _ _ _ _ _ _ _ _ _ _ _ _ _ _ _ _ _ _ _ _ _ _ _ _ _ _ _ _ _ _ _ _ _ _ _ _ _ _ _ _ _ _ _ _ _ _ _ _ _ _ _ _ _ _ _ _ _ _ _ _ _ _ _ _ _ _ _ _ _ _ _ _ _ _ _ _ _ _ _ _ _ _ _ _ _ _ _ _ _ _ _ _ _ _ _ _ _ _ _ _ _ _ _ _ _ _ _ _ _ _ _ _ _ _ _ _ _ _ _ _
end
section
set_option maxRecDepth 100000
open Go.RowKit Cal
attribute [local go_sem] toList_mk mk_size bytes_append str_append
set_option maxHeartbeats 16000000 in
theorem rexMakes (w : World) (id0 ver0 : Int) (ra : Option Addr) (rc : Nat) (vals0 : List (List UInt8)) (t0 : List UInt8) (cut : Int) (HVar : Hid (VarsAt w)) (HDb : Hid (DbAt w)) (HRaw : Hid (Vec w Any1 1 encS (.slice ra vals0.length rc) vals0)) (HCw : Hid (-9223372036854775808 ≤ cut ∧ cut ≤ 9223372036854775807)) (hn1 : vals0.length ≤ 20) (ht : t0.length ≤ 600) (HS200 : Hid (∀ x ∈ vals0, x.length ≤ 200)) (Y : Nat) (af at' an as' : Option Addr) (N cf nt ct nk cn ns cs : Nat) (s : SchemaL) (HCs : Hid (checkS s = 0)) (C : List RV) (arv : Option Addr) (crv : Nat) (hC5 : C.length ≤ 5) (Z : Nat) (oid over : Int) (ovals : List (List UInt8)) (oa : Option Addr) (oc : Nat) (HOw : Hid (RawOk ⟨oid, over, ovals⟩)) (va : Option Addr) (vc : Nat) (Vs : List (List UInt8)) (HVals : Hid (Vec w Any1 1 encS (.slice va Vs.length vc) Vs)) (hn3 : Vs.length ≤ 20) (HV200 : Hid (∀ x ∈ Vs, x.length ≤ 200)) (D : Nat) (idc : Int) (Wd Wc w4 : World) (S1 : Nat → Prop) (zDD : Wd.heap.size = D + 1) (HG4 : Hid (∀ k, (Value.slice arv C.length crv).ownBlock = some k → Wc.heap.size ≤ k ∧ k < w4.heap.size)) (HSm : Hid (∀ b, S1 b → Wd.heap.size ≤ b ∧ b < Wc.heap.size)) (HBc : Hid (Below w.heap.size w Wc)) (zX : w.heap.size < Wc.heap.size) (zY : Y < Wc.heap.size) (zwD : w.heap.size ≤ D) (hZ4 : w4.heap.size ≤ Z) (HBd : Hid (Below w.heap.size w Wd)) (w6 : World) (z6 : w4.heap.size ≤ w6.heap.size) (K6 : Hid (QX D Wd w.heap.size id0 ver0 (.slice ra vals0.length rc) Y S1 (.slice af N cf) (.slice at' nt ct) (.slice an nk cn) (.slice as' ns cs) s w6)) (sl0 sl1 sl2 sl4 sl5 sl6 sl8 sl9 sl10 sl11 sl12 sl13 sl16 sl17 sl18 sl19 sl20 sl21 sl22 sl23 sl24 sl25 sl26 sl27 sl28 sl29 sl30 sl31 sl32 sl33 sl34 sl35 sl36 sl37 sl38 sl39 sl40 sl41 sl42 sl43 sl44 sl45 sl46 sl47 sl48 sl49 sl50 sl51 sl52 sl53 sl54 sl55 sl56 sl57 sl58 sl59 sl60 sl61 sl62 sl63 sl64 sl65 sl66 sl67 sl68 sl69 sl70 sl71 sl72 sl73 sl74 sl75 sl76 sl77 sl78 sl79 sl80 sl81 sl82 sl83 sl84 sl85 sl86 sl87 sl88 sl89 sl90 sl91 sl92 sl93 sl94 sl95 sl96 sl97 sl98 sl99 sl100 sl101 sl102 sl103 sl104 sl105 sl106 sl107 sl108 sl109 sl110 sl111 sl112 sl113 sl114 sl115 sl116 sl117 sl118 sl119 sl120 sl121 sl122 sl123 sl124 sl125 sl126 sl127 sl128 sl129 sl130 sl131 sl132 sl133 sl134 sl135 sl136 sl137 sl138 sl139 sl140 sl141 sl142 sl143 sl144 sl145 sl146 sl147 sl148 sl149 sl150 sl151 sl152 sl153 sl154 sl155 sl156 sl157 sl158 sl159 sl160 sl161 sl162 sl163 sl164 sl165 sl166 sl167 sl168 sl169 sl170 sl171 sl172 sl173 sl174 sl175 sl176 sl177 sl178 sl179 sl180 sl181 sl182 sl183 sl184 sl185 sl186 sl187 sl188 sl189 sl190 sl191 sl192 sl193 sl194 sl195 sl196 sl197 sl198 sl199 sl200 sl201 sl202 sl203 sl204 sl205 sl206 sl207 sl208 sl209 sl210 sl211 sl212 sl213 sl214 sl215 sl216 sl217 sl218 sl219 sl220 sl221 sl222 sl223 sl224 sl225 sl226 sl227 sl228 sl229 sl230 sl231 sl232 sl233 sl234 sl235 sl236 sl237 sl238 sl239 sl240 sl241 sl242 sl243 sl244 sl245 sl246 sl247 sl248 sl249 sl250 sl251 sl252 sl253 sl254 sl255 sl256 sl257 sl258 sl259 sl260 sl261 sl262 sl263 sl264 sl265 sl266 sl267 sl268 sl269 sl270 sl271 sl272 sl273 sl274 sl275 sl276 sl277 sl278 sl279 sl280 sl281 sl282 sl283 sl284 sl285 sl286 sl287 sl288 sl289 sl290 sl291 sl292 sl293 sl294 sl295 sl296 sl297 sl298 sl299 sl300 sl301 sl302 sl303 sl304 sl305 sl306 sl307 sl308 sl309 sl310 sl311 sl312 sl313 sl314 sl315 sl316 sl317 sl318 sl319 sl320 sl321 sl322 sl323 sl324 sl325 sl326 sl327 sl328 sl329 sl330 sl331 sl332 sl333 sl334 sl335 sl336 sl337 sl338 sl339 sl340 sl341 sl342 sl343 sl344 sl345 sl346 sl347 sl348 sl349 sl350 sl351 sl352 sl353 sl354 sl355 sl356 sl357 sl358 sl359 sl360 sl361 sl362 sl363 sl364 sl365 sl366 sl367 sl368 sl369 sl370 sl371 sl372 sl373 sl374 sl375 sl376 sl377 sl378 sl379 sl380 sl381 sl382 sl383 sl384 sl385 sl386 sl387 sl388 sl389 sl390 sl391 sl392 sl393 sl394 sl395 sl396 sl397 sl398 sl399 sl400 sl401 sl402 sl403 sl404 sl405 sl406 sl407 sl408 sl409 sl410 sl411 sl412 sl413 sl414 sl415 sl416 sl417 sl418 sl419 sl420 sl421 sl422 sl423 sl424 sl425 sl426 sl427 : Value) (K : Act → World → Prop) (Q' : Exit → Act → World → Prop)
  (hK : ∀ (tl0 tl1 tl6 tl8 tl9 tl10 tl11 tl12 tl13 tl18 tl19 tl20 tl21 tl22 tl23 tl24 tl25 tl26 tl27 tl28 tl29 tl30 tl31 tl32 tl33 tl34 tl35 tl36 tl37 tl38 tl39 tl40 tl41 tl42 tl43 tl44 tl45 tl46 tl47 tl48 tl49 tl50 tl51 tl52 tl53 tl54 tl55 tl56 tl57 tl58 tl59 tl60 tl61 tl62 tl63 tl64 tl65 tl66 tl67 tl68 tl69 tl70 tl71 tl72 tl73 tl74 tl75 tl76 tl77 tl78 tl79 tl80 tl81 tl82 tl83 tl84 tl85 tl86 tl87 tl88 tl89 tl90 tl91 tl92 tl93 tl94 tl95 tl96 tl97 tl98 tl99 tl100 tl101 tl102 tl103 tl104 tl105 tl106 tl107 tl108 tl109 tl110 tl111 tl112 tl113 tl114 tl115 tl116 tl117 tl118 tl119 tl120 tl121 tl122 tl123 tl124 tl125 tl126 tl127 tl128 tl129 tl130 tl131 tl132 tl133 tl134 tl135 tl136 tl137 tl138 tl139 tl140 tl141 tl142 tl143 tl144 tl145 tl146 tl147 tl148 tl149 tl150 tl151 tl152 tl153 tl154 tl155 tl156 tl157 tl158 tl159 tl160 tl161 tl162 tl163 tl164 tl165 tl166 tl167 tl168 tl169 tl170 tl171 tl172 tl173 tl174 tl175 tl176 tl177 tl178 tl179 tl180 tl181 tl182 tl183 tl184 tl185 tl186 tl187 tl188 tl189 tl190 tl191 tl192 tl193 tl194 tl195 tl196 tl197 tl198 tl199 tl200 tl201 tl202 tl203 tl204 tl205 tl206 tl207 tl208 tl209 tl210 tl211 tl212 tl213 tl214 tl215 tl216 tl217 tl218 tl219 tl220 tl221 tl222 tl223 tl224 tl225 tl226 tl227 tl228 tl229 tl230 tl231 tl232 tl233 tl234 tl235 tl236 tl237 tl238 tl239 tl240 tl241 tl242 tl243 tl244 tl245 tl246 tl247 tl248 tl249 tl250 tl251 tl252 tl253 tl254 tl255 tl256 tl257 tl258 tl259 tl260 tl261 tl262 tl263 tl264 tl265 tl266 tl267 tl268 tl269 tl270 tl271 tl272 tl273 tl274 tl275 tl276 tl277 tl278 tl279 tl280 tl281 tl282 tl283 tl284 tl285 tl286 tl287 tl288 tl289 tl290 tl291 tl292 tl293 tl294 tl295 tl296 tl297 tl298 tl299 tl300 tl301 tl302 tl303 tl304 tl305 tl306 tl307 tl308 tl309 tl310 tl311 tl312 tl313 tl314 tl315 tl316 tl317 tl318 tl319 tl320 tl321 tl322 tl323 tl324 tl325 tl326 tl327 tl328 tl329 tl330 tl331 tl332 tl333 tl334 tl335 tl336 tl337 tl338 tl339 tl340 tl341 tl342 tl343 tl344 tl345 tl346 tl347 tl348 tl349 tl350 tl351 tl352 tl353 tl354 tl355 tl356 tl357 tl358 tl359 tl360 tl361 tl362 tl363 tl364 tl365 tl366 tl367 tl368 tl369 tl370 tl371 tl372 tl373 tl374 tl375 tl376 tl377 tl378 tl379 tl380 tl381 tl382 tl383 tl384 tl385 tl386 tl387 tl388 tl389 tl390 tl391 tl392 tl393 tl394 tl395 tl396 tl397 tl398 tl399 tl400 tl401 tl402 tl403 tl404 tl405 tl406 tl407 tl408 tl409 tl410 tl411 tl412 tl413 tl414 tl415 tl416 tl417 tl418 tl419 tl420 tl421 tl422 tl423 tl424 tl425 tl426 tl427 : Value) (wx : World), Hid (Moved D w6 wx) → K ⟨List.toArray (tl0 :: tl1 :: sl2 :: .slice va Vs.length vc :: sl4 :: sl5 :: tl6 :: .pointer (some ⟨w.heap.size, 0, none⟩) :: tl8 :: tl9 :: tl10 :: tl11 :: tl12 :: tl13 :: .pointer (some ⟨D, 0, none⟩) :: .pointer (some ⟨Y, 0, none⟩) :: sl16 :: sl17 :: tl18 :: tl19 :: tl20 :: tl21 :: tl22 :: tl23 :: tl24 :: tl25 :: tl26 :: tl27 :: tl28 :: tl29 :: tl30 :: tl31 :: tl32 :: tl33 :: tl34 :: tl35 :: tl36 :: tl37 :: tl38 :: tl39 :: tl40 :: tl41 :: tl42 :: tl43 :: tl44 :: tl45 :: tl46 :: tl47 :: tl48 :: tl49 :: tl50 :: tl51 :: tl52 :: tl53 :: tl54 :: tl55 :: tl56 :: tl57 :: tl58 :: tl59 :: tl60 :: tl61 :: tl62 :: tl63 :: tl64 :: tl65 :: tl66 :: tl67 :: tl68 :: tl69 :: tl70 :: tl71 :: tl72 :: tl73 :: tl74 :: tl75 :: tl76 :: tl77 :: tl78 :: tl79 :: tl80 :: tl81 :: tl82 :: tl83 :: tl84 :: tl85 :: tl86 :: tl87 :: tl88 :: tl89 :: tl90 :: tl91 :: tl92 :: tl93 :: tl94 :: tl95 :: tl96 :: tl97 :: tl98 :: tl99 :: tl100 :: tl101 :: tl102 :: tl103 :: tl104 :: tl105 :: tl106 :: tl107 :: tl108 :: tl109 :: tl110 :: tl111 :: tl112 :: tl113 :: tl114 :: tl115 :: tl116 :: tl117 :: tl118 :: tl119 :: tl120 :: tl121 :: tl122 :: tl123 :: tl124 :: tl125 :: tl126 :: tl127 :: tl128 :: tl129 :: tl130 :: tl131 :: tl132 :: tl133 :: tl134 :: tl135 :: tl136 :: tl137 :: tl138 :: tl139 :: tl140 :: tl141 :: tl142 :: tl143 :: tl144 :: tl145 :: tl146 :: tl147 :: tl148 :: tl149 :: tl150 :: tl151 :: tl152 :: tl153 :: tl154 :: tl155 :: tl156 :: tl157 :: tl158 :: tl159 :: tl160 :: tl161 :: tl162 :: tl163 :: tl164 :: tl165 :: tl166 :: tl167 :: tl168 :: tl169 :: tl170 :: tl171 :: tl172 :: tl173 :: tl174 :: tl175 :: tl176 :: tl177 :: tl178 :: tl179 :: tl180 :: tl181 :: tl182 :: tl183 :: tl184 :: tl185 :: tl186 :: tl187 :: tl188 :: tl189 :: tl190 :: tl191 :: tl192 :: tl193 :: tl194 :: tl195 :: tl196 :: tl197 :: tl198 :: tl199 :: tl200 :: tl201 :: tl202 :: tl203 :: tl204 :: tl205 :: tl206 :: tl207 :: tl208 :: tl209 :: tl210 :: tl211 :: tl212 :: tl213 :: tl214 :: tl215 :: tl216 :: tl217 :: tl218 :: tl219 :: tl220 :: tl221 :: tl222 :: tl223 :: tl224 :: tl225 :: tl226 :: tl227 :: tl228 :: tl229 :: tl230 :: tl231 :: tl232 :: tl233 :: tl234 :: tl235 :: tl236 :: tl237 :: tl238 :: tl239 :: tl240 :: tl241 :: tl242 :: tl243 :: tl244 :: tl245 :: tl246 :: tl247 :: tl248 :: tl249 :: tl250 :: tl251 :: tl252 :: tl253 :: tl254 :: tl255 :: tl256 :: tl257 :: tl258 :: tl259 :: tl260 :: tl261 :: tl262 :: tl263 :: tl264 :: tl265 :: tl266 :: tl267 :: tl268 :: tl269 :: tl270 :: tl271 :: tl272 :: tl273 :: tl274 :: tl275 :: tl276 :: tl277 :: tl278 :: tl279 :: tl280 :: tl281 :: tl282 :: tl283 :: tl284 :: tl285 :: tl286 :: tl287 :: tl288 :: tl289 :: tl290 :: tl291 :: tl292 :: tl293 :: tl294 :: tl295 :: tl296 :: tl297 :: tl298 :: tl299 :: tl300 :: tl301 :: tl302 :: tl303 :: tl304 :: tl305 :: tl306 :: tl307 :: tl308 :: tl309 :: tl310 :: tl311 :: tl312 :: tl313 :: tl314 :: tl315 :: tl316 :: tl317 :: tl318 :: tl319 :: tl320 :: tl321 :: tl322 :: tl323 :: tl324 :: tl325 :: tl326 :: tl327 :: tl328 :: tl329 :: tl330 :: tl331 :: tl332 :: tl333 :: tl334 :: tl335 :: tl336 :: tl337 :: tl338 :: tl339 :: tl340 :: tl341 :: tl342 :: tl343 :: tl344 :: tl345 :: tl346 :: tl347 :: tl348 :: tl349 :: tl350 :: tl351 :: tl352 :: tl353 :: tl354 :: tl355 :: tl356 :: tl357 :: tl358 :: tl359 :: tl360 :: tl361 :: tl362 :: tl363 :: tl364 :: tl365 :: tl366 :: tl367 :: tl368 :: tl369 :: tl370 :: tl371 :: tl372 :: tl373 :: tl374 :: tl375 :: tl376 :: tl377 :: tl378 :: tl379 :: tl380 :: tl381 :: tl382 :: tl383 :: tl384 :: tl385 :: tl386 :: tl387 :: tl388 :: tl389 :: tl390 :: tl391 :: tl392 :: tl393 :: tl394 :: tl395 :: tl396 :: tl397 :: tl398 :: tl399 :: tl400 :: tl401 :: tl402 :: tl403 :: tl404 :: tl405 :: tl406 :: tl407 :: tl408 :: tl409 :: tl410 :: tl411 :: tl412 :: tl413 :: tl414 :: tl415 :: tl416 :: tl417 :: tl418 :: tl419 :: tl420 :: tl421 :: tl422 :: tl423 :: tl424 :: tl425 :: tl426 :: tl427 :: []), []⟩ wx) :
  (stmtOf Tryz.f4 15).wp Tryz.prog (Exit.then K Q') ⟨List.toArray (sl0 :: sl1 :: sl2 :: .slice va Vs.length vc :: sl4 :: sl5 :: sl6 :: .pointer (some ⟨w.heap.size, 0, none⟩) :: sl8 :: sl9 :: sl10 :: sl11 :: sl12 :: sl13 :: .pointer (some ⟨D, 0, none⟩) :: .pointer (some ⟨Y, 0, none⟩) :: sl16 :: sl17 :: sl18 :: sl19 :: sl20 :: sl21 :: sl22 :: sl23 :: sl24 :: sl25 :: sl26 :: sl27 :: sl28 :: sl29 :: sl30 :: sl31 :: sl32 :: sl33 :: sl34 :: sl35 :: sl36 :: sl37 :: sl38 :: sl39 :: sl40 :: sl41 :: sl42 :: sl43 :: sl44 :: sl45 :: sl46 :: sl47 :: sl48 :: sl49 :: sl50 :: sl51 :: sl52 :: sl53 :: sl54 :: sl55 :: sl56 :: sl57 :: sl58 :: sl59 :: sl60 :: sl61 :: sl62 :: sl63 :: sl64 :: sl65 :: sl66 :: sl67 :: sl68 :: sl69 :: sl70 :: sl71 :: sl72 :: sl73 :: sl74 :: sl75 :: sl76 :: sl77 :: sl78 :: sl79 :: sl80 :: sl81 :: sl82 :: sl83 :: sl84 :: sl85 :: sl86 :: sl87 :: sl88 :: sl89 :: sl90 :: sl91 :: sl92 :: sl93 :: sl94 :: sl95 :: sl96 :: sl97 :: sl98 :: sl99 :: sl100 :: sl101 :: sl102 :: sl103 :: sl104 :: sl105 :: sl106 :: sl107 :: sl108 :: sl109 :: sl110 :: sl111 :: sl112 :: sl113 :: sl114 :: sl115 :: sl116 :: sl117 :: sl118 :: sl119 :: sl120 :: sl121 :: sl122 :: sl123 :: sl124 :: sl125 :: sl126 :: sl127 :: sl128 :: sl129 :: sl130 :: sl131 :: sl132 :: sl133 :: sl134 :: sl135 :: sl136 :: sl137 :: sl138 :: sl139 :: sl140 :: sl141 :: sl142 :: sl143 :: sl144 :: sl145 :: sl146 :: sl147 :: sl148 :: sl149 :: sl150 :: sl151 :: sl152 :: sl153 :: sl154 :: sl155 :: sl156 :: sl157 :: sl158 :: sl159 :: sl160 :: sl161 :: sl162 :: sl163 :: sl164 :: sl165 :: sl166 :: sl167 :: sl168 :: sl169 :: sl170 :: sl171 :: sl172 :: sl173 :: sl174 :: sl175 :: sl176 :: sl177 :: sl178 :: sl179 :: sl180 :: sl181 :: sl182 :: sl183 :: sl184 :: sl185 :: sl186 :: sl187 :: sl188 :: sl189 :: sl190 :: sl191 :: sl192 :: sl193 :: sl194 :: sl195 :: sl196 :: sl197 :: sl198 :: sl199 :: sl200 :: sl201 :: sl202 :: sl203 :: sl204 :: sl205 :: sl206 :: sl207 :: sl208 :: sl209 :: sl210 :: sl211 :: sl212 :: sl213 :: sl214 :: sl215 :: sl216 :: sl217 :: sl218 :: sl219 :: sl220 :: sl221 :: sl222 :: sl223 :: sl224 :: sl225 :: sl226 :: sl227 :: sl228 :: sl229 :: sl230 :: sl231 :: sl232 :: sl233 :: sl234 :: sl235 :: sl236 :: sl237 :: sl238 :: sl239 :: sl240 :: sl241 :: sl242 :: sl243 :: sl244 :: sl245 :: sl246 :: sl247 :: sl248 :: sl249 :: sl250 :: sl251 :: sl252 :: sl253 :: sl254 :: sl255 :: sl256 :: sl257 :: sl258 :: sl259 :: sl260 :: sl261 :: sl262 :: sl263 :: sl264 :: sl265 :: sl266 :: sl267 :: sl268 :: sl269 :: sl270 :: sl271 :: sl272 :: sl273 :: sl274 :: sl275 :: sl276 :: sl277 :: sl278 :: sl279 :: sl280 :: sl281 :: sl282 :: sl283 :: sl284 :: sl285 :: sl286 :: sl287 :: sl288 :: sl289 :: sl290 :: sl291 :: sl292 :: sl293 :: sl294 :: sl295 :: sl296 :: sl297 :: sl298 :: sl299 :: sl300 :: sl301 :: sl302 :: sl303 :: sl304 :: sl305 :: sl306 :: sl307 :: sl308 :: sl309 :: sl310 :: sl311 :: sl312 :: sl313 :: sl314 :: sl315 :: sl316 :: sl317 :: sl318 :: sl319 :: sl320 :: sl321 :: sl322 :: sl323 :: sl324 :: sl325 :: sl326 :: sl327 :: sl328 :: sl329 :: sl330 :: sl331 :: sl332 :: sl333 :: sl334 :: sl335 :: sl336 :: sl337 :: sl338 :: sl339 :: sl340 :: sl341 :: sl342 :: sl343 :: sl344 :: sl345 :: sl346 :: sl347 :: sl348 :: sl349 :: sl350 :: sl351 :: sl352 :: sl353 :: sl354 :: sl355 :: sl356 :: sl357 :: sl358 :: sl359 :: sl360 :: sl361 :: sl362 :: sl363 :: sl364 :: sl365 :: sl366 :: sl367 :: sl368 :: sl369 :: sl370 :: sl371 :: sl372 :: sl373 :: sl374 :: sl375 :: sl376 :: sl377 :: sl378 :: sl379 :: sl380 :: sl381 :: sl382 :: sl383 :: sl384 :: sl385 :: sl386 :: sl387 :: sl388 :: sl389 :: sl390 :: sl391 :: sl392 :: sl393 :: sl394 :: sl395 :: sl396 :: sl397 :: sl398 :: sl399 :: sl400 :: sl401 :: sl402 :: sl403 :: sl404 :: sl405 :: sl406 :: sl407 :: sl408 :: sl409 :: sl410 :: sl411 :: sl412 :: sl413 :: sl414 :: sl415 :: sl416 :: sl417 :: sl418 :: sl419 :: sl420 :: sl421 :: sl422 :: sl423 :: sl424 :: sl425 :: sl426 :: sl427 :: []), []⟩ w6 := by
 conv => arg 2; whnf
 have zW6 := K6.out.m.size
 go_wp2_with fail
 go_wp2_with fail
 refine (raw_deal D 1 _ K6.out.m.deck).mono ?_; rintro e u1 ⟨l1, rfl, hl1, mv1⟩
 go_wp2_with fail
 refine (raw_deal D 3 _ mv1.deck).mono ?_; rintro e u2 ⟨l2, rfl, hl2, mv2⟩
 go_wp2_with fail
 refine wp_calls_world (fun u3 hu3 => ?_)
 have mv3 : Moved D u2 u3 := by rw [hu3]; exact (Moved.start mv2.deck).alloc _
 have g3 : u3.heap[u2.heap.size]? = some (.cells (([l1, l2]).flatMap encS).toArray 9 (0, 0)) := by rw [hu3]; exact blk_new rfl
 clear hu3
 refine (raw_deal D 1 _ mv3.deck).mono ?_; rintro e u4 ⟨l3, rfl, hl3, mv4⟩
 go_wp2_with fail
 refine (raw_deal D 1 _ mv4.deck).mono ?_; rintro e u5 ⟨l4, rfl, hl4, mv5⟩
 go_wp2_with fail
 refine (raw_deal D 3 _ mv5.deck).mono ?_; rintro e u6 ⟨l5, rfl, hl5, mv6⟩
 go_wp2_with fail
 refine wp_world (fun WL hWL => ?_)
 have mvL : Moved D u6 WL := by rw [hWL]; exact ((Moved.start mv6.deck).alloc _).alloc _
 have g6 : WL.heap[u6.heap.size]? = some (.cells (([l3, l4, l5]).flatMap encS).toArray 9 (0, 0)) := by rw [hWL]; exact blk_old (blk_new rfl)
 have gG : WL.heap[u6.heap.size + 1]? = some (.cells #[.slice va Vs.length vc, .slice (some ⟨u2.heap.size, 0, none⟩) 2 2, .slice (some ⟨u6.heap.size, 0, none⟩) 3 3] 28 (0, 0)) := by rw [hWL]; exact blk_new (by simp)
 have y0 := mv1.size; have y1 := mv2.size; have y2 := mv3.size; have y3 := mv4.size; have y4 := mv5.size; have y5 := mv6.size
 have mvA : Moved D w6 WL := ((((((mv1.trans mv2).trans mv3).trans mv4).trans mv5).trans mv6).trans mvL)
 have g3L : WL.heap[u2.heap.size]? = some (.cells (([l1, l2]).flatMap encS).toArray 9 (0, 0)) := ((((mv4.trans mv5).trans mv6).trans mvL).blk (by omega) g3)
 have KL := Lib.hid (K6.out.moved mvA); have HmvA := Lib.hid mvA
 have HBL := Lib.hid (KL.out.m.base HBd.out (by omega))
 obtain ⟨G, hG⟩ : ∃ G, u6.heap.size + 1 = G := ⟨_, rfl⟩
 have lG := lt_of_blk gG
 rw [hG] at gG lG ⊢
 have zLw : w6.heap.size ≤ WL.heap.size := mvA.size
 have HGl := Lib.hid (show ∀ k, k < 3 → ∃ (v : Value) (L : List (List UInt8)), WL.cell? ⟨G, k, none⟩ = some v ∧ Vec WL Any1 1 encS v L ∧ L.length ≤ 20 ∧ ∀ x ∈ L, x.length ≤ 200 by
  intro k hk
  have c0 : ∀ j v, (#[.slice va Vs.length vc, .slice (some ⟨u2.heap.size, 0, none⟩) 2 2, .slice (some ⟨u6.heap.size, 0, none⟩) 3 3] : Array Value)[j]? = some v → WL.cell? ⟨G, j, none⟩ = some v := fun j v h => by rw [cell_of_row _ _ _ _ _ _ gG]; exact h
  rcases (by omega : k = 0 ∨ k = 1 ∨ k = 2) with rfl | rfl | rfl
  ·exact ⟨_, Vs, c0 0 _ rfl, HVals.out.below HBL.out, hn3, HV200.out⟩
  ·exact ⟨_, [l1, l2], c0 1 _ rfl, blockVec (k := 1) (enc := encS) (fun _ => rfl) g3L trivial 2 rfl, by simp, by intro x hx; simp at hx; rcases hx with rfl | rfl <;> omega⟩
  ·exact ⟨_, [l3, l4, l5], c0 2 _ rfl, blockVec (k := 1) (enc := encS) (fun _ => rfl) g6 trivial 3 rfl, by simp, by intro x hx; simp at hx; rcases hx with rfl | rfl | rfl <;> omega⟩)
 have lX := lt_of_blk KL.out.x; have lY := lt_of_blk KL.out.y
 clear mv1 mv2 mv3 mv4 mv5 mv6 mvL mvA g3 g6 gG g3L y0 y1 y2 y3 y4 y5 hWL hl1 hl2 hl3 hl4 hl5 K6 hG
 go_loopw [179] (fun i wr => ∃ k : Nat, k ≤ 3 ∧ i = .int .i64 k ∧ Below WL.heap.size WL wr) (fun i _ => 3 - (intOf i).toNat)
 case atStart => exact ⟨0, by omega, rfl, Below.refl _ _⟩
 case round =>
  obtain ⟨k, hk, rfl, hbw⟩ := hrel
  obtain ⟨WR, hWR⟩ : ∃ u, u = wr := ⟨_, rfl⟩
  subst hWR
  have HBk := Lib.hid hbw
  by_cases hlt : k < 3
  ·have hq : decide ((k : Int) < 3) = true := by simp; omega
   obtain ⟨v, L, cv, hvec, hL20, hL200⟩ := HGl.out k hlt
   have cv := (hbw.cell (p := ⟨G, k, none⟩) lG).trans cv
   obtain ⟨av, cvv, rfl⟩ := hvec.slice
   have HVec := Lib.hid (hvec.below hbw); have HL200 := Lib.hid hL200
   have HSs := Lib.hid (show ∀ x ∈ L, x.length ≤ 1000000 from fun x hx => by have := hL200 x hx; omega)
   obtain ⟨x0, x1, x2⟩ := cells3 (blk_below hbw lX KL.out.x)
   clear hvec hL200 hbw
   go_wp2_with fail
   refine wp_world (fun WI hWI => ?_)
   obtain ⟨hbI, hzI, hI⟩ := ints_below (wb := WR) (t := 3) id0 1 1048577
   rw [← hWI] at hbI hzI hI
   have HI := Lib.hid hI; have HBI := Lib.hid (HBk.out.trans (hbI.mono HBk.out.size)); have HVI := Lib.hid (HVec.out.below hbI)
   obtain ⟨T, hT⟩ : ∃ T, WR.heap.size = T := ⟨_, rfl⟩
   rw [hT] at hzI HI ⊢
   clear hI hWI hbI hT x0 x1 x2 cv HVec
   go_loopw [187] (fun i wr => ∃ j : Nat, j ≤ 3 ∧ i = .int .i64 j ∧ Below WI.heap.size WI wr) (fun i _ => 3 - (intOf i).toNat)
   case atStart => exact ⟨0, by omega, rfl, Below.refl _ _⟩
   case round =>
    obtain ⟨j, hj, rfl, hbw⟩ := hrel
    have HBj := Lib.hid hbw
    have HBL2 := Lib.hid (HBI.out.trans (hbw.mono HBI.out.size))
    by_cases hlt2 : j < 3
    ·have hq2 : decide ((j : Int) < 3) = true := by simp; omega
     obtain ⟨u, cu⟩ := HI.out j hlt2
     have cu := (hbw.cell (p := ⟨T, j, none⟩) hzI).trans cu
     obtain ⟨p0, p1, p2, p3⟩ := cellsS (blk_below HBL2.out lY KL.out.y)
     obtain ⟨x0, x1, x2⟩ := cells3 (blk_below HBL2.out lX KL.out.x)
     clear hbw
     obtain ⟨⟨R1, f1⟩, h1⟩ : ∃ p, makeN s u 1 L = p := ⟨_, rfl⟩
     obtain ⟨⟨R2, f2⟩, h2⟩ : ∃ p, makeN s 1 ver0 L = p := ⟨_, rfl⟩
     have hR1 : RawOk R1 := by have := @make_raw s u 1 L; rw [h1] at this; exact this
     have hR2 : RawOk R2 := by have := @make_raw s 1 ver0 L; rw [h2] at this; exact this
     have HR1 := Lib.hid hR1; have HR2 := Lib.hid hR2; have H1 := Lib.hid h1; have H2 := Lib.hid h2
     have d1 : (f1 != f1) = false := by simp
     have d2 : (f2 != f2) = false := by simp
     clear hR1 hR2 h1 h2
     go_wp2_with fail
     have HVj := Lib.hid (HVI.out.below HBj.out)
     refine (pmake_any S1 Any1 _ _ _ _ s u 1 L _ wr (KL.out.s.below (HBI.out.trans (HBj.out.mono HBI.out.size))) HVj.out HCs.out HSs.out (by omega)).mono ?_
     rw [H1.out]
     rintro e m1 ⟨_, rfl, ⟨_, rfl, hm⟩, hb⟩
     obtain ⟨ma1, mc1, rfl⟩ := hm.slice
     have Hr1 := Lib.hid hm.any; have Bm1 := Lib.hid (HBj.out.trans (hb.mono HBj.out.size)); have Vm1 := Lib.hid (HVj.out.below hb)
     clear hm hb p0 p1 p2 p3 x0 x1 x2 cu
     dsimp only
     obtain ⟨p0, p1, p2, p3⟩ := cellsS (blk_below (HBI.out.trans (Bm1.out.mono HBI.out.size)) lY KL.out.y); obtain ⟨x0, x1, x2⟩ := cells3 (blk_below (HBI.out.trans (Bm1.out.mono HBI.out.size)) lX KL.out.x); have ly := Nat.lt_of_lt_of_le lY (HBI.out.trans (Bm1.out.mono HBI.out.size)).size; have lx := Nat.lt_of_lt_of_le lX (HBI.out.trans (Bm1.out.mono HBI.out.size)).size
     go_wp2_with fail
     refine wp_calls_world (fun n1 hn => ?_)
     have bn : Below m1.heap.size m1 n1 := by rw [hn]; exact (Below.refl _ _).alloc (Nat.le_refl _) _
     have HA1 := Lib.hid (show n1.heap[m1.heap.size]? = some (.cells #[.int .i64 R1.id, .int .i64 R1.ver, .slice ma1 R1.vals.length mc1] 44 (0, 0)) by rw [hn]; exact blk_new rfl)
     have Bn1 := Lib.hid (Bm1.out.trans (bn.mono Bm1.out.size)); have Vn1 := Lib.hid (Vm1.out.below bn); have hx := Lib.hid (Hr1.out.below bn); clear Hr1; have Hr1 := hx; clear hx
     clear bn hn p0 p1 p2 p3 x0 x1 x2 ly lx
     refine (rmake_any S1 Any1 _ _ _ _ s u 1 L _ n1 (KL.out.s.below (HBI.out.trans (Bn1.out.mono HBI.out.size))) Vn1.out HCs.out HSs.out (by omega)).mono ?_
     rw [H1.out]
     rintro e m2 ⟨_, rfl, ⟨_, rfl, hm⟩, hb⟩
     obtain ⟨ma2, mc2, rfl⟩ := hm.slice
     have Hr2 := Lib.hid hm.any; have Bm2 := Lib.hid (Bn1.out.trans (hb.mono Bn1.out.size)); have Vm2 := Lib.hid (Vn1.out.below hb)
     have hx := Lib.hid (blk_below hb (lt_of_blk HA1.out) HA1.out); clear HA1; have HA1 := hx; clear hx; have hx := Lib.hid (Hr1.out.below hb); clear Hr1; have Hr1 := hx; clear hx
     clear hm hb
     dsimp only
     obtain ⟨p0, p1, p2, p3⟩ := cellsS (blk_below (HBI.out.trans (Bm2.out.mono HBI.out.size)) lY KL.out.y); obtain ⟨x0, x1, x2⟩ := cells3 (blk_below (HBI.out.trans (Bm2.out.mono HBI.out.size)) lX KL.out.x); have ly := Nat.lt_of_lt_of_le lY (HBI.out.trans (Bm2.out.mono HBI.out.size)).size; have lx := Nat.lt_of_lt_of_le lX (HBI.out.trans (Bm2.out.mono HBI.out.size)).size
     go_wp2_with fail
     refine wp_calls_world (fun n2 hn => ?_)
     have bn : Below m2.heap.size m2 n2 := by rw [hn]; exact (Below.refl _ _).alloc (Nat.le_refl _) _
     have HA2 := Lib.hid (show n2.heap[m2.heap.size]? = some (.cells #[.int .i64 R1.id, .int .i64 R1.ver, .slice ma2 R1.vals.length mc2] 44 (0, 0)) by rw [hn]; exact blk_new rfl)
     have Bn2 := Lib.hid (Bm2.out.trans (bn.mono Bm2.out.size)); have Vn2 := Lib.hid (Vm2.out.below bn); have hx := Lib.hid (Hr2.out.below bn); clear Hr2; have Hr2 := hx; clear hx
     have hx := Lib.hid (blk_below bn (lt_of_blk HA1.out) HA1.out); clear HA1; have HA1 := hx; clear hx; have hx := Lib.hid (Hr1.out.below bn); clear Hr1; have Hr1 := hx; clear hx
     clear bn hn p0 p1 p2 p3 x0 x1 x2 ly lx
     refine (pmake_any S1 Any1 _ _ _ _ s 1 ver0 L _ n2 (KL.out.s.below (HBI.out.trans (Bn2.out.mono HBI.out.size))) Vn2.out HCs.out HSs.out (by omega)).mono ?_
     rw [H2.out]
     rintro e m3 ⟨_, rfl, ⟨_, rfl, hm⟩, hb⟩
     obtain ⟨ma3, mc3, rfl⟩ := hm.slice
     have Hr3 := Lib.hid hm.any; have Bm3 := Lib.hid (Bn2.out.trans (hb.mono Bn2.out.size)); have Vm3 := Lib.hid (Vn2.out.below hb)
     have hx := Lib.hid (blk_below hb (lt_of_blk HA1.out) HA1.out); clear HA1; have HA1 := hx; clear hx; have hx := Lib.hid (Hr1.out.below hb); clear Hr1; have Hr1 := hx; clear hx
     have hx := Lib.hid (blk_below hb (lt_of_blk HA2.out) HA2.out); clear HA2; have HA2 := hx; clear hx; have hx := Lib.hid (Hr2.out.below hb); clear Hr2; have Hr2 := hx; clear hx
     clear hm hb
     dsimp only
     obtain ⟨p0, p1, p2, p3⟩ := cellsS (blk_below (HBI.out.trans (Bm3.out.mono HBI.out.size)) lY KL.out.y); obtain ⟨x0, x1, x2⟩ := cells3 (blk_below (HBI.out.trans (Bm3.out.mono HBI.out.size)) lX KL.out.x); have ly := Nat.lt_of_lt_of_le lY (HBI.out.trans (Bm3.out.mono HBI.out.size)).size; have lx := Nat.lt_of_lt_of_le lX (HBI.out.trans (Bm3.out.mono HBI.out.size)).size
     go_wp2_with fail
     refine wp_calls_world (fun n3 hn => ?_)
     have bn : Below m3.heap.size m3 n3 := by rw [hn]; exact (Below.refl _ _).alloc (Nat.le_refl _) _
     have HA3 := Lib.hid (show n3.heap[m3.heap.size]? = some (.cells #[.int .i64 R2.id, .int .i64 R2.ver, .slice ma3 R2.vals.length mc3] 44 (0, 0)) by rw [hn]; exact blk_new rfl)
     have Bn3 := Lib.hid (Bm3.out.trans (bn.mono Bm3.out.size)); have Vn3 := Lib.hid (Vm3.out.below bn); have hx := Lib.hid (Hr3.out.below bn); clear Hr3; have Hr3 := hx; clear hx
     have hx := Lib.hid (blk_below bn (lt_of_blk HA1.out) HA1.out); clear HA1; have HA1 := hx; clear hx; have hx := Lib.hid (Hr1.out.below bn); clear Hr1; have Hr1 := hx; clear hx
     have hx := Lib.hid (blk_below bn (lt_of_blk HA2.out) HA2.out); clear HA2; have HA2 := hx; clear hx; have hx := Lib.hid (Hr2.out.below bn); clear Hr2; have Hr2 := hx; clear hx
     clear bn hn p0 p1 p2 p3 x0 x1 x2 ly lx
     refine (rmake_any S1 Any1 _ _ _ _ s 1 ver0 L _ n3 (KL.out.s.below (HBI.out.trans (Bn3.out.mono HBI.out.size))) Vn3.out HCs.out HSs.out (by omega)).mono ?_
     rw [H2.out]
     rintro e m4 ⟨_, rfl, ⟨_, rfl, hm⟩, hb⟩
     obtain ⟨ma4, mc4, rfl⟩ := hm.slice
     have Hr4 := Lib.hid hm.any; have Bm4 := Lib.hid (Bn3.out.trans (hb.mono Bn3.out.size)); have Vm4 := Lib.hid (Vn3.out.below hb)
     have hx := Lib.hid (blk_below hb (lt_of_blk HA1.out) HA1.out); clear HA1; have HA1 := hx; clear hx; have hx := Lib.hid (Hr1.out.below hb); clear Hr1; have Hr1 := hx; clear hx
     have hx := Lib.hid (blk_below hb (lt_of_blk HA2.out) HA2.out); clear HA2; have HA2 := hx; clear hx; have hx := Lib.hid (Hr2.out.below hb); clear Hr2; have Hr2 := hx; clear hx
     have hx := Lib.hid (blk_below hb (lt_of_blk HA3.out) HA3.out); clear HA3; have HA3 := hx; clear hx; have hx := Lib.hid (Hr3.out.below hb); clear Hr3; have Hr3 := hx; clear hx
     clear hm hb
     dsimp only
     obtain ⟨p0, p1, p2, p3⟩ := cellsS (blk_below (HBI.out.trans (Bm4.out.mono HBI.out.size)) lY KL.out.y); obtain ⟨x0, x1, x2⟩ := cells3 (blk_below (HBI.out.trans (Bm4.out.mono HBI.out.size)) lX KL.out.x); have ly := Nat.lt_of_lt_of_le lY (HBI.out.trans (Bm4.out.mono HBI.out.size)).size; have lx := Nat.lt_of_lt_of_le lX (HBI.out.trans (Bm4.out.mono HBI.out.size)).size
     obtain ⟨a10, a11, a12⟩ := cells3 HA1.out; obtain ⟨a20, a21, a22⟩ := cells3 HA2.out; have la1 := lt_of_blk HA1.out; have la2 := lt_of_blk HA2.out
     go_wp2_with fail
     refine wp_calls_world (fun n4 hn => ?_)
     have bn : Below m4.heap.size m4 n4 := by rw [hn]; exact (Below.refl _ _).alloc (Nat.le_refl _) _
     have HA4 := Lib.hid (show n4.heap[m4.heap.size]? = some (.cells #[.int .i64 R2.id, .int .i64 R2.ver, .slice ma4 R2.vals.length mc4] 44 (0, 0)) by rw [hn]; exact blk_new rfl)
     have Bn4 := Lib.hid (Bm4.out.trans (bn.mono Bm4.out.size)); have Vn4 := Lib.hid (Vm4.out.below bn); have hx := Lib.hid (Hr4.out.below bn); clear Hr4; have Hr4 := hx; clear hx
     have hx := Lib.hid (blk_below bn (lt_of_blk HA1.out) HA1.out); clear HA1; have HA1 := hx; clear hx; have hx := Lib.hid (Hr1.out.below bn); clear Hr1; have Hr1 := hx; clear hx
     have hx := Lib.hid (blk_below bn (lt_of_blk HA2.out) HA2.out); clear HA2; have HA2 := hx; clear hx; have hx := Lib.hid (Hr2.out.below bn); clear Hr2; have Hr2 := hx; clear hx
     have hx := Lib.hid (blk_below bn (lt_of_blk HA3.out) HA3.out); clear HA3; have HA3 := hx; clear hx; have hx := Lib.hid (Hr3.out.below bn); clear Hr3; have Hr3 := hx; clear hx
     clear bn hn p0 p1 p2 p3 x0 x1 x2 ly lx a10 a11 a12 a20 a21 a22 la1 la2
     refine (rrsame_any Any1 Any1 _ _ R1 R1 _ Hr1.out Hr2.out HR1.out.n6 HR1.out.n6).mono ?_
     rw [sameR_self _ _ rfl rfl rfl]
     rintro e m5 ⟨rfl, hb⟩
     have Bm5 := Lib.hid (Bn4.out.trans (hb.mono Bn4.out.size)); have Hr3' := Lib.hid (Hr3.out.below hb); have Hr4' := Lib.hid (Hr4.out.below hb)
     obtain ⟨a30, a31, a32⟩ := cells3 (blk_below hb (lt_of_blk HA3.out) HA3.out); obtain ⟨a40, a41, a42⟩ := cells3 (blk_below hb (lt_of_blk HA4.out) HA4.out)
     clear hb
     go_wp2_with fail
     refine (rrsame_any Any1 Any1 _ _ R2 R2 _ Hr3'.out Hr4'.out HR2.out.n6 HR2.out.n6).mono ?_
     rw [sameR_self _ _ rfl rfl rfl]
     rintro e m6 ⟨rfl, hb⟩
     have Bm6 := Lib.hid (Bm5.out.trans (hb.mono Bm5.out.size))
     clear hb a30 a31 a32 a40 a41 a42
     go_wp2_with fail
     go_roundw
     case rel => exact ⟨j + 1, by omega, by go_num, Bm6.out⟩
     case measure => simp [intOf]; omega
    ·have hq2 : decide ((j : Int) < 3) = false := by simp; omega
     have HBx := Lib.hid HBL2.out
     go_wp2_with fail
     go_roundw
     case rel => exact ⟨k + 1, by omega, by go_num, HBx.out⟩
     case measure => simp [intOf]; omega
  have hq : decide ((k : Int) < 3) = false := by simp; omega
  have hfin := Lib.hid (HmvA.out.trans ((Moved.start KL.out.m.deck).below hbw))
  clear hbw HBk HGl
  go_wp2_with fail
  first | exact hfin | exact hK _ _ _ _ _ _ _ _ _ _ _ _ _ _ _ _ _ _ _ _ _ _ _ _ _ _ _ _ _ _ _ _ _ _ _ _ _ _ _ _ _ _ _ _ _ _ _ _ _ _ _ _ _ _ _ _ _ _ _ _ _ _ _ _ _ _ _ _ _ _ _ _ _ _ _ _ _ _ _ _ _ _ _ _ _ _ _ _ _ _ _ _ _ _ _ _ _ _ _ _ _ _ _ _ _ _ _ _ _ _ _ _ _ _ _ _ _ _ _ _ _ _ _ _ _ _ _ _ _ _ _ _ _ _ _ _ _ _ _ _ _ _ _ _ _ _ _ _ _ _ _ _ _ _ _ _ _ _ _ _ _ _ _ _ _ _ _ _ _ _ _ _ _ _ _ _ _ _ _ _ _ _ _ _ _ _ _ _ _ _ _ _ _ _ _ _ _ _ _ _ _ _ _ _ _ _ _ _ _ _ _ _ _ _ _ _ _ _ _ _ _ _ _ _ _ _ _ _ _ _ _ _ _ _ _ _ _ _ _ _ _ _ _ _ _ _ _ _ _ _ _ _ _ _ _ _ _ _ _ _ _ _ _ _ _ _ _ _ _ _ _ _ _ _ _ _ _ _ _ _ _ _ _ _ _ _ _ _ _ _ _ _ _ _ _ _ _ _ _ _ _ _ _ _ _ _ _ _ _ _ _ _ _ _ _ _ _ _ _ _ _ _ _ _ _ _ _ _ _ _ _ _ _ _ _ _ _ _ _ _ _ _ _ _ _ _ _ _ _ _ _ _ _ _ _ _ _ _ _ _ _ _ _ _ _ _ _ _ _ _ _ _ _ _ _ _ _ _ _ _ _ _ _ _ _ _ _ _ _ _ _ _ _ _ _ _ _ _ _ _ _ _ _ _ _ _ _ _ _ _ _ _ _ _ _ _ _ _ _ _ hfin
end
section
set_option maxRecDepth 100000
open Go.RowKit Cal
attribute [local go_sem] toList_mk mk_size bytes_append str_append
set_option maxHeartbeats 16000000 in
theorem rex14 (w : World) (id0 ver0 : Int) (ra : Option Addr) (rc : Nat) (vals0 : List (List UInt8)) (t0 : List UInt8) (cut : Int) (HVar : Hid (VarsAt w)) (HDb : Hid (DbAt w)) (HRaw : Hid (Vec w Any1 1 encS (.slice ra vals0.length rc) vals0)) (HCw : Hid (-9223372036854775808 ≤ cut ∧ cut ≤ 9223372036854775807)) (hn1 : vals0.length ≤ 20) (ht : t0.length ≤ 600) (HS200 : Hid (∀ x ∈ vals0, x.length ≤ 200)) (Y : Nat) (af at' an as' : Option Addr) (N cf nt ct nk cn ns cs : Nat) (s : SchemaL) (HCs : Hid (checkS s = 0)) (C : List RV) (arv : Option Addr) (crv : Nat) (hC5 : C.length ≤ 5) (Z : Nat) (oid over : Int) (ovals : List (List UInt8)) (oa : Option Addr) (oc : Nat) (HOw : Hid (RawOk ⟨oid, over, ovals⟩)) (la : Option Addr) (lc : Nat) (Rs : List RecL) (HList : Hid (RecsVec w Any1 (.slice la Rs.length lc) Rs)) (hn2 : Rs.length ≤ 80) (HAll : Hid (∀ r ∈ Rs, RawOk r)) (va : Option Addr) (vc : Nat) (Vs : List (List UInt8)) (HVals : Hid (Vec w Any1 1 encS (.slice va Vs.length vc) Vs)) (hn3 : Vs.length ≤ 20) (HV200 : Hid (∀ x ∈ Vs, x.length ≤ 200)) (HRw : Hid (RawOk ⟨id0, ver0, vals0⟩)) (D : Nat) (idc : Int) (Wd Wc w4 : World) (S1 : Nat → Prop) (zDD : Wd.heap.size = D + 1) (zcd : Wd.heap.size ≤ w4.heap.size) (HG4 : Hid (∀ k, (Value.slice arv C.length crv).ownBlock = some k → Wc.heap.size ≤ k ∧ k < w4.heap.size)) (HSm : Hid (∀ b, S1 b → Wd.heap.size ≤ b ∧ b < Wc.heap.size)) (HBc : Hid (Below w.heap.size w Wc)) (zX : w.heap.size < Wc.heap.size) (zY : Y < Wc.heap.size) (zwD : w.heap.size ≤ D) (hZ4 : w4.heap.size ≤ Z) (HBd : Hid (Below w.heap.size w Wd)) (w6 : World) (z6 : w4.heap.size ≤ w6.heap.size) (K6 : Hid (QX D Wd w.heap.size id0 ver0 (.slice ra vals0.length rc) Y S1 (.slice af N cf) (.slice at' nt ct) (.slice an nk cn) (.slice as' ns cs) s w6)) (HRO6 : Hid (ROut D Wc s (.slice arv C.length crv) C idc w6)) (HZ6 : Hid (w6.heap[Z]? = some (.cells #[.int .i64 oid, .int .i64 over, .slice oa ovals.length oc] 44 (0, 0)))) (HOV6 : Hid (Vec w6 (fun b => w4.heap.size ≤ b) 1 encS (.slice oa ovals.length oc) ovals)) (sl0 sl1 sl6 sl8 sl9 sl10 sl11 sl12 sl13 sl18 sl19 sl20 sl21 sl22 sl23 sl24 sl25 sl26 sl27 sl28 sl29 sl30 sl31 sl32 sl33 sl34 sl35 sl36 sl37 sl38 sl39 sl40 sl41 sl42 sl43 sl44 sl45 sl46 sl47 sl48 sl49 sl50 sl51 sl52 sl53 sl54 sl55 sl56 sl57 sl58 sl59 sl60 sl61 sl62 sl63 sl64 sl65 sl66 sl67 sl68 sl69 sl70 sl71 sl72 sl73 sl74 sl75 sl76 sl77 sl78 sl79 sl80 sl81 sl82 sl83 sl84 sl85 sl86 sl87 sl88 sl89 sl90 sl91 sl92 sl93 sl94 sl95 sl96 sl97 sl98 sl99 sl100 sl101 sl102 sl103 sl104 sl105 sl106 sl107 sl108 sl109 sl110 sl111 sl112 sl113 sl114 sl115 sl116 sl117 sl118 sl119 sl120 sl121 sl122 sl123 sl124 sl125 sl126 sl127 sl128 sl129 sl130 sl131 sl132 sl133 sl134 sl135 sl136 sl137 sl138 sl139 sl140 sl141 sl142 sl143 sl144 sl145 sl146 sl147 sl148 sl149 sl150 sl151 sl152 sl153 sl154 sl155 sl156 sl157 sl158 sl159 sl160 sl161 sl162 sl163 sl164 sl165 sl166 sl167 sl168 sl169 sl170 sl171 sl172 sl173 sl174 sl175 sl176 sl177 sl178 sl179 sl180 sl181 sl182 sl183 sl184 sl185 sl186 sl187 sl188 sl189 sl190 sl191 sl192 sl193 sl194 sl195 sl196 sl197 sl198 sl199 sl200 sl201 sl202 sl203 sl204 sl205 sl206 sl207 sl208 sl209 sl210 sl211 sl212 sl213 sl214 sl215 sl216 sl217 sl218 sl219 sl220 sl221 sl222 sl223 sl224 sl225 sl226 sl227 sl228 sl229 sl230 sl231 sl232 sl233 sl234 sl235 sl236 sl237 sl238 sl239 sl240 sl241 sl242 sl243 sl244 sl245 sl246 sl247 sl248 sl249 sl250 sl251 sl252 sl253 sl254 sl255 sl256 sl257 sl258 sl259 sl260 sl261 sl262 sl263 sl264 sl265 sl266 sl267 sl268 sl269 sl270 sl271 sl272 sl273 sl274 sl275 sl276 sl277 sl278 sl279 sl280 sl281 sl282 sl283 sl284 sl285 sl286 sl287 sl288 sl289 sl290 sl291 sl292 sl293 sl294 sl295 sl296 sl297 sl298 sl299 sl300 sl301 sl302 sl303 sl304 sl305 sl306 sl307 sl308 sl309 sl310 sl311 sl312 sl313 sl314 sl315 sl316 sl317 sl318 sl319 sl320 sl321 sl322 sl323 sl324 sl325 sl326 sl327 sl328 sl329 sl330 sl331 sl332 sl333 sl334 sl335 sl336 sl337 sl338 sl339 sl340 sl341 sl342 sl343 sl344 sl345 sl346 sl347 sl348 sl349 sl350 sl351 sl352 sl353 sl354 sl355 sl356 sl357 sl358 sl359 sl360 sl361 sl362 sl363 sl364 sl365 sl366 sl367 sl368 sl369 sl370 sl371 sl372 sl373 sl374 sl375 sl376 sl377 sl378 sl379 sl380 sl381 sl382 sl383 sl384 sl385 sl386 sl387 sl388 sl389 sl390 sl391 sl392 sl393 sl394 sl395 sl396 sl397 sl398 sl399 sl400 sl401 sl402 sl403 sl404 sl405 sl406 sl407 sl408 sl409 sl410 sl411 sl412 sl413 sl414 sl415 sl416 sl417 sl418 sl419 sl420 sl421 sl422 sl423 sl424 sl425 sl426 sl427 : Value) :
  (restOf Tryz.f4 14).wp Tryz.prog (bodyPost Tryz.prog Tryz.f4 fun e w' => e = .returned (.bool true) ∧ Below w.heap.size w w') ⟨List.toArray (sl0 :: sl1 :: .slice la Rs.length lc :: .slice va Vs.length vc :: .string ⟨t0.toArray⟩ :: .int .i64 cut :: sl6 :: .pointer (some ⟨w.heap.size, 0, none⟩) :: sl8 :: sl9 :: sl10 :: sl11 :: sl12 :: sl13 :: .pointer (some ⟨D, 0, none⟩) :: .pointer (some ⟨Y, 0, none⟩) :: .slice arv C.length crv :: .pointer (some ⟨Z, 0, none⟩) :: sl18 :: sl19 :: sl20 :: sl21 :: sl22 :: sl23 :: sl24 :: sl25 :: sl26 :: sl27 :: sl28 :: sl29 :: sl30 :: sl31 :: sl32 :: sl33 :: sl34 :: sl35 :: sl36 :: sl37 :: sl38 :: sl39 :: sl40 :: sl41 :: sl42 :: sl43 :: sl44 :: sl45 :: sl46 :: sl47 :: sl48 :: sl49 :: sl50 :: sl51 :: sl52 :: sl53 :: sl54 :: sl55 :: sl56 :: sl57 :: sl58 :: sl59 :: sl60 :: sl61 :: sl62 :: sl63 :: sl64 :: sl65 :: sl66 :: sl67 :: sl68 :: sl69 :: sl70 :: sl71 :: sl72 :: sl73 :: sl74 :: sl75 :: sl76 :: sl77 :: sl78 :: sl79 :: sl80 :: sl81 :: sl82 :: sl83 :: sl84 :: sl85 :: sl86 :: sl87 :: sl88 :: sl89 :: sl90 :: sl91 :: sl92 :: sl93 :: sl94 :: sl95 :: sl96 :: sl97 :: sl98 :: sl99 :: sl100 :: sl101 :: sl102 :: sl103 :: sl104 :: sl105 :: sl106 :: sl107 :: sl108 :: sl109 :: sl110 :: sl111 :: sl112 :: sl113 :: sl114 :: sl115 :: sl116 :: sl117 :: sl118 :: sl119 :: sl120 :: sl121 :: sl122 :: sl123 :: sl124 :: sl125 :: sl126 :: sl127 :: sl128 :: sl129 :: sl130 :: sl131 :: sl132 :: sl133 :: sl134 :: sl135 :: sl136 :: sl137 :: sl138 :: sl139 :: sl140 :: sl141 :: sl142 :: sl143 :: sl144 :: sl145 :: sl146 :: sl147 :: sl148 :: sl149 :: sl150 :: sl151 :: sl152 :: sl153 :: sl154 :: sl155 :: sl156 :: sl157 :: sl158 :: sl159 :: sl160 :: sl161 :: sl162 :: sl163 :: sl164 :: sl165 :: sl166 :: sl167 :: sl168 :: sl169 :: sl170 :: sl171 :: sl172 :: sl173 :: sl174 :: sl175 :: sl176 :: sl177 :: sl178 :: sl179 :: sl180 :: sl181 :: sl182 :: sl183 :: sl184 :: sl185 :: sl186 :: sl187 :: sl188 :: sl189 :: sl190 :: sl191 :: sl192 :: sl193 :: sl194 :: sl195 :: sl196 :: sl197 :: sl198 :: sl199 :: sl200 :: sl201 :: sl202 :: sl203 :: sl204 :: sl205 :: sl206 :: sl207 :: sl208 :: sl209 :: sl210 :: sl211 :: sl212 :: sl213 :: sl214 :: sl215 :: sl216 :: sl217 :: sl218 :: sl219 :: sl220 :: sl221 :: sl222 :: sl223 :: sl224 :: sl225 :: sl226 :: sl227 :: sl228 :: sl229 :: sl230 :: sl231 :: sl232 :: sl233 :: sl234 :: sl235 :: sl236 :: sl237 :: sl238 :: sl239 :: sl240 :: sl241 :: sl242 :: sl243 :: sl244 :: sl245 :: sl246 :: sl247 :: sl248 :: sl249 :: sl250 :: sl251 :: sl252 :: sl253 :: sl254 :: sl255 :: sl256 :: sl257 :: sl258 :: sl259 :: sl260 :: sl261 :: sl262 :: sl263 :: sl264 :: sl265 :: sl266 :: sl267 :: sl268 :: sl269 :: sl270 :: sl271 :: sl272 :: sl273 :: sl274 :: sl275 :: sl276 :: sl277 :: sl278 :: sl279 :: sl280 :: sl281 :: sl282 :: sl283 :: sl284 :: sl285 :: sl286 :: sl287 :: sl288 :: sl289 :: sl290 :: sl291 :: sl292 :: sl293 :: sl294 :: sl295 :: sl296 :: sl297 :: sl298 :: sl299 :: sl300 :: sl301 :: sl302 :: sl303 :: sl304 :: sl305 :: sl306 :: sl307 :: sl308 :: sl309 :: sl310 :: sl311 :: sl312 :: sl313 :: sl314 :: sl315 :: sl316 :: sl317 :: sl318 :: sl319 :: sl320 :: sl321 :: sl322 :: sl323 :: sl324 :: sl325 :: sl326 :: sl327 :: sl328 :: sl329 :: sl330 :: sl331 :: sl332 :: sl333 :: sl334 :: sl335 :: sl336 :: sl337 :: sl338 :: sl339 :: sl340 :: sl341 :: sl342 :: sl343 :: sl344 :: sl345 :: sl346 :: sl347 :: sl348 :: sl349 :: sl350 :: sl351 :: sl352 :: sl353 :: sl354 :: sl355 :: sl356 :: sl357 :: sl358 :: sl359 :: sl360 :: sl361 :: sl362 :: sl363 :: sl364 :: sl365 :: sl366 :: sl367 :: sl368 :: sl369 :: sl370 :: sl371 :: sl372 :: sl373 :: sl374 :: sl375 :: sl376 :: sl377 :: sl378 :: sl379 :: sl380 :: sl381 :: sl382 :: sl383 :: sl384 :: sl385 :: sl386 :: sl387 :: sl388 :: sl389 :: sl390 :: sl391 :: sl392 :: sl393 :: sl394 :: sl395 :: sl396 :: sl397 :: sl398 :: sl399 :: sl400 :: sl401 :: sl402 :: sl403 :: sl404 :: sl405 :: sl406 :: sl407 :: sl408 :: sl409 :: sl410 :: sl411 :: sl412 :: sl413 :: sl414 :: sl415 :: sl416 :: sl417 :: sl418 :: sl419 :: sl420 :: sl421 :: sl422 :: sl423 :: sl424 :: sl425 :: sl426 :: sl427 :: []), []⟩ w6 := by
 conv => arg 2; whnf
 go_step
 go_step
 refine rexMakes w id0 ver0 ra rc vals0 t0 cut HVar HDb HRaw HCw hn1 ht HS200 Y af at' an as' N cf nt ct nk cn ns cs s HCs C arv crv hC5 Z oid over ovals oa oc HOw va vc Vs HVals hn3 HV200 D idc Wd Wc w4 S1 zDD HG4 HSm HBc zX zY zwD hZ4 HBd w6 z6 K6 _ _ _ _ _ _ _ _ _ _ _ _ _ _ _ _ _ _ _ _ _ _ _ _ _ _ _ _ _ _ _ _ _ _ _ _ _ _ _ _ _ _ _ _ _ _ _ _ _ _ _ _ _ _ _ _ _ _ _ _ _ _ _ _ _ _ _ _ _ _ _ _ _ _ _ _ _ _ _ _ _ _ _ _ _ _ _ _ _ _ _ _ _ _ _ _ _ _ _ _ _ _ _ _ _ _ _ _ _ _ _ _ _ _ _ _ _ _ _ _ _ _ _ _ _ _ _ _ _ _ _ _ _ _ _ _ _ _ _ _ _ _ _ _ _ _ _ _ _ _ _ _ _ _ _ _ _ _ _ _ _ _ _ _ _ _ _ _ _ _ _ _ _ _ _ _ _ _ _ _ _ _ _ _ _ _ _ _ _ _ _ _ _ _ _ _ _ _ _ _ _ _ _ _ _ _ _ _ _ _ _ _ _ _ _ _ _ _ _ _ _ _ _ _ _ _ _ _ _ _ _ _ _ _ _ _ _ _ _ _ _ _ _ _ _ _ _ _ _ _ _ _ _ _ _ _ _ _ _ _ _ _ _ _ _ _ _ _ _ _ _ _ _ _ _ _ _ _ _ _ _ _ _ _ _ _ _ _ _ _ _ _ _ _ _ _ _ _ _ _ _ _ _ _ _ _ _ _ _ _ _ _ _ _ _ _ _ _ _ _ _ _ _ _ _ _ _ _ _ _ _ _ _ _ _ _ _ _ _ _ _ _ _ _ _ _ _ _ _ _ _ _ _ _ _ _ _ _ _ _ _ _ _ _ _ _ _ _ _ _ _ _ _ _ _ _ _ _ _ _ _ _ _ _ _ _ _ _ _ _ _ _ _ _ _ _ _ _ _ _ _ _ _ _ _ _ _ _ _ _ _ _ _ _ _ _ _ _ _ _ _ _ _ _ _ _ ?_
 intro tl0 tl1 tl6 tl8 tl9 tl10 tl11 tl12 tl13 tl18 tl19 tl20 tl21 tl22 tl23 tl24 tl25 tl26 tl27 tl28 tl29 tl30 tl31 tl32 tl33 tl34 tl35 tl36 tl37 tl38 tl39 tl40 tl41 tl42 tl43 tl44 tl45 tl46 tl47 tl48 tl49 tl50 tl51 tl52 tl53 tl54 tl55 tl56 tl57 tl58 tl59 tl60 tl61 tl62 tl63 tl64 tl65 tl66 tl67 tl68 tl69 tl70 tl71 tl72 tl73 tl74 tl75 tl76 tl77 tl78 tl79 tl80 tl81 tl82 tl83 tl84 tl85 tl86 tl87 tl88 tl89 tl90 tl91 tl92 tl93 tl94 tl95 tl96 tl97 tl98 tl99 tl100 tl101 tl102 tl103 tl104 tl105 tl106 tl107 tl108 tl109 tl110 tl111 tl112 tl113 tl114 tl115 tl116 tl117 tl118 tl119 tl120 tl121 tl122 tl123 tl124 tl125 tl126 tl127 tl128 tl129 tl130 tl131 tl132 tl133 tl134 tl135 tl136 tl137 tl138 tl139 tl140 tl141 tl142 tl143 tl144 tl145 tl146 tl147 tl148 tl149 tl150 tl151 tl152 tl153 tl154 tl155 tl156 tl157 tl158 tl159 tl160 tl161 tl162 tl163 tl164 tl165 tl166 tl167 tl168 tl169 tl170 tl171 tl172 tl173 tl174 tl175 tl176 tl177 tl178 tl179 tl180 tl181 tl182 tl183 tl184 tl185 tl186 tl187 tl188 tl189 tl190 tl191 tl192 tl193 tl194 tl195 tl196 tl197 tl198 tl199 tl200 tl201 tl202 tl203 tl204 tl205 tl206 tl207 tl208 tl209 tl210 tl211 tl212 tl213 tl214 tl215 tl216 tl217 tl218 tl219 tl220 tl221 tl222 tl223 tl224 tl225 tl226 tl227 tl228 tl229 tl230 tl231 tl232 tl233 tl234 tl235 tl236 tl237 tl238 tl239 tl240 tl241 tl242 tl243 tl244 tl245 tl246 tl247 tl248 tl249 tl250 tl251 tl252 tl253 tl254 tl255 tl256 tl257 tl258 tl259 tl260 tl261 tl262 tl263 tl264 tl265 tl266 tl267 tl268 tl269 tl270 tl271 tl272 tl273 tl274 tl275 tl276 tl277 tl278 tl279 tl280 tl281 tl282 tl283 tl284 tl285 tl286 tl287 tl288 tl289 tl290 tl291 tl292 tl293 tl294 tl295 tl296 tl297 tl298 tl299 tl300 tl301 tl302 tl303 tl304 tl305 tl306 tl307 tl308 tl309 tl310 tl311 tl312 tl313 tl314 tl315 tl316 tl317 tl318 tl319 tl320 tl321 tl322 tl323 tl324 tl325 tl326 tl327 tl328 tl329 tl330 tl331 tl332 tl333 tl334 tl335 tl336 tl337 tl338 tl339 tl340 tl341 tl342 tl343 tl344 tl345 tl346 tl347 tl348 tl349 tl350 tl351 tl352 tl353 tl354 tl355 tl356 tl357 tl358 tl359 tl360 tl361 tl362 tl363 tl364 tl365 tl366 tl367 tl368 tl369 tl370 tl371 tl372 tl373 tl374 tl375 tl376 tl377 tl378 tl379 tl380 tl381 tl382 tl383 tl384 tl385 tl386 tl387 tl388 tl389 tl390 tl391 tl392 tl393 tl394 tl395 tl396 tl397 tl398 tl399 tl400 tl401 tl402 tl403 tl404 tl405 tl406 tl407 tl408 tl409 tl410 tl411 tl412 tl413 tl414 tl415 tl416 tl417 tl418 tl419 tl420 tl421 tl422 tl423 tl424 tl425 tl426 tl427 wx hR
 have mv := hR.out
 clear hR
 have zw := mv.size
 have zDw := mv.deck.lt
 have zD6 := K6.out.m.size
 have KR := Lib.hid (K6.out.moved mv); have HRr := Lib.hid (HRO6.out.moved mv)
 have HZr := Lib.hid (mv.blk (k := Z) (by omega) HZ6.out)
 have HOVr := Lib.hid (HOV6.out.move (S' := fun b => w4.heap.size ≤ b) mv.size fun b hb h => ⟨mv.grown.block b hb (by have h' : w4.heap.size ≤ b := h; simp; omega), h⟩)
 clear mv
 go_step
 exact rex28 w id0 ver0 ra rc vals0 t0 cut HVar HDb HRaw HCw hn1 ht HS200 Y af at' an as' N cf nt ct nk cn ns cs s HCs C arv crv hC5 Z oid over ovals oa oc HOw la lc Rs HList hn2 HAll HRw D idc Wd Wc w4 S1 HG4 HSm HBc zX zY zwD hZ4 _ (by omega) KR HRr HZr HOVr _ _ _ _ _ _ _ _ _ _ _ _ _ _ _ _ _ _ _ _ _ _ _ _ _ _ _ _ _ _ _ _ _ _ _ _ _ _ _ _ _ _ _ _ _ _ _ _ _ _ _ _ _ _ _ _ _ _ _ _ _ _ _ _ _ _ _ _ _ _ _ _ _ _ _ _ _ _ _ _ _ _ _ _ _ _ _ _ _ _ _ _ _ _ _ _ _ _ _ _ _ _ _ _ _ _ _ _ _ _ _ _ _ _ _ _ _ _ _ _ _ _ _ _ _ _ _ _ _ _ _ _ _ _ _ _ _ _ _ _ _ _ _ _ _ _ _ _ _ _ _ _ _ _ _ _ _ _ _ _ _ _ _ _ _ _ _ _ _ _ _ _ _ _ _ _ _ _ _ _ _ _ _ _ _ _ _ _ _ _ _ _ _ _ _ _ _ _ _ _ _ _ _ _ _ _ _ _ _ _ _ _ _ _ _ _ _ _ _ _ _ _ _ _ _ _ _ _ _ _ _ _ _ _ _ _ _ _ _ _ _ _ _ _ _ _ _ _ _ _ _ _ _ _ _ _ _ _ _ _ _ _ _ _ _ _ _ _ _ _ _ _ _ _ _ _ _ _ _ _ _ _ _ _ _ _ _ _ _ _ _ _ _ _ _ _ _ _ _ _ _ _ _ _ _ _ _ _ _ _ _ _ _ _ _ _ _ _ _ _ _ _ _ _ _ _ _ _ _ _ _ _ _ _ _ _ _ _ _ _ _ _ _ _ _ _ _ _ _ _ _ _ _ _ _ _ _ _ _ _ _ _ _ _ _ _ _ _ _ _ _ _ _ _ _ _ _ _ _ _ _ _ _ _ _ _ _ _ _ _ _ _ _ _ _ _ _ _ _ _ _ _ _ _ _ _ _ _ _ _ _ _ _ _ _ _ _ _ _ _ _
end
end Go.Proofs.YthnfmolkppbbpaaGreatDoor
