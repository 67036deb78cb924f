/- Parts of one proof: RexOwn, RexChecks, RexEleven, OpenSchema, OpenRecs, Handed, VarsGive. -/
import Derived.Test.YthnfmolkppbbpaaGreatDoorPartRe9
import Derived.Deep.SlicePairs
import Derived.Deep.Strs
import Derived.Lib.SmallJoins
import Derived.OpenShut
import Derived.Handed
import Derived.HandedShaped
import Derived.MakeChecks
import Derived.LaidLaws
set_option linter.unusedSimpArgs false
set_option linter.unusedVariables false
namespace Go.Proofs.YthnfmolkppbbpaaGreatDoor
section
set_option maxRecDepth 100000
open Go.RowKit Cal
attribute [local go_sem] toList_mk mk_size bytes_append str_append
set_option maxHeartbeats 16000000 in
theorem rexOwn (w : World) (id0 ver0 : Int) (ra : Option Addr) (rc : Nat) (vals0 : List (List UInt8)) (t0 : List UInt8) (cut : Int) (HVar : Hid (VarsAt w)) (HDb : Hid (DbAt w)) (HRaw : Hid (Vec w Any1 1 encS (.slice ra vals0.length rc) vals0)) (HCw : Hid (-9223372036854775808 ≤ cut ∧ cut ≤ 9223372036854775807)) (hn1 : vals0.length ≤ 20) (ht : t0.length ≤ 600) (HS200 : Hid (∀ x ∈ vals0, x.length ≤ 200)) (Y : Nat) (af at' an as' : Option Addr) (N cf nt ct nk cn ns cs : Nat) (s : SchemaL) (HCs : Hid (checkS s = 0)) (C : List RV) (arv : Option Addr) (crv : Nat) (hC5 : C.length ≤ 5) (HSD : Hid (SchemaD s)) (D : Nat) (Wd w4 : World) (S1 : Nat → Prop) (HNe : Hid (∀ b, S1 b → b ≠ D)) (yD : Y ≠ D) (K4 : Hid (QX D Wd w.heap.size id0 ver0 (.slice ra vals0.length rc) Y S1 (.slice af N cf) (.slice at' nt ct) (.slice an nk cn) (.slice as' ns cs) s w4)) (sl0 sl1 sl2 sl3 sl4 sl5 sl6 sl7 sl8 sl9 sl10 sl11 sl12 sl13 sl16 sl17 sl18 sl19 sl20 sl21 sl22 sl23 sl24 sl25 sl26 sl27 sl28 sl29 sl30 sl31 sl32 sl33 sl34 sl35 sl36 sl37 sl38 sl39 sl40 sl41 sl42 sl43 sl44 sl45 sl46 sl47 sl48 sl49 sl50 sl51 sl52 sl53 sl54 sl55 sl56 sl57 sl58 sl59 sl60 sl61 sl62 sl63 sl64 sl65 sl66 sl67 sl68 sl69 sl70 sl71 sl72 sl73 sl74 sl75 sl76 sl77 sl78 sl79 sl80 sl81 sl82 sl83 sl84 sl85 sl86 sl87 sl88 sl89 sl90 sl91 sl92 sl93 sl94 sl95 sl96 sl97 sl98 sl99 sl100 sl101 sl102 sl103 sl104 sl105 sl106 sl107 sl108 sl109 sl110 sl111 sl112 sl113 sl114 sl115 sl116 sl117 sl118 sl119 sl120 sl121 sl122 sl123 sl124 sl125 sl126 sl127 sl128 sl129 sl130 sl131 sl132 sl133 sl134 sl135 sl136 sl137 sl138 sl139 sl140 sl141 sl142 sl143 sl144 sl145 sl146 sl147 sl148 sl149 sl150 sl151 sl152 sl153 sl154 sl155 sl156 sl157 sl158 sl159 sl160 sl161 sl162 sl163 sl164 sl165 sl166 sl167 sl168 sl169 sl170 sl171 sl172 sl173 sl174 sl175 sl176 sl177 sl178 sl179 sl180 sl181 sl182 sl183 sl184 sl185 sl186 sl187 sl188 sl189 sl190 sl191 sl192 sl193 sl194 sl195 sl196 sl197 sl198 sl199 sl200 sl201 sl202 sl203 sl204 sl205 sl206 sl207 sl208 sl209 sl210 sl211 sl212 sl213 sl214 sl215 sl216 sl217 sl218 sl219 sl220 sl221 sl222 sl223 sl224 sl225 sl226 sl227 sl228 sl229 sl230 sl231 sl232 sl233 sl234 sl235 sl236 sl237 sl238 sl239 sl240 sl241 sl242 sl243 sl244 sl245 sl246 sl247 sl248 sl249 sl250 sl251 sl252 sl253 sl254 sl255 sl256 sl257 sl258 sl259 sl260 sl261 sl262 sl263 sl264 sl265 sl266 sl267 sl268 sl269 sl270 sl271 sl272 sl273 sl274 sl275 sl276 sl277 sl278 sl279 sl280 sl281 sl282 sl283 sl284 sl285 sl286 sl287 sl288 sl289 sl290 sl291 sl292 sl293 sl294 sl295 sl296 sl297 sl298 sl299 sl300 sl301 sl302 sl303 sl304 sl305 sl306 sl307 sl308 sl309 sl310 sl311 sl312 sl313 sl314 sl315 sl316 sl317 sl318 sl319 sl320 sl321 sl322 sl323 sl324 sl325 sl326 sl327 sl328 sl329 sl330 sl331 sl332 sl333 sl334 sl335 sl336 sl337 sl338 sl339 sl340 sl341 sl342 sl343 sl344 sl345 sl346 sl347 sl348 sl349 sl350 sl351 sl352 sl353 sl354 sl355 sl356 sl357 sl358 sl359 sl360 sl361 sl362 sl363 sl364 sl365 sl366 sl367 sl368 sl369 sl370 sl371 sl372 sl373 sl374 sl375 sl376 sl377 sl378 sl379 sl380 sl381 sl382 sl383 sl384 sl385 sl386 sl387 sl388 sl389 sl390 sl391 sl392 sl393 sl394 sl395 sl396 sl397 sl398 sl399 sl400 sl401 sl402 sl403 sl404 sl405 sl406 sl407 sl408 sl409 sl410 sl411 sl412 sl413 sl414 sl415 sl416 sl417 sl418 sl419 sl420 sl421 sl422 sl423 sl424 sl425 sl426 sl427 : Value) (K : Act → World → Prop) (Q' : Exit → Act → World → Prop)
  (hK : ∀ (tl0 tl1 tl6 tl8 tl9 tl10 tl11 tl12 tl13 tl17 tl18 tl19 tl20 tl21 tl22 tl23 tl24 tl25 tl26 tl27 tl28 tl29 tl30 tl31 tl32 tl33 tl34 tl35 tl36 tl37 tl38 tl39 tl40 tl41 tl42 tl43 tl44 tl45 tl46 tl47 tl48 tl49 tl50 tl51 tl52 tl53 tl54 tl55 tl56 tl57 tl58 tl59 tl60 tl61 tl62 tl63 tl64 tl65 tl66 tl67 tl68 tl69 tl70 tl71 tl72 tl73 tl74 tl75 tl76 tl77 tl78 tl79 tl80 tl81 tl82 tl83 tl84 tl85 tl86 tl87 tl88 tl89 tl90 tl91 tl92 tl93 tl94 tl95 tl96 tl97 tl98 tl99 tl100 tl101 tl102 tl103 tl104 tl105 tl106 tl107 tl108 tl109 tl110 tl111 tl112 tl113 tl114 tl115 tl116 tl117 tl118 tl119 tl120 tl121 tl122 tl123 tl124 tl125 tl126 tl127 tl128 tl129 tl130 tl131 tl132 tl133 tl134 tl135 tl136 tl137 tl138 tl139 tl140 tl141 tl142 tl143 tl144 tl145 tl146 tl147 tl148 tl149 tl150 tl151 tl152 tl153 tl154 tl155 tl156 tl157 tl158 tl159 tl160 tl161 tl162 tl163 tl164 tl165 tl166 tl167 tl168 tl169 tl170 tl171 tl172 tl173 tl174 tl175 tl176 tl177 tl178 tl179 tl180 tl181 tl182 tl183 tl184 tl185 tl186 tl187 tl188 tl189 tl190 tl191 tl192 tl193 tl194 tl195 tl196 tl197 tl198 tl199 tl200 tl201 tl202 tl203 tl204 tl205 tl206 tl207 tl208 tl209 tl210 tl211 tl212 tl213 tl214 tl215 tl216 tl217 tl218 tl219 tl220 tl221 tl222 tl223 tl224 tl225 tl226 tl227 tl228 tl229 tl230 tl231 tl232 tl233 tl234 tl235 tl236 tl237 tl238 tl239 tl240 tl241 tl242 tl243 tl244 tl245 tl246 tl247 tl248 tl249 tl250 tl251 tl252 tl253 tl254 tl255 tl256 tl257 tl258 tl259 tl260 tl261 tl262 tl263 tl264 tl265 tl266 tl267 tl268 tl269 tl270 tl271 tl272 tl273 tl274 tl275 tl276 tl277 tl278 tl279 tl280 tl281 tl282 tl283 tl284 tl285 tl286 tl287 tl288 tl289 tl290 tl291 tl292 tl293 tl294 tl295 tl296 tl297 tl298 tl299 tl300 tl301 tl302 tl303 tl304 tl305 tl306 tl307 tl308 tl309 tl310 tl311 tl312 tl313 tl314 tl315 tl316 tl317 tl318 tl319 tl320 tl321 tl322 tl323 tl324 tl325 tl326 tl327 tl328 tl329 tl330 tl331 tl332 tl333 tl334 tl335 tl336 tl337 tl338 tl339 tl340 tl341 tl342 tl343 tl344 tl345 tl346 tl347 tl348 tl349 tl350 tl351 tl352 tl353 tl354 tl355 tl356 tl357 tl358 tl359 tl360 tl361 tl362 tl363 tl364 tl365 tl366 tl367 tl368 tl369 tl370 tl371 tl372 tl373 tl374 tl375 tl376 tl377 tl378 tl379 tl380 tl381 tl382 tl383 tl384 tl385 tl386 tl387 tl388 tl389 tl390 tl391 tl392 tl393 tl394 tl395 tl396 tl397 tl398 tl399 tl400 tl401 tl402 tl403 tl404 tl405 tl406 tl407 tl408 tl409 tl410 tl411 tl412 tl413 tl414 tl415 tl416 tl417 tl418 tl419 tl420 tl421 tl422 tl423 tl424 tl425 tl426 tl427 : Value) (wx : World), Hid (∃ (Z : Nat) (own : RecL) (oa : Option Addr) (oc : Nat), tl17 = .pointer (some ⟨Z, 0, none⟩) ∧ w4.heap.size ≤ Z ∧ wx.heap[Z]? = some (.cells #[.int .i64 own.id, .int .i64 own.ver, .slice oa own.vals.length oc] 44 (0, 0)) ∧ Vec wx (fun b => w4.heap.size ≤ b) 1 encS (.slice oa own.vals.length oc) own.vals ∧ checkN s own = 0 ∧ Moved D w4 wx) → K ⟨List.toArray (tl0 :: tl1 :: sl2 :: sl3 :: sl4 :: sl5 :: tl6 :: sl7 :: tl8 :: tl9 :: tl10 :: tl11 :: tl12 :: tl13 :: .pointer (some ⟨D, 0, none⟩) :: .pointer (some ⟨Y, 0, none⟩) :: sl16 :: tl17 :: tl18 :: tl19 :: tl20 :: tl21 :: tl22 :: tl23 :: tl24 :: tl25 :: tl26 :: tl27 :: tl28 :: tl29 :: tl30 :: tl31 :: tl32 :: tl33 :: tl34 :: tl35 :: tl36 :: tl37 :: tl38 :: tl39 :: tl40 :: tl41 :: tl42 :: tl43 :: tl44 :: tl45 :: tl46 :: tl47 :: tl48 :: tl49 :: tl50 :: tl51 :: tl52 :: tl53 :: tl54 :: tl55 :: tl56 :: tl57 :: tl58 :: tl59 :: tl60 :: tl61 :: tl62 :: tl63 :: tl64 :: tl65 :: tl66 :: tl67 :: tl68 :: tl69 :: tl70 :: tl71 :: tl72 :: tl73 :: tl74 :: tl75 :: tl76 :: tl77 :: tl78 :: tl79 :: tl80 :: tl81 :: tl82 :: tl83 :: tl84 :: tl85 :: tl86 :: tl87 :: tl88 :: tl89 :: tl90 :: tl91 :: tl92 :: tl93 :: tl94 :: tl95 :: tl96 :: tl97 :: tl98 :: tl99 :: tl100 :: tl101 :: tl102 :: tl103 :: tl104 :: tl105 :: tl106 :: tl107 :: tl108 :: tl109 :: tl110 :: tl111 :: tl112 :: tl113 :: tl114 :: tl115 :: tl116 :: tl117 :: tl118 :: tl119 :: tl120 :: tl121 :: tl122 :: tl123 :: tl124 :: tl125 :: tl126 :: tl127 :: tl128 :: tl129 :: tl130 :: tl131 :: tl132 :: tl133 :: tl134 :: tl135 :: tl136 :: tl137 :: tl138 :: tl139 :: tl140 :: tl141 :: tl142 :: tl143 :: tl144 :: tl145 :: tl146 :: tl147 :: tl148 :: tl149 :: tl150 :: tl151 :: tl152 :: tl153 :: tl154 :: tl155 :: tl156 :: tl157 :: tl158 :: tl159 :: tl160 :: tl161 :: tl162 :: tl163 :: tl164 :: tl165 :: tl166 :: tl167 :: tl168 :: tl169 :: tl170 :: tl171 :: tl172 :: tl173 :: tl174 :: tl175 :: tl176 :: tl177 :: tl178 :: tl179 :: tl180 :: tl181 :: tl182 :: tl183 :: tl184 :: tl185 :: tl186 :: tl187 :: tl188 :: tl189 :: tl190 :: tl191 :: tl192 :: tl193 :: tl194 :: tl195 :: tl196 :: tl197 :: tl198 :: tl199 :: tl200 :: tl201 :: tl202 :: tl203 :: tl204 :: tl205 :: tl206 :: tl207 :: tl208 :: tl209 :: tl210 :: tl211 :: tl212 :: tl213 :: tl214 :: tl215 :: tl216 :: tl217 :: tl218 :: tl219 :: tl220 :: tl221 :: tl222 :: tl223 :: tl224 :: tl225 :: tl226 :: tl227 :: tl228 :: tl229 :: tl230 :: tl231 :: tl232 :: tl233 :: tl234 :: tl235 :: tl236 :: tl237 :: tl238 :: tl239 :: tl240 :: tl241 :: tl242 :: tl243 :: tl244 :: tl245 :: tl246 :: tl247 :: tl248 :: tl249 :: tl250 :: tl251 :: tl252 :: tl253 :: tl254 :: tl255 :: tl256 :: tl257 :: tl258 :: tl259 :: tl260 :: tl261 :: tl262 :: tl263 :: tl264 :: tl265 :: tl266 :: tl267 :: tl268 :: tl269 :: tl270 :: tl271 :: tl272 :: tl273 :: tl274 :: tl275 :: tl276 :: tl277 :: tl278 :: tl279 :: tl280 :: tl281 :: tl282 :: tl283 :: tl284 :: tl285 :: tl286 :: tl287 :: tl288 :: tl289 :: tl290 :: tl291 :: tl292 :: tl293 :: tl294 :: tl295 :: tl296 :: tl297 :: tl298 :: tl299 :: tl300 :: tl301 :: tl302 :: tl303 :: tl304 :: tl305 :: tl306 :: tl307 :: tl308 :: tl309 :: tl310 :: tl311 :: tl312 :: tl313 :: tl314 :: tl315 :: tl316 :: tl317 :: tl318 :: tl319 :: tl320 :: tl321 :: tl322 :: tl323 :: tl324 :: tl325 :: tl326 :: tl327 :: tl328 :: tl329 :: tl330 :: tl331 :: tl332 :: tl333 :: tl334 :: tl335 :: tl336 :: tl337 :: tl338 :: tl339 :: tl340 :: tl341 :: tl342 :: tl343 :: tl344 :: tl345 :: tl346 :: tl347 :: tl348 :: tl349 :: tl350 :: tl351 :: tl352 :: tl353 :: tl354 :: tl355 :: tl356 :: tl357 :: tl358 :: tl359 :: tl360 :: tl361 :: tl362 :: tl363 :: tl364 :: tl365 :: tl366 :: tl367 :: tl368 :: tl369 :: tl370 :: tl371 :: tl372 :: tl373 :: tl374 :: tl375 :: tl376 :: tl377 :: tl378 :: tl379 :: tl380 :: tl381 :: tl382 :: tl383 :: tl384 :: tl385 :: tl386 :: tl387 :: tl388 :: tl389 :: tl390 :: tl391 :: tl392 :: tl393 :: tl394 :: tl395 :: tl396 :: tl397 :: tl398 :: tl399 :: tl400 :: tl401 :: tl402 :: tl403 :: tl404 :: tl405 :: tl406 :: tl407 :: tl408 :: tl409 :: tl410 :: tl411 :: tl412 :: tl413 :: tl414 :: tl415 :: tl416 :: tl417 :: tl418 :: tl419 :: tl420 :: tl421 :: tl422 :: tl423 :: tl424 :: tl425 :: tl426 :: tl427 :: []), []⟩ wx) :
  (stmtOf Tryz.f4 12).wp Tryz.prog (Exit.then K Q') ⟨List.toArray (sl0 :: sl1 :: sl2 :: sl3 :: sl4 :: sl5 :: sl6 :: sl7 :: sl8 :: sl9 :: sl10 :: sl11 :: sl12 :: sl13 :: .pointer (some ⟨D, 0, none⟩) :: .pointer (some ⟨Y, 0, none⟩) :: sl16 :: sl17 :: sl18 :: sl19 :: sl20 :: sl21 :: sl22 :: sl23 :: sl24 :: sl25 :: sl26 :: sl27 :: sl28 :: sl29 :: sl30 :: sl31 :: sl32 :: sl33 :: sl34 :: sl35 :: sl36 :: sl37 :: sl38 :: sl39 :: sl40 :: sl41 :: sl42 :: sl43 :: sl44 :: sl45 :: sl46 :: sl47 :: sl48 :: sl49 :: sl50 :: sl51 :: sl52 :: sl53 :: sl54 :: sl55 :: sl56 :: sl57 :: sl58 :: sl59 :: sl60 :: sl61 :: sl62 :: sl63 :: sl64 :: sl65 :: sl66 :: sl67 :: sl68 :: sl69 :: sl70 :: sl71 :: sl72 :: sl73 :: sl74 :: sl75 :: sl76 :: sl77 :: sl78 :: sl79 :: sl80 :: sl81 :: sl82 :: sl83 :: sl84 :: sl85 :: sl86 :: sl87 :: sl88 :: sl89 :: sl90 :: sl91 :: sl92 :: sl93 :: sl94 :: sl95 :: sl96 :: sl97 :: sl98 :: sl99 :: sl100 :: sl101 :: sl102 :: sl103 :: sl104 :: sl105 :: sl106 :: sl107 :: sl108 :: sl109 :: sl110 :: sl111 :: sl112 :: sl113 :: sl114 :: sl115 :: sl116 :: sl117 :: sl118 :: sl119 :: sl120 :: sl121 :: sl122 :: sl123 :: sl124 :: sl125 :: sl126 :: sl127 :: sl128 :: sl129 :: sl130 :: sl131 :: sl132 :: sl133 :: sl134 :: sl135 :: sl136 :: sl137 :: sl138 :: sl139 :: sl140 :: sl141 :: sl142 :: sl143 :: sl144 :: sl145 :: sl146 :: sl147 :: sl148 :: sl149 :: sl150 :: sl151 :: sl152 :: sl153 :: sl154 :: sl155 :: sl156 :: sl157 :: sl158 :: sl159 :: sl160 :: sl161 :: sl162 :: sl163 :: sl164 :: sl165 :: sl166 :: sl167 :: sl168 :: sl169 :: sl170 :: sl171 :: sl172 :: sl173 :: sl174 :: sl175 :: sl176 :: sl177 :: sl178 :: sl179 :: sl180 :: sl181 :: sl182 :: sl183 :: sl184 :: sl185 :: sl186 :: sl187 :: sl188 :: sl189 :: sl190 :: sl191 :: sl192 :: sl193 :: sl194 :: sl195 :: sl196 :: sl197 :: sl198 :: sl199 :: sl200 :: sl201 :: sl202 :: sl203 :: sl204 :: sl205 :: sl206 :: sl207 :: sl208 :: sl209 :: sl210 :: sl211 :: sl212 :: sl213 :: sl214 :: sl215 :: sl216 :: sl217 :: sl218 :: sl219 :: sl220 :: sl221 :: sl222 :: sl223 :: sl224 :: sl225 :: sl226 :: sl227 :: sl228 :: sl229 :: sl230 :: sl231 :: sl232 :: sl233 :: sl234 :: sl235 :: sl236 :: sl237 :: sl238 :: sl239 :: sl240 :: sl241 :: sl242 :: sl243 :: sl244 :: sl245 :: sl246 :: sl247 :: sl248 :: sl249 :: sl250 :: sl251 :: sl252 :: sl253 :: sl254 :: sl255 :: sl256 :: sl257 :: sl258 :: sl259 :: sl260 :: sl261 :: sl262 :: sl263 :: sl264 :: sl265 :: sl266 :: sl267 :: sl268 :: sl269 :: sl270 :: sl271 :: sl272 :: sl273 :: sl274 :: sl275 :: sl276 :: sl277 :: sl278 :: sl279 :: sl280 :: sl281 :: sl282 :: sl283 :: sl284 :: sl285 :: sl286 :: sl287 :: sl288 :: sl289 :: sl290 :: sl291 :: sl292 :: sl293 :: sl294 :: sl295 :: sl296 :: sl297 :: sl298 :: sl299 :: sl300 :: sl301 :: sl302 :: sl303 :: sl304 :: sl305 :: sl306 :: sl307 :: sl308 :: sl309 :: sl310 :: sl311 :: sl312 :: sl313 :: sl314 :: sl315 :: sl316 :: sl317 :: sl318 :: sl319 :: sl320 :: sl321 :: sl322 :: sl323 :: sl324 :: sl325 :: sl326 :: sl327 :: sl328 :: sl329 :: sl330 :: sl331 :: sl332 :: sl333 :: sl334 :: sl335 :: sl336 :: sl337 :: sl338 :: sl339 :: sl340 :: sl341 :: sl342 :: sl343 :: sl344 :: sl345 :: sl346 :: sl347 :: sl348 :: sl349 :: sl350 :: sl351 :: sl352 :: sl353 :: sl354 :: sl355 :: sl356 :: sl357 :: sl358 :: sl359 :: sl360 :: sl361 :: sl362 :: sl363 :: sl364 :: sl365 :: sl366 :: sl367 :: sl368 :: sl369 :: sl370 :: sl371 :: sl372 :: sl373 :: sl374 :: sl375 :: sl376 :: sl377 :: sl378 :: sl379 :: sl380 :: sl381 :: sl382 :: sl383 :: sl384 :: sl385 :: sl386 :: sl387 :: sl388 :: sl389 :: sl390 :: sl391 :: sl392 :: sl393 :: sl394 :: sl395 :: sl396 :: sl397 :: sl398 :: sl399 :: sl400 :: sl401 :: sl402 :: sl403 :: sl404 :: sl405 :: sl406 :: sl407 :: sl408 :: sl409 :: sl410 :: sl411 :: sl412 :: sl413 :: sl414 :: sl415 :: sl416 :: sl417 :: sl418 :: sl419 :: sl420 :: sl421 :: sl422 :: sl423 :: sl424 :: sl425 :: sl426 :: sl427 :: []), []⟩ w4 := by
 conv => arg 2; whnf
 obtain ⟨p0, p1, p2, p3⟩ := cellsS K4.out.y
 have zdr : w4.heap.size ≤ w4.drew.heap.size := Nat.le_refl _
 have m0 : Moved D w4 w4.drew := (Moved.start K4.out.m.deck).drew
 have zDw := K4.out.m.deck.lt
 refine wp_region_noPanic ?_
 refine wp_region_held_drew (S := (fun w' => w'.cell? ⟨Y, 0, none⟩ = some (.slice af N cf) ∧ w'.cell? ⟨Y, 1, none⟩ = some (.slice at' nt ct) ∧ w'.cell? ⟨Y, 2, none⟩ = some (.slice an nk cn) ∧ w'.cell? ⟨Y, 3, none⟩ = some (.slice as' ns cs))) (by kernel_rfl) (⟨p0, p1, p2, p3⟩) (fun hHeld => ?_)
 refine tH 0 (h := ?_)
 refine tH 1 (h := ?_)
 refine tH 2 (h := ?_)
 refine wpAnyH_ready (rs := [3, 6]) (by kernel_rfl) (by simp) ?_
 refine AllReadyH.cons rfl (fun K hK => ?_) (AllReadyH.cons rfl (fun K hK => ?_) AllReadyH.nil)
 ·as_aux_lemma =>
   go_simp
   refine (next_any D _ 9 m0.deck (by omega) (by omega)).mono ?_; rintro e V1 ⟨q, rfl, q0, q1, mvn⟩; have m1 := m0.trans mvn; obtain ⟨q, rfl⟩ := Int.eq_ofNat_of_zero_le q0; have hwq : IntKind.i64.wrap (1 + (q : Int)) = 1 + (q : Int) := by rw [IntKind.wrap_i64]; omega
   have s1 := mvn.size
   refine hK.out _ _ (cellsS (m1.blk (k := Y) (by omega) K4.out.y)) (fun hHeld => ?_)
   clear hK K
   try simp only [List.getElem_toArray, List.getElem_cons_zero, List.getElem_cons_succ, Act.put, List.setIfInBounds_toArray, List.set_cons_zero, List.set_cons_succ]
   refine tH 4 (h := ?_)
   refine wpAnyH_ready (rs := [5, 6]) (by kernel_rfl) (by simp) ?_
   refine AllReadyH.cons rfl (fun K hK => ?_) (AllReadyH.cons rfl (fun K hK => ?_) AllReadyH.nil)
   ·as_aux_lemma =>
     go_simp
     refine (record_deal D S1 _ _ _ _ s (1 + (q : Int)) _ m1.deck (K4.out.s.moved HNe.out m1) HNe.out HSD.out (by omega) (by omega)).mono ?_; rintro e V2 ⟨ov, own, rfl, ⟨os, rfl, hov⟩, hid, hck, hsh, mvr⟩; have m2 := m1.trans mvr; obtain ⟨oa, oc, rfl⟩ := hov.slice; clear hid hsh; have HCK := Lib.hid hck; clear hck
     have s2 := mvr.size; have zm2 := m1.size
     refine hK.out _ _ (cellsS (m2.blk (k := Y) (by omega) K4.out.y)) (fun hHeld => ?_)
     clear hK K
     try simp only [List.getElem_toArray, List.getElem_cons_zero, List.getElem_cons_succ, Act.put, List.setIfInBounds_toArray, List.set_cons_zero, List.set_cons_succ]
     refine wpAnyH_ready (rs := [6]) (by kernel_rfl) (by simp) ?_
     refine AllReadyH.cons rfl (fun K hK => ?_) AllReadyH.nil
     go_simp
     refine hK.out _ _ (cellsS ((m2.alloc _).blk (k := Y) (by omega) K4.out.y)) (fun hHeld => ?_)
     clear hK K
     try simp only [List.getElem_toArray, List.getElem_cons_zero, List.getElem_cons_succ, Act.put, List.setIfInBounds_toArray, List.set_cons_zero, List.set_cons_succ]
     refine wph_name (fun V3 hV3 => ?_)
     have m3 : Moved D w4 V3 := by rw [hV3]; exact m2.alloc _
     have z3 : V3.heap[V2.heap.size]? = some (.cells #[.int .i64 0, .int .i64 0, .slice none 0 0] 44 (0, 0)) := by rw [hV3]; exact blk_new rfl
     have lz3 := lt_of_blk z3
     have zo := m2.size
     have hov3 := (hov.move (w' := V2) (S' := fun b => w4.heap.size ≤ b ∧ b ≠ V2.heap.size) (Nat.le_refl _) fun b hb h => ⟨rfl, by have h' : V1.heap.size ≤ b := h; omega, by omega⟩).below (w' := V3) (by rw [hV3]; exact (Below.refl _ _).alloc (Nat.le_refl _) _)
     clear hHeld hV3
     have hHeld := cellsS (m3.blk (k := Y) (by omega) K4.out.y)
     have hl := Lib.hid (own_laid (id := own.id) (ver := own.ver) m3 (by have := m3.size; omega) z3 (hov3.move (S' := fun b => w4.heap.size ≤ b ∧ b ≠ V2.heap.size) (Nat.le_refl _) fun b hb h => ⟨rfl, h⟩))
     clear hov q0 q1 hov3
     obtain ⟨e0, e1, e2⟩ := cells3 z3; have f0 := frozen_of_row _ _ 0 _ _ z3; have f1 := frozen_of_row _ _ 1 _ _ z3; have f2 := frozen_of_row _ _ 2 _ _ z3
     refine wpAnyH_ready (rs := [7]) (by kernel_rfl) (by simp) ?_
     refine AllReadyH.cons rfl (fun K hK => ?_) AllReadyH.nil
     go_simp
     skip
     refine hK.out _ _ (cellsS (hl.out.2.2.blk (k := Y) (by omega) K4.out.y)) (fun hHeld => ?_)
     clear hK K
     try simp only [List.getElem_toArray, List.getElem_cons_zero, List.getElem_cons_succ, Act.put, List.setIfInBounds_toArray, List.set_cons_zero, List.set_cons_succ]
     refine wpAnyH_done (by kernel_rfl) ?_ _
     refine NoPanic.normal ?_
     go_wp2_with fail
     exact Lib.hid ⟨_, own, oa, oc, rfl, by have := m3.size; omega, hl.out.1, hl.out.2.1, HCK.out, hl.out.2.2⟩
   ·as_aux_lemma =>
     go_simp
     refine hK.out _ _ (cellsS ((m1.alloc _).blk (k := Y) (by omega) K4.out.y)) (fun hHeld => ?_)
     clear hK K
     try simp only [List.getElem_toArray, List.getElem_cons_zero, List.getElem_cons_succ, Act.put, List.setIfInBounds_toArray, List.set_cons_zero, List.set_cons_succ]
     refine wph_name (fun V2 hV2 => ?_)
     have m2 : Moved D w4 V2 := by rw [hV2]; exact m1.alloc _
     have z2 : V2.heap[V1.heap.size]? = some (.cells #[.int .i64 0, .int .i64 0, .slice none 0 0] 44 (0, 0)) := by rw [hV2]; exact blk_new rfl
     have lz2 := lt_of_blk z2
     clear hHeld hV2
     have hHeld := cellsS (m2.blk (k := Y) (by omega) K4.out.y)
     refine wpAnyH_ready (rs := [5]) (by kernel_rfl) (by simp) ?_
     refine AllReadyH.cons rfl (fun K hK => ?_) AllReadyH.nil
     go_simp
     refine (record_deal D S1 _ _ _ _ s (1 + (q : Int)) _ m2.deck (K4.out.s.moved HNe.out m2) HNe.out HSD.out (by omega) (by omega)).mono ?_; rintro e V3 ⟨ov, own, rfl, ⟨os, rfl, hov⟩, hid, hck, hsh, mvr⟩; have m3 := m2.trans mvr; obtain ⟨oa, oc, rfl⟩ := hov.slice; clear hid hsh; have HCK := Lib.hid hck; clear hck
     have z3 := mvr.blk (k := V1.heap.size) (by have := m1.size; omega) z2
     have s3 := mvr.size; have zm3 := m2.size
     refine hK.out _ _ (cellsS (m3.blk (k := Y) (by omega) K4.out.y)) (fun hHeld => ?_)
     clear hK K
     try simp only [List.getElem_toArray, List.getElem_cons_zero, List.getElem_cons_succ, Act.put, List.setIfInBounds_toArray, List.set_cons_zero, List.set_cons_succ]
     have hl := Lib.hid (own_laid (id := own.id) (ver := own.ver) m3 (by have := m3.size; omega) z3 (hov.move (S' := fun b => w4.heap.size ≤ b ∧ b ≠ V1.heap.size) (Nat.le_refl _) fun b hb h => ⟨rfl, by have h' : V2.heap.size ≤ b := h; omega, by have h' : V2.heap.size ≤ b := h; omega⟩))
     clear hov q0 q1
     obtain ⟨e0, e1, e2⟩ := cells3 z3; have f0 := frozen_of_row _ _ 0 _ _ z3; have f1 := frozen_of_row _ _ 1 _ _ z3; have f2 := frozen_of_row _ _ 2 _ _ z3
     refine wpAnyH_ready (rs := [7]) (by kernel_rfl) (by simp) ?_
     refine AllReadyH.cons rfl (fun K hK => ?_) AllReadyH.nil
     go_simp
     skip
     refine hK.out _ _ (cellsS (hl.out.2.2.blk (k := Y) (by omega) K4.out.y)) (fun hHeld => ?_)
     clear hK K
     try simp only [List.getElem_toArray, List.getElem_cons_zero, List.getElem_cons_succ, Act.put, List.setIfInBounds_toArray, List.set_cons_zero, List.set_cons_succ]
     refine wpAnyH_done (by kernel_rfl) ?_ _
     refine NoPanic.normal ?_
     go_wp2_with fail
     exact Lib.hid ⟨_, own, oa, oc, rfl, by have := m3.size; omega, hl.out.1, hl.out.2.1, HCK.out, hl.out.2.2⟩
 ·as_aux_lemma =>
   go_simp
   refine hK.out _ _ (cellsS ((m0.alloc _).blk (k := Y) (by omega) K4.out.y)) (fun hHeld => ?_)
   clear hK K
   try simp only [List.getElem_toArray, List.getElem_cons_zero, List.getElem_cons_succ, Act.put, List.setIfInBounds_toArray, List.set_cons_zero, List.set_cons_succ]
   refine wph_name (fun V1 hV1 => ?_)
   have m1 : Moved D w4 V1 := by rw [hV1]; exact m0.alloc _
   have z1 : V1.heap[w4.heap.size]? = some (.cells #[.int .i64 0, .int .i64 0, .slice none 0 0] 44 (0, 0)) := by rw [hV1]; exact blk_new rfl
   have lz1 := lt_of_blk z1
   clear hHeld hV1
   have hHeld := cellsS (m1.blk (k := Y) (by omega) K4.out.y)
   refine wpAnyH_ready (rs := [3]) (by kernel_rfl) (by simp) ?_
   refine AllReadyH.cons rfl (fun K hK => ?_) AllReadyH.nil
   go_simp
   refine (next_any D _ 9 m1.deck (by omega) (by omega)).mono ?_; rintro e V2 ⟨q, rfl, q0, q1, mvn⟩; have m2 := m1.trans mvn; obtain ⟨q, rfl⟩ := Int.eq_ofNat_of_zero_le q0; have hwq : IntKind.i64.wrap (1 + (q : Int)) = 1 + (q : Int) := by rw [IntKind.wrap_i64]; omega
   have z2 := mvn.blk (k := w4.heap.size) (by have := m0.size; omega) z1
   have s2 := mvn.size
   refine hK.out _ _ (cellsS (m2.blk (k := Y) (by omega) K4.out.y)) (fun hHeld => ?_)
   clear hK K
   try simp only [List.getElem_toArray, List.getElem_cons_zero, List.getElem_cons_succ, Act.put, List.setIfInBounds_toArray, List.set_cons_zero, List.set_cons_succ]
   refine tH 4 (h := ?_)
   refine wpAnyH_ready (rs := [5]) (by kernel_rfl) (by simp) ?_
   refine AllReadyH.cons rfl (fun K hK => ?_) AllReadyH.nil
   go_simp
   refine (record_deal D S1 _ _ _ _ s (1 + (q : Int)) _ m2.deck (K4.out.s.moved HNe.out m2) HNe.out HSD.out (by omega) (by omega)).mono ?_; rintro e V3 ⟨ov, own, rfl, ⟨os, rfl, hov⟩, hid, hck, hsh, mvr⟩; have m3 := m2.trans mvr; obtain ⟨oa, oc, rfl⟩ := hov.slice; clear hid hsh; have HCK := Lib.hid hck; clear hck
   have z3 := mvr.blk (k := w4.heap.size) (by have := m0.size; omega) z2
   have s3 := mvr.size; have zm3 := m2.size
   refine hK.out _ _ (cellsS (m3.blk (k := Y) (by omega) K4.out.y)) (fun hHeld => ?_)
   clear hK K
   try simp only [List.getElem_toArray, List.getElem_cons_zero, List.getElem_cons_succ, Act.put, List.setIfInBounds_toArray, List.set_cons_zero, List.set_cons_succ]
   have hl := Lib.hid (own_laid (id := own.id) (ver := own.ver) m3 (by have := m3.size; omega) z3 (hov.move (S' := fun b => w4.heap.size ≤ b ∧ b ≠ w4.heap.size) (Nat.le_refl _) fun b hb h => ⟨rfl, by have h' : V2.heap.size ≤ b := h; omega, by have h' : V2.heap.size ≤ b := h; omega⟩))
   clear hov q0 q1
   obtain ⟨e0, e1, e2⟩ := cells3 z3; have f0 := frozen_of_row _ _ 0 _ _ z3; have f1 := frozen_of_row _ _ 1 _ _ z3; have f2 := frozen_of_row _ _ 2 _ _ z3
   refine wpAnyH_ready (rs := [7]) (by kernel_rfl) (by simp) ?_
   refine AllReadyH.cons rfl (fun K hK => ?_) AllReadyH.nil
   go_simp
   skip
   refine hK.out _ _ (cellsS (hl.out.2.2.blk (k := Y) (by omega) K4.out.y)) (fun hHeld => ?_)
   clear hK K
   try simp only [List.getElem_toArray, List.getElem_cons_zero, List.getElem_cons_succ, Act.put, List.setIfInBounds_toArray, List.set_cons_zero, List.set_cons_succ]
   refine wpAnyH_done (by kernel_rfl) ?_ _
   refine NoPanic.normal ?_
   go_wp2_with fail
   exact Lib.hid ⟨_, own, oa, oc, rfl, by have := m3.size; omega, hl.out.1, hl.out.2.1, HCK.out, hl.out.2.2⟩
end
section
set_option maxRecDepth 100000
open Go.RowKit Cal
attribute [local go_sem] toList_mk mk_size bytes_append str_append
set_option maxHeartbeats 16000000 in
theorem rexChecks (w : World) (id0 ver0 : Int) (ra : Option Addr) (rc : Nat) (vals0 : List (List UInt8)) (t0 : List UInt8) (cut : Int) (HVar : Hid (VarsAt w)) (HDb : Hid (DbAt w)) (HRaw : Hid (Vec w Any1 1 encS (.slice ra vals0.length rc) vals0)) (HCw : Hid (-9223372036854775808 ≤ cut ∧ cut ≤ 9223372036854775807)) (hn1 : vals0.length ≤ 20) (ht : t0.length ≤ 600) (HS200 : Hid (∀ x ∈ vals0, x.length ≤ 200)) (Y : Nat) (af at' an as' : Option Addr) (N cf nt ct nk cn ns cs : Nat) (s : SchemaL) (HCs : Hid (checkS s = 0)) (C : List RV) (arv : Option Addr) (crv : Nat) (hC5 : C.length ≤ 5) (Z : Nat) (oid over : Int) (ovals : List (List UInt8)) (oa : Option Addr) (oc : Nat) (HOw : Hid (RawOk ⟨oid, over, ovals⟩)) (HRw : Hid (RawOk ⟨id0, ver0, vals0⟩)) (D : Nat) (Wd w4 w5 : World) (S1 : Nat → Prop) (K5 : Hid (QX D Wd w.heap.size id0 ver0 (.slice ra vals0.length rc) Y S1 (.slice af N cf) (.slice at' nt ct) (.slice an nk cn) (.slice as' ns cs) s w5)) (HZ : Hid (w5.heap[Z]? = some (.cells #[.int .i64 oid, .int .i64 over, .slice oa ovals.length oc] 44 (0, 0)))) (HOV : Hid (Vec w5 (fun b => w4.heap.size ≤ b) 1 encS (.slice oa ovals.length oc) ovals)) (HB5 : Hid (Below w.heap.size w w5)) (sl0 sl1 sl2 sl3 sl4 sl5 sl6 sl8 sl9 sl10 sl11 sl12 sl13 sl14 sl16 sl18 sl19 sl20 sl21 sl22 sl23 sl24 sl25 sl26 sl27 sl28 sl29 sl30 sl31 sl32 sl33 sl34 sl35 sl36 sl37 sl38 sl39 sl40 sl41 sl42 sl43 sl44 sl45 sl46 sl47 sl48 sl49 sl50 sl51 sl52 sl53 sl54 sl55 sl56 sl57 sl58 sl59 sl60 sl61 sl62 sl63 sl64 sl65 sl66 sl67 sl68 sl69 sl70 sl71 sl72 sl73 sl74 sl75 sl76 sl77 sl78 sl79 sl80 sl81 sl82 sl83 sl84 sl85 sl86 sl87 sl88 sl89 sl90 sl91 sl92 sl93 sl94 sl95 sl96 sl97 sl98 sl99 sl100 sl101 sl102 sl103 sl104 sl105 sl106 sl107 sl108 sl109 sl110 sl111 sl112 sl113 sl114 sl115 sl116 sl117 sl118 sl119 sl120 sl121 sl122 sl123 sl124 sl125 sl126 sl127 sl128 sl129 sl130 sl131 sl132 sl133 sl134 sl135 sl136 sl137 sl138 sl139 sl140 sl141 sl142 sl143 sl144 sl145 sl146 sl147 sl148 sl149 sl150 sl151 sl152 sl153 sl154 sl155 sl156 sl157 sl158 sl159 sl160 sl161 sl162 sl163 sl164 sl165 sl166 sl167 sl168 sl169 sl170 sl171 sl172 sl173 sl174 sl175 sl176 sl177 sl178 sl179 sl180 sl181 sl182 sl183 sl184 sl185 sl186 sl187 sl188 sl189 sl190 sl191 sl192 sl193 sl194 sl195 sl196 sl197 sl198 sl199 sl200 sl201 sl202 sl203 sl204 sl205 sl206 sl207 sl208 sl209 sl210 sl211 sl212 sl213 sl214 sl215 sl216 sl217 sl218 sl219 sl220 sl221 sl222 sl223 sl224 sl225 sl226 sl227 sl228 sl229 sl230 sl231 sl232 sl233 sl234 sl235 sl236 sl237 sl238 sl239 sl240 sl241 sl242 sl243 sl244 sl245 sl246 sl247 sl248 sl249 sl250 sl251 sl252 sl253 sl254 sl255 sl256 sl257 sl258 sl259 sl260 sl261 sl262 sl263 sl264 sl265 sl266 sl267 sl268 sl269 sl270 sl271 sl272 sl273 sl274 sl275 sl276 sl277 sl278 sl279 sl280 sl281 sl282 sl283 sl284 sl285 sl286 sl287 sl288 sl289 sl290 sl291 sl292 sl293 sl294 sl295 sl296 sl297 sl298 sl299 sl300 sl301 sl302 sl303 sl304 sl305 sl306 sl307 sl308 sl309 sl310 sl311 sl312 sl313 sl314 sl315 sl316 sl317 sl318 sl319 sl320 sl321 sl322 sl323 sl324 sl325 sl326 sl327 sl328 sl329 sl330 sl331 sl332 sl333 sl334 sl335 sl336 sl337 sl338 sl339 sl340 sl341 sl342 sl343 sl344 sl345 sl346 sl347 sl348 sl349 sl350 sl351 sl352 sl353 sl354 sl355 sl356 sl357 sl358 sl359 sl360 sl361 sl362 sl363 sl364 sl365 sl366 sl367 sl368 sl369 sl370 sl371 sl372 sl373 sl374 sl375 sl376 sl377 sl378 sl379 sl380 sl381 sl382 sl383 sl384 sl385 sl386 sl387 sl388 sl389 sl390 sl391 sl392 sl393 sl394 sl395 sl396 sl397 sl398 sl399 sl400 sl401 sl402 sl403 sl404 sl405 sl406 sl407 sl408 sl409 sl410 sl411 sl412 sl413 sl414 sl415 sl416 sl417 sl418 sl419 sl420 sl421 sl422 sl423 sl424 sl425 sl426 sl427 : Value) (K : Act → World → Prop) (Q' : Exit → Act → World → Prop)
  (hK : ∀ (tl0 tl1 tl6 tl8 tl9 tl10 tl11 tl12 tl13 tl18 tl19 tl20 tl21 tl22 tl23 tl24 tl25 tl26 tl27 tl28 tl29 tl30 tl31 tl32 tl33 tl34 tl35 tl36 tl37 tl38 tl39 tl40 tl41 tl42 tl43 tl44 tl45 tl46 tl47 tl48 tl49 tl50 tl51 tl52 tl53 tl54 tl55 tl56 tl57 tl58 tl59 tl60 tl61 tl62 tl63 tl64 tl65 tl66 tl67 tl68 tl69 tl70 tl71 tl72 tl73 tl74 tl75 tl76 tl77 tl78 tl79 tl80 tl81 tl82 tl83 tl84 tl85 tl86 tl87 tl88 tl89 tl90 tl91 tl92 tl93 tl94 tl95 tl96 tl97 tl98 tl99 tl100 tl101 tl102 tl103 tl104 tl105 tl106 tl107 tl108 tl109 tl110 tl111 tl112 tl113 tl114 tl115 tl116 tl117 tl118 tl119 tl120 tl121 tl122 tl123 tl124 tl125 tl126 tl127 tl128 tl129 tl130 tl131 tl132 tl133 tl134 tl135 tl136 tl137 tl138 tl139 tl140 tl141 tl142 tl143 tl144 tl145 tl146 tl147 tl148 tl149 tl150 tl151 tl152 tl153 tl154 tl155 tl156 tl157 tl158 tl159 tl160 tl161 tl162 tl163 tl164 tl165 tl166 tl167 tl168 tl169 tl170 tl171 tl172 tl173 tl174 tl175 tl176 tl177 tl178 tl179 tl180 tl181 tl182 tl183 tl184 tl185 tl186 tl187 tl188 tl189 tl190 tl191 tl192 tl193 tl194 tl195 tl196 tl197 tl198 tl199 tl200 tl201 tl202 tl203 tl204 tl205 tl206 tl207 tl208 tl209 tl210 tl211 tl212 tl213 tl214 tl215 tl216 tl217 tl218 tl219 tl220 tl221 tl222 tl223 tl224 tl225 tl226 tl227 tl228 tl229 tl230 tl231 tl232 tl233 tl234 tl235 tl236 tl237 tl238 tl239 tl240 tl241 tl242 tl243 tl244 tl245 tl246 tl247 tl248 tl249 tl250 tl251 tl252 tl253 tl254 tl255 tl256 tl257 tl258 tl259 tl260 tl261 tl262 tl263 tl264 tl265 tl266 tl267 tl268 tl269 tl270 tl271 tl272 tl273 tl274 tl275 tl276 tl277 tl278 tl279 tl280 tl281 tl282 tl283 tl284 tl285 tl286 tl287 tl288 tl289 tl290 tl291 tl292 tl293 tl294 tl295 tl296 tl297 tl298 tl299 tl300 tl301 tl302 tl303 tl304 tl305 tl306 tl307 tl308 tl309 tl310 tl311 tl312 tl313 tl314 tl315 tl316 tl317 tl318 tl319 tl320 tl321 tl322 tl323 tl324 tl325 tl326 tl327 tl328 tl329 tl330 tl331 tl332 tl333 tl334 tl335 tl336 tl337 tl338 tl339 tl340 tl341 tl342 tl343 tl344 tl345 tl346 tl347 tl348 tl349 tl350 tl351 tl352 tl353 tl354 tl355 tl356 tl357 tl358 tl359 tl360 tl361 tl362 tl363 tl364 tl365 tl366 tl367 tl368 tl369 tl370 tl371 tl372 tl373 tl374 tl375 tl376 tl377 tl378 tl379 tl380 tl381 tl382 tl383 tl384 tl385 tl386 tl387 tl388 tl389 tl390 tl391 tl392 tl393 tl394 tl395 tl396 tl397 tl398 tl399 tl400 tl401 tl402 tl403 tl404 tl405 tl406 tl407 tl408 tl409 tl410 tl411 tl412 tl413 tl414 tl415 tl416 tl417 tl418 tl419 tl420 tl421 tl422 tl423 tl424 tl425 tl426 tl427 : Value) (wx : World), Hid (Below w5.heap.size w5 wx) → K ⟨List.toArray (tl0 :: tl1 :: sl2 :: sl3 :: sl4 :: sl5 :: tl6 :: .pointer (some ⟨w.heap.size, 0, none⟩) :: tl8 :: tl9 :: tl10 :: tl11 :: tl12 :: tl13 :: sl14 :: .pointer (some ⟨Y, 0, none⟩) :: sl16 :: .pointer (some ⟨Z, 0, none⟩) :: tl18 :: tl19 :: tl20 :: tl21 :: tl22 :: tl23 :: tl24 :: tl25 :: tl26 :: tl27 :: tl28 :: tl29 :: tl30 :: tl31 :: tl32 :: tl33 :: tl34 :: tl35 :: tl36 :: tl37 :: tl38 :: tl39 :: tl40 :: tl41 :: tl42 :: tl43 :: tl44 :: tl45 :: tl46 :: tl47 :: tl48 :: tl49 :: tl50 :: tl51 :: tl52 :: tl53 :: tl54 :: tl55 :: tl56 :: tl57 :: tl58 :: tl59 :: tl60 :: tl61 :: tl62 :: tl63 :: tl64 :: tl65 :: tl66 :: tl67 :: tl68 :: tl69 :: tl70 :: tl71 :: tl72 :: tl73 :: tl74 :: tl75 :: tl76 :: tl77 :: tl78 :: tl79 :: tl80 :: tl81 :: tl82 :: tl83 :: tl84 :: tl85 :: tl86 :: tl87 :: tl88 :: tl89 :: tl90 :: tl91 :: tl92 :: tl93 :: tl94 :: tl95 :: tl96 :: tl97 :: tl98 :: tl99 :: tl100 :: tl101 :: tl102 :: tl103 :: tl104 :: tl105 :: tl106 :: tl107 :: tl108 :: tl109 :: tl110 :: tl111 :: tl112 :: tl113 :: tl114 :: tl115 :: tl116 :: tl117 :: tl118 :: tl119 :: tl120 :: tl121 :: tl122 :: tl123 :: tl124 :: tl125 :: tl126 :: tl127 :: tl128 :: tl129 :: tl130 :: tl131 :: tl132 :: tl133 :: tl134 :: tl135 :: tl136 :: tl137 :: tl138 :: tl139 :: tl140 :: tl141 :: tl142 :: tl143 :: tl144 :: tl145 :: tl146 :: tl147 :: tl148 :: tl149 :: tl150 :: tl151 :: tl152 :: tl153 :: tl154 :: tl155 :: tl156 :: tl157 :: tl158 :: tl159 :: tl160 :: tl161 :: tl162 :: tl163 :: tl164 :: tl165 :: tl166 :: tl167 :: tl168 :: tl169 :: tl170 :: tl171 :: tl172 :: tl173 :: tl174 :: tl175 :: tl176 :: tl177 :: tl178 :: tl179 :: tl180 :: tl181 :: tl182 :: tl183 :: tl184 :: tl185 :: tl186 :: tl187 :: tl188 :: tl189 :: tl190 :: tl191 :: tl192 :: tl193 :: tl194 :: tl195 :: tl196 :: tl197 :: tl198 :: tl199 :: tl200 :: tl201 :: tl202 :: tl203 :: tl204 :: tl205 :: tl206 :: tl207 :: tl208 :: tl209 :: tl210 :: tl211 :: tl212 :: tl213 :: tl214 :: tl215 :: tl216 :: tl217 :: tl218 :: tl219 :: tl220 :: tl221 :: tl222 :: tl223 :: tl224 :: tl225 :: tl226 :: tl227 :: tl228 :: tl229 :: tl230 :: tl231 :: tl232 :: tl233 :: tl234 :: tl235 :: tl236 :: tl237 :: tl238 :: tl239 :: tl240 :: tl241 :: tl242 :: tl243 :: tl244 :: tl245 :: tl246 :: tl247 :: tl248 :: tl249 :: tl250 :: tl251 :: tl252 :: tl253 :: tl254 :: tl255 :: tl256 :: tl257 :: tl258 :: tl259 :: tl260 :: tl261 :: tl262 :: tl263 :: tl264 :: tl265 :: tl266 :: tl267 :: tl268 :: tl269 :: tl270 :: tl271 :: tl272 :: tl273 :: tl274 :: tl275 :: tl276 :: tl277 :: tl278 :: tl279 :: tl280 :: tl281 :: tl282 :: tl283 :: tl284 :: tl285 :: tl286 :: tl287 :: tl288 :: tl289 :: tl290 :: tl291 :: tl292 :: tl293 :: tl294 :: tl295 :: tl296 :: tl297 :: tl298 :: tl299 :: tl300 :: tl301 :: tl302 :: tl303 :: tl304 :: tl305 :: tl306 :: tl307 :: tl308 :: tl309 :: tl310 :: tl311 :: tl312 :: tl313 :: tl314 :: tl315 :: tl316 :: tl317 :: tl318 :: tl319 :: tl320 :: tl321 :: tl322 :: tl323 :: tl324 :: tl325 :: tl326 :: tl327 :: tl328 :: tl329 :: tl330 :: tl331 :: tl332 :: tl333 :: tl334 :: tl335 :: tl336 :: tl337 :: tl338 :: tl339 :: tl340 :: tl341 :: tl342 :: tl343 :: tl344 :: tl345 :: tl346 :: tl347 :: tl348 :: tl349 :: tl350 :: tl351 :: tl352 :: tl353 :: tl354 :: tl355 :: tl356 :: tl357 :: tl358 :: tl359 :: tl360 :: tl361 :: tl362 :: tl363 :: tl364 :: tl365 :: tl366 :: tl367 :: tl368 :: tl369 :: tl370 :: tl371 :: tl372 :: tl373 :: tl374 :: tl375 :: tl376 :: tl377 :: tl378 :: tl379 :: tl380 :: tl381 :: tl382 :: tl383 :: tl384 :: tl385 :: tl386 :: tl387 :: tl388 :: tl389 :: tl390 :: tl391 :: tl392 :: tl393 :: tl394 :: tl395 :: tl396 :: tl397 :: tl398 :: tl399 :: tl400 :: tl401 :: tl402 :: tl403 :: tl404 :: tl405 :: tl406 :: tl407 :: tl408 :: tl409 :: tl410 :: tl411 :: tl412 :: tl413 :: tl414 :: tl415 :: tl416 :: tl417 :: tl418 :: tl419 :: tl420 :: tl421 :: tl422 :: tl423 :: tl424 :: tl425 :: tl426 :: tl427 :: []), []⟩ wx) :
  (stmtOf Tryz.f4 13).wp Tryz.prog (Exit.then K Q') ⟨List.toArray (sl0 :: sl1 :: sl2 :: sl3 :: sl4 :: sl5 :: sl6 :: .pointer (some ⟨w.heap.size, 0, none⟩) :: sl8 :: sl9 :: sl10 :: sl11 :: sl12 :: sl13 :: sl14 :: .pointer (some ⟨Y, 0, none⟩) :: sl16 :: .pointer (some ⟨Z, 0, none⟩) :: sl18 :: sl19 :: sl20 :: sl21 :: sl22 :: sl23 :: sl24 :: sl25 :: sl26 :: sl27 :: sl28 :: sl29 :: sl30 :: sl31 :: sl32 :: sl33 :: sl34 :: sl35 :: sl36 :: sl37 :: sl38 :: sl39 :: sl40 :: sl41 :: sl42 :: sl43 :: sl44 :: sl45 :: sl46 :: sl47 :: sl48 :: sl49 :: sl50 :: sl51 :: sl52 :: sl53 :: sl54 :: sl55 :: sl56 :: sl57 :: sl58 :: sl59 :: sl60 :: sl61 :: sl62 :: sl63 :: sl64 :: sl65 :: sl66 :: sl67 :: sl68 :: sl69 :: sl70 :: sl71 :: sl72 :: sl73 :: sl74 :: sl75 :: sl76 :: sl77 :: sl78 :: sl79 :: sl80 :: sl81 :: sl82 :: sl83 :: sl84 :: sl85 :: sl86 :: sl87 :: sl88 :: sl89 :: sl90 :: sl91 :: sl92 :: sl93 :: sl94 :: sl95 :: sl96 :: sl97 :: sl98 :: sl99 :: sl100 :: sl101 :: sl102 :: sl103 :: sl104 :: sl105 :: sl106 :: sl107 :: sl108 :: sl109 :: sl110 :: sl111 :: sl112 :: sl113 :: sl114 :: sl115 :: sl116 :: sl117 :: sl118 :: sl119 :: sl120 :: sl121 :: sl122 :: sl123 :: sl124 :: sl125 :: sl126 :: sl127 :: sl128 :: sl129 :: sl130 :: sl131 :: sl132 :: sl133 :: sl134 :: sl135 :: sl136 :: sl137 :: sl138 :: sl139 :: sl140 :: sl141 :: sl142 :: sl143 :: sl144 :: sl145 :: sl146 :: sl147 :: sl148 :: sl149 :: sl150 :: sl151 :: sl152 :: sl153 :: sl154 :: sl155 :: sl156 :: sl157 :: sl158 :: sl159 :: sl160 :: sl161 :: sl162 :: sl163 :: sl164 :: sl165 :: sl166 :: sl167 :: sl168 :: sl169 :: sl170 :: sl171 :: sl172 :: sl173 :: sl174 :: sl175 :: sl176 :: sl177 :: sl178 :: sl179 :: sl180 :: sl181 :: sl182 :: sl183 :: sl184 :: sl185 :: sl186 :: sl187 :: sl188 :: sl189 :: sl190 :: sl191 :: sl192 :: sl193 :: sl194 :: sl195 :: sl196 :: sl197 :: sl198 :: sl199 :: sl200 :: sl201 :: sl202 :: sl203 :: sl204 :: sl205 :: sl206 :: sl207 :: sl208 :: sl209 :: sl210 :: sl211 :: sl212 :: sl213 :: sl214 :: sl215 :: sl216 :: sl217 :: sl218 :: sl219 :: sl220 :: sl221 :: sl222 :: sl223 :: sl224 :: sl225 :: sl226 :: sl227 :: sl228 :: sl229 :: sl230 :: sl231 :: sl232 :: sl233 :: sl234 :: sl235 :: sl236 :: sl237 :: sl238 :: sl239 :: sl240 :: sl241 :: sl242 :: sl243 :: sl244 :: sl245 :: sl246 :: sl247 :: sl248 :: sl249 :: sl250 :: sl251 :: sl252 :: sl253 :: sl254 :: sl255 :: sl256 :: sl257 :: sl258 :: sl259 :: sl260 :: sl261 :: sl262 :: sl263 :: sl264 :: sl265 :: sl266 :: sl267 :: sl268 :: sl269 :: sl270 :: sl271 :: sl272 :: sl273 :: sl274 :: sl275 :: sl276 :: sl277 :: sl278 :: sl279 :: sl280 :: sl281 :: sl282 :: sl283 :: sl284 :: sl285 :: sl286 :: sl287 :: sl288 :: sl289 :: sl290 :: sl291 :: sl292 :: sl293 :: sl294 :: sl295 :: sl296 :: sl297 :: sl298 :: sl299 :: sl300 :: sl301 :: sl302 :: sl303 :: sl304 :: sl305 :: sl306 :: sl307 :: sl308 :: sl309 :: sl310 :: sl311 :: sl312 :: sl313 :: sl314 :: sl315 :: sl316 :: sl317 :: sl318 :: sl319 :: sl320 :: sl321 :: sl322 :: sl323 :: sl324 :: sl325 :: sl326 :: sl327 :: sl328 :: sl329 :: sl330 :: sl331 :: sl332 :: sl333 :: sl334 :: sl335 :: sl336 :: sl337 :: sl338 :: sl339 :: sl340 :: sl341 :: sl342 :: sl343 :: sl344 :: sl345 :: sl346 :: sl347 :: sl348 :: sl349 :: sl350 :: sl351 :: sl352 :: sl353 :: sl354 :: sl355 :: sl356 :: sl357 :: sl358 :: sl359 :: sl360 :: sl361 :: sl362 :: sl363 :: sl364 :: sl365 :: sl366 :: sl367 :: sl368 :: sl369 :: sl370 :: sl371 :: sl372 :: sl373 :: sl374 :: sl375 :: sl376 :: sl377 :: sl378 :: sl379 :: sl380 :: sl381 :: sl382 :: sl383 :: sl384 :: sl385 :: sl386 :: sl387 :: sl388 :: sl389 :: sl390 :: sl391 :: sl392 :: sl393 :: sl394 :: sl395 :: sl396 :: sl397 :: sl398 :: sl399 :: sl400 :: sl401 :: sl402 :: sl403 :: sl404 :: sl405 :: sl406 :: sl407 :: sl408 :: sl409 :: sl410 :: sl411 :: sl412 :: sl413 :: sl414 :: sl415 :: sl416 :: sl417 :: sl418 :: sl419 :: sl420 :: sl421 :: sl422 :: sl423 :: sl424 :: sl425 :: sl426 :: sl427 :: []), []⟩ w5 := by
 conv => arg 2; whnf
 have zZ := lt_of_blk HZ.out
 have lX := lt_of_blk K5.out.x; have lY := lt_of_blk K5.out.y
 obtain ⟨p0, p1, p2, p3⟩ := cellsS K5.out.y; obtain ⟨x0, x1, x2⟩ := cells3 K5.out.x; obtain ⟨o0, o1, o2⟩ := cells3 HZ.out
 have bD : Below w5.heap.size w5 w5.drew := (Below.refl _ _).drew
 obtain ⟨c1, hc1⟩ : ∃ c, checkN s ⟨id0, ver0, vals0⟩ = c := ⟨_, rfl⟩
 obtain ⟨c2, hc2⟩ : ∃ c, checkN s ⟨oid, over, ovals⟩ = c := ⟨_, rfl⟩
 obtain ⟨q1, hq1⟩ : ∃ q, sameR ⟨id0, ver0, vals0⟩ ⟨oid, over, ovals⟩ = q := ⟨_, rfl⟩
 have HC1 := Lib.hid hc1; have HC2 := Lib.hid hc2; have HQ1 := Lib.hid hq1
 have e1 : (c1 != c1) = false := by simp
 have e2 : (c2 != c2) = false := by simp
 have e3 : (q1 != q1) = false := by simp
 have HT := Lib.hid (show ∀ w', Below w5.heap.size w5 w' → (w'.cell? ⟨Y, 0, none⟩ = some (.slice af N cf) ∧ w'.cell? ⟨Y, 1, none⟩ = some (.slice at' nt ct) ∧ w'.cell? ⟨Y, 2, none⟩ = some (.slice an nk cn) ∧ w'.cell? ⟨Y, 3, none⟩ = some (.slice as' ns cs)) ∧ (w'.cell? ⟨w.heap.size, 0, none⟩ = some (.int .i64 id0) ∧ w'.cell? ⟨w.heap.size, 1, none⟩ = some (.int .i64 ver0) ∧ w'.cell? ⟨w.heap.size, 2, none⟩ = some (.slice ra vals0.length rc)) ∧ w'.cell? ⟨Z, 0, none⟩ = some (.int .i64 oid) ∧ w'.cell? ⟨Z, 1, none⟩ = some (.int .i64 over) ∧ w'.cell? ⟨Z, 2, none⟩ = some (.slice oa ovals.length oc) from
  fun w' hb => ⟨cellsS (blk_below hb lY K5.out.y), cells3 (blk_below hb lX K5.out.x), cells3 (blk_below hb zZ HZ.out)⟩)
 have HRx := Lib.hid (show ∀ w', Below w5.heap.size w5 w' → Vec w' Any1 1 encS (.slice ra vals0.length rc) vals0 from fun w' hb => HRaw.out.below (HB5.out.trans (hb.mono HB5.out.size)))
 have HOx := Lib.hid (show ∀ w', Below w5.heap.size w5 w' → Vec w' Any1 1 encS (.slice oa ovals.length oc) ovals from fun w' hb => (HOV.out.below hb).any)
 clear hc1 hc2 hq1
 let BP : Exit → Act → World → Prop := bodyPost Tryz.prog Tryz.f4 fun _ _ => True
 go_wp2_with fail
 go_cut [163] (fun s163 wx => s163 = .bool false ∧ Below w5.heap.size w5 wx)
 case first =>
  refine wp_region_noPanic ?_
  refine wp_region_held_drew (S := (fun w' => (w'.cell? ⟨Y, 0, none⟩ = some (.slice af N cf) ∧ w'.cell? ⟨Y, 1, none⟩ = some (.slice at' nt ct) ∧ w'.cell? ⟨Y, 2, none⟩ = some (.slice an nk cn) ∧ w'.cell? ⟨Y, 3, none⟩ = some (.slice as' ns cs)) ∧ (w'.cell? ⟨w.heap.size, 0, none⟩ = some (.int .i64 id0) ∧ w'.cell? ⟨w.heap.size, 1, none⟩ = some (.int .i64 ver0) ∧ w'.cell? ⟨w.heap.size, 2, none⟩ = some (.slice ra vals0.length rc)) ∧ w'.cell? ⟨Z, 0, none⟩ = some (.int .i64 oid) ∧ w'.cell? ⟨Z, 1, none⟩ = some (.int .i64 over) ∧ w'.cell? ⟨Z, 2, none⟩ = some (.slice oa ovals.length oc))) (by kernel_rfl) (HT.out _ bD) (fun hHeld => ?_)
  refine tH 0 (h := ?_)
  refine tH 1 (h := ?_)
  refine tH 3 (h := ?_)
  refine tH 4 (h := ?_)
  refine wpAnyH_ready (rs := [2]) (by kernel_rfl) (by simp) ?_
  refine AllReadyH.cons rfl (fun K hK => ?_) AllReadyH.nil
  go_simp
  refine (rcheck_all S1 _ _ _ _ s ⟨id0, ver0, vals0⟩ _ _ (K5.out.s.below bD) (HRx.out _ bD) HRw.out.s6 HRw.out.n6).mono ?_; rw [HC1.out]; rintro e y1 ⟨rfl, hb⟩; have b1 := bD.trans (hb.mono bD.size); clear hb
  refine hK.out _ _ (HT.out _ b1) (fun hHeld => ?_)
  clear hK K
  try simp only [List.getElem_toArray, List.getElem_cons_zero, List.getElem_cons_succ, Act.put, List.setIfInBounds_toArray, List.set_cons_zero, List.set_cons_succ]
  refine wpAnyH_ready (rs := [5]) (by kernel_rfl) (by simp) ?_
  refine AllReadyH.cons rfl (fun K hK => ?_) AllReadyH.nil
  go_simp
  refine (rrcheck_any S1 Any1 _ _ _ _ s ⟨id0, ver0, vals0⟩ _ _ (K5.out.s.below b1) (HRx.out _ b1) HRw.out.s6 HRw.out.n6).mono ?_; rw [HC1.out]; rintro e y2 ⟨rfl, hb⟩; have b2 := b1.trans (hb.mono b1.size); clear hb
  refine hK.out _ _ (HT.out _ b2) (fun hHeld => ?_)
  clear hK K
  try simp only [List.getElem_toArray, List.getElem_cons_zero, List.getElem_cons_succ, Act.put, List.setIfInBounds_toArray, List.set_cons_zero, List.set_cons_succ]
  refine tH 6 (h := ?_)
  refine tH 7 (h := ?_)
  refine tH 8 (h := ?_)
  refine tH 9 (h := ?_)
  refine tH 11 (h := ?_)
  refine tH 12 (h := ?_)
  refine wpAnyH_ready (rs := [10]) (by kernel_rfl) (by simp) ?_
  refine AllReadyH.cons rfl (fun K hK => ?_) AllReadyH.nil
  go_simp
  refine (rcheck_all S1 _ _ _ _ s ⟨oid, over, ovals⟩ _ _ (K5.out.s.below b2) (HOx.out _ b2) HOw.out.s6 HOw.out.n6).mono ?_; rw [HC2.out]; rintro e y3 ⟨rfl, hb⟩; have b3 := b2.trans (hb.mono b2.size); clear hb
  refine hK.out _ _ (HT.out _ b3) (fun hHeld => ?_)
  clear hK K
  try simp only [List.getElem_toArray, List.getElem_cons_zero, List.getElem_cons_succ, Act.put, List.setIfInBounds_toArray, List.set_cons_zero, List.set_cons_succ]
  refine wpAnyH_ready (rs := [13]) (by kernel_rfl) (by simp) ?_
  refine AllReadyH.cons rfl (fun K hK => ?_) AllReadyH.nil
  go_simp
  refine (rrcheck_any S1 Any1 _ _ _ _ s ⟨oid, over, ovals⟩ _ _ (K5.out.s.below b3) (HOx.out _ b3) HOw.out.s6 HOw.out.n6).mono ?_; rw [HC2.out]; rintro e y4 ⟨rfl, hb⟩; have b4 := b3.trans (hb.mono b3.size); clear hb
  refine hK.out _ _ (HT.out _ b4) (fun hHeld => ?_)
  clear hK K
  try simp only [List.getElem_toArray, List.getElem_cons_zero, List.getElem_cons_succ, Act.put, List.setIfInBounds_toArray, List.set_cons_zero, List.set_cons_succ]
  refine tH 14 (h := ?_)
  refine tH 15 (h := ?_)
  refine tH 16 (h := ?_)
  refine tH 17 (h := ?_)
  refine tH 18 (h := ?_)
  refine tH 20 (h := ?_)
  refine tH 21 (h := ?_)
  refine wpAnyH_ready (rs := [19]) (by kernel_rfl) (by simp) ?_
  refine AllReadyH.cons rfl (fun K hK => ?_) AllReadyH.nil
  go_simp
  refine (psame_any Any1 Any1 _ _ ⟨id0, ver0, vals0⟩ ⟨oid, over, ovals⟩ _ (HRx.out _ b4) (HOx.out _ b4) HRw.out.n6 HOw.out.n6).mono ?_; rw [HQ1.out]; rintro e y5 ⟨rfl, hb⟩; have b5 := b4.trans (hb.mono b4.size); clear hb
  refine hK.out _ _ (HT.out _ b5) (fun hHeld => ?_)
  clear hK K
  try simp only [List.getElem_toArray, List.getElem_cons_zero, List.getElem_cons_succ, Act.put, List.setIfInBounds_toArray, List.set_cons_zero, List.set_cons_succ]
  refine wpAnyH_ready (rs := [22]) (by kernel_rfl) (by simp) ?_
  refine AllReadyH.cons rfl (fun K hK => ?_) AllReadyH.nil
  go_simp
  refine (rrsame_any Any1 Any1 _ _ ⟨id0, ver0, vals0⟩ ⟨oid, over, ovals⟩ _ (HRx.out _ b5) (HOx.out _ b5) HRw.out.n6 HOw.out.n6).mono ?_; rw [HQ1.out]; rintro e y6 ⟨rfl, hb⟩; have b6 := b5.trans (hb.mono b5.size); clear hb
  refine hK.out _ _ (HT.out _ b6) (fun hHeld => ?_)
  clear hK K
  try simp only [List.getElem_toArray, List.getElem_cons_zero, List.getElem_cons_succ, Act.put, List.setIfInBounds_toArray, List.set_cons_zero, List.set_cons_succ]
  refine tH 23 (h := ?_)
  refine tH 24 (h := ?_)
  refine tH 25 (h := ?_)
  refine tH 26 (h := ?_)
  refine tH 27 (h := ?_)
  refine wpAnyH_ready (rs := [28]) (by kernel_rfl) (by simp) ?_
  refine AllReadyH.cons rfl (fun K hK => ?_) AllReadyH.nil
  go_simp
  refine (psame_any Any1 Any1 _ _ ⟨oid, over, ovals⟩ ⟨oid, over, ovals⟩ _ (HOx.out _ b6) (HOx.out _ b6) HOw.out.n6 HOw.out.n6).mono ?_; rw [sameR_self _ _ rfl rfl rfl]; rintro e y7 ⟨rfl, hb⟩; have b7 := b6.trans (hb.mono b6.size); clear hb
  refine hK.out _ _ (HT.out _ b7) (fun hHeld => ?_)
  clear hK K
  try simp only [List.getElem_toArray, List.getElem_cons_zero, List.getElem_cons_succ, Act.put, List.setIfInBounds_toArray, List.set_cons_zero, List.set_cons_succ]
  refine tH 29 (h := ?_)
  refine tH 30 (h := ?_)
  refine wpAnyH_done (by kernel_rfl) ?_ _
  refine NoPanic.normal ?_
  go_wp2_with fail
  go_meet
  exact ⟨rfl, b7⟩
 case rest =>
  obtain ⟨rfl, hb6⟩ := hcut
  have hfin := Lib.hid hb6
  clear hb6
  go_wp2_with fail
  first | exact hfin | exact hK _ _ _ _ _ _ _ _ _ _ _ _ _ _ _ _ _ _ _ _ _ _ _ _ _ _ _ _ _ _ _ _ _ _ _ _ _ _ _ _ _ _ _ _ _ _ _ _ _ _ _ _ _ _ _ _ _ _ _ _ _ _ _ _ _ _ _ _ _ _ _ _ _ _ _ _ _ _ _ _ _ _ _ _ _ _ _ _ _ _ _ _ _ _ _ _ _ _ _ _ _ _ _ _ _ _ _ _ _ _ _ _ _ _ _ _ _ _ _ _ _ _ _ _ _ _ _ _ _ _ _ _ _ _ _ _ _ _ _ _ _ _ _ _ _ _ _ _ _ _ _ _ _ _ _ _ _ _ _ _ _ _ _ _ _ _ _ _ _ _ _ _ _ _ _ _ _ _ _ _ _ _ _ _ _ _ _ _ _ _ _ _ _ _ _ _ _ _ _ _ _ _ _ _ _ _ _ _ _ _ _ _ _ _ _ _ _ _ _ _ _ _ _ _ _ _ _ _ _ _ _ _ _ _ _ _ _ _ _ _ _ _ _ _ _ _ _ _ _ _ _ _ _ _ _ _ _ _ _ _ _ _ _ _ _ _ _ _ _ _ _ _ _ _ _ _ _ _ _ _ _ _ _ _ _ _ _ _ _ _ _ _ _ _ _ _ _ _ _ _ _ _ _ _ _ _ _ _ _ _ _ _ _ _ _ _ _ _ _ _ _ _ _ _ _ _ _ _ _ _ _ _ _ _ _ _ _ _ _ _ _ _ _ _ _ _ _ _ _ _ _ _ _ _ _ _ _ _ _ _ _ _ _ _ _ _ _ _ _ _ _ _ _ _ _ _ _ _ _ _ _ _ _ _ _ _ _ _ _ _ _ _ _ _ _ _ _ _ _ _ _ _ _ _ _ _ _ _ _ _ _ _ _ _ _ _ _ _ _ _ hfin
end
section
set_option maxRecDepth 100000
open Go.RowKit Cal
attribute [local go_sem] toList_mk mk_size bytes_append str_append
set_option maxHeartbeats 16000000 in
theorem rex11 (w : World) (id0 ver0 : Int) (ra : Option Addr) (rc : Nat) (vals0 : List (List UInt8)) (t0 : List UInt8) (cut : Int) (HVar : Hid (VarsAt w)) (HDb : Hid (DbAt w)) (HRaw : Hid (Vec w Any1 1 encS (.slice ra vals0.length rc) vals0)) (HCw : Hid (-9223372036854775808 ≤ cut ∧ cut ≤ 9223372036854775807)) (hn1 : vals0.length ≤ 20) (ht : t0.length ≤ 600) (HS200 : Hid (∀ x ∈ vals0, x.length ≤ 200)) (Y : Nat) (af at' an as' : Option Addr) (N cf nt ct nk cn ns cs : Nat) (s : SchemaL) (HCs : Hid (checkS s = 0)) (C : List RV) (arv : Option Addr) (crv : Nat) (hC5 : C.length ≤ 5) (la : Option Addr) (lc : Nat) (Rs : List RecL) (HList : Hid (RecsVec w Any1 (.slice la Rs.length lc) Rs)) (hn2 : Rs.length ≤ 80) (HAll : Hid (∀ r ∈ Rs, RawOk r)) (va : Option Addr) (vc : Nat) (Vs : List (List UInt8)) (HVals : Hid (Vec w Any1 1 encS (.slice va Vs.length vc) Vs)) (hn3 : Vs.length ≤ 20) (HV200 : Hid (∀ x ∈ Vs, x.length ≤ 200)) (HSD : Hid (SchemaD s)) (D : Nat) (idc : Int) (Wd Wc w4 : World) (S1 : Nat → Prop) (zDD : Wd.heap.size = D + 1) (HG4 : Hid (∀ k, (Value.slice arv C.length crv).ownBlock = some k → Wc.heap.size ≤ k ∧ k < w4.heap.size)) (HSm : Hid (∀ b, S1 b → Wd.heap.size ≤ b ∧ b < Wc.heap.size)) (HBc : Hid (Below w.heap.size w Wc)) (zX : w.heap.size < Wc.heap.size) (zY : Y < Wc.heap.size) (zwD : w.heap.size ≤ D) (HBd : Hid (Below w.heap.size w Wd)) (HNe : Hid (∀ b, S1 b → b ≠ D)) (yD : Y ≠ D) (zcd : Wd.heap.size ≤ w4.heap.size) (K4 : Hid (QX D Wd w.heap.size id0 ver0 (.slice ra vals0.length rc) Y S1 (.slice af N cf) (.slice at' nt ct) (.slice an nk cn) (.slice as' ns cs) s w4)) (HRO : Hid (ROut D Wc s (.slice arv C.length crv) C idc w4)) (sl0 sl1 sl6 sl8 sl9 sl10 sl11 sl12 sl13 sl17 sl18 sl19 sl20 sl21 sl22 sl23 sl24 sl25 sl26 sl27 sl28 sl29 sl30 sl31 sl32 sl33 sl34 sl35 sl36 sl37 sl38 sl39 sl40 sl41 sl42 sl43 sl44 sl45 sl46 sl47 sl48 sl49 sl50 sl51 sl52 sl53 sl54 sl55 sl56 sl57 sl58 sl59 sl60 sl61 sl62 sl63 sl64 sl65 sl66 sl67 sl68 sl69 sl70 sl71 sl72 sl73 sl74 sl75 sl76 sl77 sl78 sl79 sl80 sl81 sl82 sl83 sl84 sl85 sl86 sl87 sl88 sl89 sl90 sl91 sl92 sl93 sl94 sl95 sl96 sl97 sl98 sl99 sl100 sl101 sl102 sl103 sl104 sl105 sl106 sl107 sl108 sl109 sl110 sl111 sl112 sl113 sl114 sl115 sl116 sl117 sl118 sl119 sl120 sl121 sl122 sl123 sl124 sl125 sl126 sl127 sl128 sl129 sl130 sl131 sl132 sl133 sl134 sl135 sl136 sl137 sl138 sl139 sl140 sl141 sl142 sl143 sl144 sl145 sl146 sl147 sl148 sl149 sl150 sl151 sl152 sl153 sl154 sl155 sl156 sl157 sl158 sl159 sl160 sl161 sl162 sl163 sl164 sl165 sl166 sl167 sl168 sl169 sl170 sl171 sl172 sl173 sl174 sl175 sl176 sl177 sl178 sl179 sl180 sl181 sl182 sl183 sl184 sl185 sl186 sl187 sl188 sl189 sl190 sl191 sl192 sl193 sl194 sl195 sl196 sl197 sl198 sl199 sl200 sl201 sl202 sl203 sl204 sl205 sl206 sl207 sl208 sl209 sl210 sl211 sl212 sl213 sl214 sl215 sl216 sl217 sl218 sl219 sl220 sl221 sl222 sl223 sl224 sl225 sl226 sl227 sl228 sl229 sl230 sl231 sl232 sl233 sl234 sl235 sl236 sl237 sl238 sl239 sl240 sl241 sl242 sl243 sl244 sl245 sl246 sl247 sl248 sl249 sl250 sl251 sl252 sl253 sl254 sl255 sl256 sl257 sl258 sl259 sl260 sl261 sl262 sl263 sl264 sl265 sl266 sl267 sl268 sl269 sl270 sl271 sl272 sl273 sl274 sl275 sl276 sl277 sl278 sl279 sl280 sl281 sl282 sl283 sl284 sl285 sl286 sl287 sl288 sl289 sl290 sl291 sl292 sl293 sl294 sl295 sl296 sl297 sl298 sl299 sl300 sl301 sl302 sl303 sl304 sl305 sl306 sl307 sl308 sl309 sl310 sl311 sl312 sl313 sl314 sl315 sl316 sl317 sl318 sl319 sl320 sl321 sl322 sl323 sl324 sl325 sl326 sl327 sl328 sl329 sl330 sl331 sl332 sl333 sl334 sl335 sl336 sl337 sl338 sl339 sl340 sl341 sl342 sl343 sl344 sl345 sl346 sl347 sl348 sl349 sl350 sl351 sl352 sl353 sl354 sl355 sl356 sl357 sl358 sl359 sl360 sl361 sl362 sl363 sl364 sl365 sl366 sl367 sl368 sl369 sl370 sl371 sl372 sl373 sl374 sl375 sl376 sl377 sl378 sl379 sl380 sl381 sl382 sl383 sl384 sl385 sl386 sl387 sl388 sl389 sl390 sl391 sl392 sl393 sl394 sl395 sl396 sl397 sl398 sl399 sl400 sl401 sl402 sl403 sl404 sl405 sl406 sl407 sl408 sl409 sl410 sl411 sl412 sl413 sl414 sl415 sl416 sl417 sl418 sl419 sl420 sl421 sl422 sl423 sl424 sl425 sl426 sl427 : Value) :
  (restOf Tryz.f4 11).wp Tryz.prog (bodyPost Tryz.prog Tryz.f4 fun e w' => e = .returned (.bool true) ∧ Below w.heap.size w w') ⟨List.toArray (sl0 :: sl1 :: .slice la Rs.length lc :: .slice va Vs.length vc :: .string ⟨t0.toArray⟩ :: .int .i64 cut :: sl6 :: .pointer (some ⟨w.heap.size, 0, none⟩) :: sl8 :: sl9 :: sl10 :: sl11 :: sl12 :: sl13 :: .pointer (some ⟨D, 0, none⟩) :: .pointer (some ⟨Y, 0, none⟩) :: .slice arv C.length crv :: sl17 :: sl18 :: sl19 :: sl20 :: sl21 :: sl22 :: sl23 :: sl24 :: sl25 :: sl26 :: sl27 :: sl28 :: sl29 :: sl30 :: sl31 :: sl32 :: sl33 :: sl34 :: sl35 :: sl36 :: sl37 :: sl38 :: sl39 :: sl40 :: sl41 :: sl42 :: sl43 :: sl44 :: sl45 :: sl46 :: sl47 :: sl48 :: sl49 :: sl50 :: sl51 :: sl52 :: sl53 :: sl54 :: sl55 :: sl56 :: sl57 :: sl58 :: sl59 :: sl60 :: sl61 :: sl62 :: sl63 :: sl64 :: sl65 :: sl66 :: sl67 :: sl68 :: sl69 :: sl70 :: sl71 :: sl72 :: sl73 :: sl74 :: sl75 :: sl76 :: sl77 :: sl78 :: sl79 :: sl80 :: sl81 :: sl82 :: sl83 :: sl84 :: sl85 :: sl86 :: sl87 :: sl88 :: sl89 :: sl90 :: sl91 :: sl92 :: sl93 :: sl94 :: sl95 :: sl96 :: sl97 :: sl98 :: sl99 :: sl100 :: sl101 :: sl102 :: sl103 :: sl104 :: sl105 :: sl106 :: sl107 :: sl108 :: sl109 :: sl110 :: sl111 :: sl112 :: sl113 :: sl114 :: sl115 :: sl116 :: sl117 :: sl118 :: sl119 :: sl120 :: sl121 :: sl122 :: sl123 :: sl124 :: sl125 :: sl126 :: sl127 :: sl128 :: sl129 :: sl130 :: sl131 :: sl132 :: sl133 :: sl134 :: sl135 :: sl136 :: sl137 :: sl138 :: sl139 :: sl140 :: sl141 :: sl142 :: sl143 :: sl144 :: sl145 :: sl146 :: sl147 :: sl148 :: sl149 :: sl150 :: sl151 :: sl152 :: sl153 :: sl154 :: sl155 :: sl156 :: sl157 :: sl158 :: sl159 :: sl160 :: sl161 :: sl162 :: sl163 :: sl164 :: sl165 :: sl166 :: sl167 :: sl168 :: sl169 :: sl170 :: sl171 :: sl172 :: sl173 :: sl174 :: sl175 :: sl176 :: sl177 :: sl178 :: sl179 :: sl180 :: sl181 :: sl182 :: sl183 :: sl184 :: sl185 :: sl186 :: sl187 :: sl188 :: sl189 :: sl190 :: sl191 :: sl192 :: sl193 :: sl194 :: sl195 :: sl196 :: sl197 :: sl198 :: sl199 :: sl200 :: sl201 :: sl202 :: sl203 :: sl204 :: sl205 :: sl206 :: sl207 :: sl208 :: sl209 :: sl210 :: sl211 :: sl212 :: sl213 :: sl214 :: sl215 :: sl216 :: sl217 :: sl218 :: sl219 :: sl220 :: sl221 :: sl222 :: sl223 :: sl224 :: sl225 :: sl226 :: sl227 :: sl228 :: sl229 :: sl230 :: sl231 :: sl232 :: sl233 :: sl234 :: sl235 :: sl236 :: sl237 :: sl238 :: sl239 :: sl240 :: sl241 :: sl242 :: sl243 :: sl244 :: sl245 :: sl246 :: sl247 :: sl248 :: sl249 :: sl250 :: sl251 :: sl252 :: sl253 :: sl254 :: sl255 :: sl256 :: sl257 :: sl258 :: sl259 :: sl260 :: sl261 :: sl262 :: sl263 :: sl264 :: sl265 :: sl266 :: sl267 :: sl268 :: sl269 :: sl270 :: sl271 :: sl272 :: sl273 :: sl274 :: sl275 :: sl276 :: sl277 :: sl278 :: sl279 :: sl280 :: sl281 :: sl282 :: sl283 :: sl284 :: sl285 :: sl286 :: sl287 :: sl288 :: sl289 :: sl290 :: sl291 :: sl292 :: sl293 :: sl294 :: sl295 :: sl296 :: sl297 :: sl298 :: sl299 :: sl300 :: sl301 :: sl302 :: sl303 :: sl304 :: sl305 :: sl306 :: sl307 :: sl308 :: sl309 :: sl310 :: sl311 :: sl312 :: sl313 :: sl314 :: sl315 :: sl316 :: sl317 :: sl318 :: sl319 :: sl320 :: sl321 :: sl322 :: sl323 :: sl324 :: sl325 :: sl326 :: sl327 :: sl328 :: sl329 :: sl330 :: sl331 :: sl332 :: sl333 :: sl334 :: sl335 :: sl336 :: sl337 :: sl338 :: sl339 :: sl340 :: sl341 :: sl342 :: sl343 :: sl344 :: sl345 :: sl346 :: sl347 :: sl348 :: sl349 :: sl350 :: sl351 :: sl352 :: sl353 :: sl354 :: sl355 :: sl356 :: sl357 :: sl358 :: sl359 :: sl360 :: sl361 :: sl362 :: sl363 :: sl364 :: sl365 :: sl366 :: sl367 :: sl368 :: sl369 :: sl370 :: sl371 :: sl372 :: sl373 :: sl374 :: sl375 :: sl376 :: sl377 :: sl378 :: sl379 :: sl380 :: sl381 :: sl382 :: sl383 :: sl384 :: sl385 :: sl386 :: sl387 :: sl388 :: sl389 :: sl390 :: sl391 :: sl392 :: sl393 :: sl394 :: sl395 :: sl396 :: sl397 :: sl398 :: sl399 :: sl400 :: sl401 :: sl402 :: sl403 :: sl404 :: sl405 :: sl406 :: sl407 :: sl408 :: sl409 :: sl410 :: sl411 :: sl412 :: sl413 :: sl414 :: sl415 :: sl416 :: sl417 :: sl418 :: sl419 :: sl420 :: sl421 :: sl422 :: sl423 :: sl424 :: sl425 :: sl426 :: sl427 :: []), []⟩ w4 := by
 conv => arg 2; whnf
 go_step
 go_step
 refine rexOwn w id0 ver0 ra rc vals0 t0 cut HVar HDb HRaw HCw hn1 ht HS200 Y af at' an as' N cf nt ct nk cn ns cs s HCs C arv crv hC5 HSD D Wd w4 S1 HNe yD K4 _ _ _ _ _ _ _ _ _ _ _ _ _ _ _ _ _ _ _ _ _ _ _ _ _ _ _ _ _ _ _ _ _ _ _ _ _ _ _ _ _ _ _ _ _ _ _ _ _ _ _ _ _ _ _ _ _ _ _ _ _ _ _ _ _ _ _ _ _ _ _ _ _ _ _ _ _ _ _ _ _ _ _ _ _ _ _ _ _ _ _ _ _ _ _ _ _ _ _ _ _ _ _ _ _ _ _ _ _ _ _ _ _ _ _ _ _ _ _ _ _ _ _ _ _ _ _ _ _ _ _ _ _ _ _ _ _ _ _ _ _ _ _ _ _ _ _ _ _ _ _ _ _ _ _ _ _ _ _ _ _ _ _ _ _ _ _ _ _ _ _ _ _ _ _ _ _ _ _ _ _ _ _ _ _ _ _ _ _ _ _ _ _ _ _ _ _ _ _ _ _ _ _ _ _ _ _ _ _ _ _ _ _ _ _ _ _ _ _ _ _ _ _ _ _ _ _ _ _ _ _ _ _ _ _ _ _ _ _ _ _ _ _ _ _ _ _ _ _ _ _ _ _ _ _ _ _ _ _ _ _ _ _ _ _ _ _ _ _ _ _ _ _ _ _ _ _ _ _ _ _ _ _ _ _ _ _ _ _ _ _ _ _ _ _ _ _ _ _ _ _ _ _ _ _ _ _ _ _ _ _ _ _ _ _ _ _ _ _ _ _ _ _ _ _ _ _ _ _ _ _ _ _ _ _ _ _ _ _ _ _ _ _ _ _ _ _ _ _ _ _ _ _ _ _ _ _ _ _ _ _ _ _ _ _ _ _ _ _ _ _ _ _ _ _ _ _ _ _ _ _ _ _ _ _ _ _ _ _ _ _ _ _ _ _ _ _ _ _ _ _ _ _ _ _ _ _ _ _ _ _ _ _ _ _ _ _ _ _ _ _ _ _ _ _ _ _ _ ?_
 intro tl0 tl1 tl6 tl8 tl9 tl10 tl11 tl12 tl13 tl17 tl18 tl19 tl20 tl21 tl22 tl23 tl24 tl25 tl26 tl27 tl28 tl29 tl30 tl31 tl32 tl33 tl34 tl35 tl36 tl37 tl38 tl39 tl40 tl41 tl42 tl43 tl44 tl45 tl46 tl47 tl48 tl49 tl50 tl51 tl52 tl53 tl54 tl55 tl56 tl57 tl58 tl59 tl60 tl61 tl62 tl63 tl64 tl65 tl66 tl67 tl68 tl69 tl70 tl71 tl72 tl73 tl74 tl75 tl76 tl77 tl78 tl79 tl80 tl81 tl82 tl83 tl84 tl85 tl86 tl87 tl88 tl89 tl90 tl91 tl92 tl93 tl94 tl95 tl96 tl97 tl98 tl99 tl100 tl101 tl102 tl103 tl104 tl105 tl106 tl107 tl108 tl109 tl110 tl111 tl112 tl113 tl114 tl115 tl116 tl117 tl118 tl119 tl120 tl121 tl122 tl123 tl124 tl125 tl126 tl127 tl128 tl129 tl130 tl131 tl132 tl133 tl134 tl135 tl136 tl137 tl138 tl139 tl140 tl141 tl142 tl143 tl144 tl145 tl146 tl147 tl148 tl149 tl150 tl151 tl152 tl153 tl154 tl155 tl156 tl157 tl158 tl159 tl160 tl161 tl162 tl163 tl164 tl165 tl166 tl167 tl168 tl169 tl170 tl171 tl172 tl173 tl174 tl175 tl176 tl177 tl178 tl179 tl180 tl181 tl182 tl183 tl184 tl185 tl186 tl187 tl188 tl189 tl190 tl191 tl192 tl193 tl194 tl195 tl196 tl197 tl198 tl199 tl200 tl201 tl202 tl203 tl204 tl205 tl206 tl207 tl208 tl209 tl210 tl211 tl212 tl213 tl214 tl215 tl216 tl217 tl218 tl219 tl220 tl221 tl222 tl223 tl224 tl225 tl226 tl227 tl228 tl229 tl230 tl231 tl232 tl233 tl234 tl235 tl236 tl237 tl238 tl239 tl240 tl241 tl242 tl243 tl244 tl245 tl246 tl247 tl248 tl249 tl250 tl251 tl252 tl253 tl254 tl255 tl256 tl257 tl258 tl259 tl260 tl261 tl262 tl263 tl264 tl265 tl266 tl267 tl268 tl269 tl270 tl271 tl272 tl273 tl274 tl275 tl276 tl277 tl278 tl279 tl280 tl281 tl282 tl283 tl284 tl285 tl286 tl287 tl288 tl289 tl290 tl291 tl292 tl293 tl294 tl295 tl296 tl297 tl298 tl299 tl300 tl301 tl302 tl303 tl304 tl305 tl306 tl307 tl308 tl309 tl310 tl311 tl312 tl313 tl314 tl315 tl316 tl317 tl318 tl319 tl320 tl321 tl322 tl323 tl324 tl325 tl326 tl327 tl328 tl329 tl330 tl331 tl332 tl333 tl334 tl335 tl336 tl337 tl338 tl339 tl340 tl341 tl342 tl343 tl344 tl345 tl346 tl347 tl348 tl349 tl350 tl351 tl352 tl353 tl354 tl355 tl356 tl357 tl358 tl359 tl360 tl361 tl362 tl363 tl364 tl365 tl366 tl367 tl368 tl369 tl370 tl371 tl372 tl373 tl374 tl375 tl376 tl377 tl378 tl379 tl380 tl381 tl382 tl383 tl384 tl385 tl386 tl387 tl388 tl389 tl390 tl391 tl392 tl393 tl394 tl395 tl396 tl397 tl398 tl399 tl400 tl401 tl402 tl403 tl404 tl405 tl406 tl407 tl408 tl409 tl410 tl411 tl412 tl413 tl414 tl415 tl416 tl417 tl418 tl419 tl420 tl421 tl422 tl423 tl424 tl425 tl426 tl427 wx hR
 obtain ⟨Z, own, oa, oc, rfl, hZ4, hZ, hov, hck, mv5⟩ := hR.out
 clear hR
 obtain ⟨oid, over, ovals⟩ := own
 dsimp only at hZ hov
 obtain ⟨w5, hw5⟩ : ∃ u, u = wx := ⟨_, rfl⟩
 subst hw5
 have K5 := Lib.hid (K4.out.moved mv5); have HRO5 := Lib.hid (HRO.out.moved mv5)
 have HZ := Lib.hid hZ; have HOV := Lib.hid hov; have HOw := Lib.hid (RawOk.of HCs.out hck)
 have HB5 := Lib.hid (K5.out.m.base HBd.out (by omega))
 have HRw := Lib.hid (show RawOk ⟨id0, ver0, vals0⟩ from ⟨hn1, HS200.out⟩)
 have z5 := mv5.size
 clear hZ hov hck mv5
 go_step
 go_step
 refine rexChecks w id0 ver0 ra rc vals0 t0 cut HVar HDb HRaw HCw hn1 ht HS200 Y af at' an as' N cf nt ct nk cn ns cs s HCs C arv crv hC5 Z oid over ovals oa oc HOw HRw D Wd w4 w5 S1 K5 HZ HOV HB5 _ _ _ _ _ _ _ _ _ _ _ _ _ _ _ _ _ _ _ _ _ _ _ _ _ _ _ _ _ _ _ _ _ _ _ _ _ _ _ _ _ _ _ _ _ _ _ _ _ _ _ _ _ _ _ _ _ _ _ _ _ _ _ _ _ _ _ _ _ _ _ _ _ _ _ _ _ _ _ _ _ _ _ _ _ _ _ _ _ _ _ _ _ _ _ _ _ _ _ _ _ _ _ _ _ _ _ _ _ _ _ _ _ _ _ _ _ _ _ _ _ _ _ _ _ _ _ _ _ _ _ _ _ _ _ _ _ _ _ _ _ _ _ _ _ _ _ _ _ _ _ _ _ _ _ _ _ _ _ _ _ _ _ _ _ _ _ _ _ _ _ _ _ _ _ _ _ _ _ _ _ _ _ _ _ _ _ _ _ _ _ _ _ _ _ _ _ _ _ _ _ _ _ _ _ _ _ _ _ _ _ _ _ _ _ _ _ _ _ _ _ _ _ _ _ _ _ _ _ _ _ _ _ _ _ _ _ _ _ _ _ _ _ _ _ _ _ _ _ _ _ _ _ _ _ _ _ _ _ _ _ _ _ _ _ _ _ _ _ _ _ _ _ _ _ _ _ _ _ _ _ _ _ _ _ _ _ _ _ _ _ _ _ _ _ _ _ _ _ _ _ _ _ _ _ _ _ _ _ _ _ _ _ _ _ _ _ _ _ _ _ _ _ _ _ _ _ _ _ _ _ _ _ _ _ _ _ _ _ _ _ _ _ _ _ _ _ _ _ _ _ _ _ _ _ _ _ _ _ _ _ _ _ _ _ _ _ _ _ _ _ _ _ _ _ _ _ _ _ _ _ _ _ _ _ _ _ _ _ _ _ _ _ _ _ _ _ _ _ _ _ _ _ _ _ _ _ _ _ _ _ _ _ _ _ _ _ _ _ _ _ _ _ _ _ _ _ ?_
 intro ul0 ul1 ul6 ul8 ul9 ul10 ul11 ul12 ul13 ul18 ul19 ul20 ul21 ul22 ul23 ul24 ul25 ul26 ul27 ul28 ul29 ul30 ul31 ul32 ul33 ul34 ul35 ul36 ul37 ul38 ul39 ul40 ul41 ul42 ul43 ul44 ul45 ul46 ul47 ul48 ul49 ul50 ul51 ul52 ul53 ul54 ul55 ul56 ul57 ul58 ul59 ul60 ul61 ul62 ul63 ul64 ul65 ul66 ul67 ul68 ul69 ul70 ul71 ul72 ul73 ul74 ul75 ul76 ul77 ul78 ul79 ul80 ul81 ul82 ul83 ul84 ul85 ul86 ul87 ul88 ul89 ul90 ul91 ul92 ul93 ul94 ul95 ul96 ul97 ul98 ul99 ul100 ul101 ul102 ul103 ul104 ul105 ul106 ul107 ul108 ul109 ul110 ul111 ul112 ul113 ul114 ul115 ul116 ul117 ul118 ul119 ul120 ul121 ul122 ul123 ul124 ul125 ul126 ul127 ul128 ul129 ul130 ul131 ul132 ul133 ul134 ul135 ul136 ul137 ul138 ul139 ul140 ul141 ul142 ul143 ul144 ul145 ul146 ul147 ul148 ul149 ul150 ul151 ul152 ul153 ul154 ul155 ul156 ul157 ul158 ul159 ul160 ul161 ul162 ul163 ul164 ul165 ul166 ul167 ul168 ul169 ul170 ul171 ul172 ul173 ul174 ul175 ul176 ul177 ul178 ul179 ul180 ul181 ul182 ul183 ul184 ul185 ul186 ul187 ul188 ul189 ul190 ul191 ul192 ul193 ul194 ul195 ul196 ul197 ul198 ul199 ul200 ul201 ul202 ul203 ul204 ul205 ul206 ul207 ul208 ul209 ul210 ul211 ul212 ul213 ul214 ul215 ul216 ul217 ul218 ul219 ul220 ul221 ul222 ul223 ul224 ul225 ul226 ul227 ul228 ul229 ul230 ul231 ul232 ul233 ul234 ul235 ul236 ul237 ul238 ul239 ul240 ul241 ul242 ul243 ul244 ul245 ul246 ul247 ul248 ul249 ul250 ul251 ul252 ul253 ul254 ul255 ul256 ul257 ul258 ul259 ul260 ul261 ul262 ul263 ul264 ul265 ul266 ul267 ul268 ul269 ul270 ul271 ul272 ul273 ul274 ul275 ul276 ul277 ul278 ul279 ul280 ul281 ul282 ul283 ul284 ul285 ul286 ul287 ul288 ul289 ul290 ul291 ul292 ul293 ul294 ul295 ul296 ul297 ul298 ul299 ul300 ul301 ul302 ul303 ul304 ul305 ul306 ul307 ul308 ul309 ul310 ul311 ul312 ul313 ul314 ul315 ul316 ul317 ul318 ul319 ul320 ul321 ul322 ul323 ul324 ul325 ul326 ul327 ul328 ul329 ul330 ul331 ul332 ul333 ul334 ul335 ul336 ul337 ul338 ul339 ul340 ul341 ul342 ul343 ul344 ul345 ul346 ul347 ul348 ul349 ul350 ul351 ul352 ul353 ul354 ul355 ul356 ul357 ul358 ul359 ul360 ul361 ul362 ul363 ul364 ul365 ul366 ul367 ul368 ul369 ul370 ul371 ul372 ul373 ul374 ul375 ul376 ul377 ul378 ul379 ul380 ul381 ul382 ul383 ul384 ul385 ul386 ul387 ul388 ul389 ul390 ul391 ul392 ul393 ul394 ul395 ul396 ul397 ul398 ul399 ul400 ul401 ul402 ul403 ul404 ul405 ul406 ul407 ul408 ul409 ul410 ul411 ul412 ul413 ul414 ul415 ul416 ul417 ul418 ul419 ul420 ul421 ul422 ul423 ul424 ul425 ul426 ul427 wx hR
 have hb6 := hR.out
 clear hR
 have zZ := lt_of_blk HZ.out
 have K6 := Lib.hid (K5.out.below hb6); have HRO6 := Lib.hid (HRO5.out.moved ((Moved.start K5.out.m.deck).below hb6)); have HZ6 := Lib.hid (blk_below hb6 zZ HZ.out); have HOV6 := Lib.hid (HOV.out.below hb6)
 have z6 := hb6.size
 clear hb6
 go_step
 exact rex14 w id0 ver0 ra rc vals0 t0 cut HVar HDb HRaw HCw hn1 ht HS200 Y af at' an as' N cf nt ct nk cn ns cs s HCs C arv crv hC5 Z oid over ovals oa oc HOw la lc Rs HList hn2 HAll va vc Vs HVals hn3 HV200 HRw D idc Wd Wc w4 S1 zDD zcd HG4 HSm HBc zX zY zwD hZ4 HBd _ (by omega) K6 HRO6 HZ6 HOV6 _ _ _ _ _ _ _ _ _ _ _ _ _ _ _ _ _ _ _ _ _ _ _ _ _ _ _ _ _ _ _ _ _ _ _ _ _ _ _ _ _ _ _ _ _ _ _ _ _ _ _ _ _ _ _ _ _ _ _ _ _ _ _ _ _ _ _ _ _ _ _ _ _ _ _ _ _ _ _ _ _ _ _ _ _ _ _ _ _ _ _ _ _ _ _ _ _ _ _ _ _ _ _ _ _ _ _ _ _ _ _ _ _ _ _ _ _ _ _ _ _ _ _ _ _ _ _ _ _ _ _ _ _ _ _ _ _ _ _ _ _ _ _ _ _ _ _ _ _ _ _ _ _ _ _ _ _ _ _ _ _ _ _ _ _ _ _ _ _ _ _ _ _ _ _ _ _ _ _ _ _ _ _ _ _ _ _ _ _ _ _ _ _ _ _ _ _ _ _ _ _ _ _ _ _ _ _ _ _ _ _ _ _ _ _ _ _ _ _ _ _ _ _ _ _ _ _ _ _ _ _ _ _ _ _ _ _ _ _ _ _ _ _ _ _ _ _ _ _ _ _ _ _ _ _ _ _ _ _ _ _ _ _ _ _ _ _ _ _ _ _ _ _ _ _ _ _ _ _ _ _ _ _ _ _ _ _ _ _ _ _ _ _ _ _ _ _ _ _ _ _ _ _ _ _ _ _ _ _ _ _ _ _ _ _ _ _ _ _ _ _ _ _ _ _ _ _ _ _ _ _ _ _ _ _ _ _ _ _ _ _ _ _ _ _ _ _ _ _ _ _ _ _ _ _ _ _ _ _ _ _ _ _ _ _ _ _ _ _ _ _ _ _ _ _ _ _ _ _ _ _ _ _ _ _ _ _ _ _ _ _ _ _ _ _ _ _ _ _ _ _ _ _ _ _ _ _ _ _ _ _ _ _ _ _ _ _ _ _
end
section
set_option maxRecDepth 100000
open Go.RowKit Go.WideShapes Go.ChangeShapes Go.Joins
/-- a row that came in reads as a list -/
theorem vec_in {α : Type} {w : World} {a : Addr} {len cap k : Nat} {enc : α → List Value} (g : Nat → α) (hk : ∀ x, (enc x).length = k) (hk0 : 0 < k) (hl : len ≤ cap)
  (hc : ∀ i, i < len → ∀ j u, (enc (g i))[j]? = some u → w.cell? (a.add (i * k + j)) = some u) : Vec w Any1 k enc (.slice (some a) len cap) ((List.range len).map g) := by
 refine ⟨some a, cap, by simp, by simpa using hl, fun h0 => ?_⟩
 have h0 : 0 < len := by simpa using h0
 obtain ⟨b, off, spot⟩ := a
 obtain ⟨u, hu⟩ : ∃ u, (enc (g 0))[0]? = some u := ⟨_, List.getElem?_eq_getElem (by rw [hk]; exact hk0)⟩
 have c0 := hc 0 h0 0 u hu
 have hs : spot = none := by
  cases spot with
  | none => rfl
  | some s =>
   exfalso
   have he : ((⟨b, off, some s⟩ : Addr).add (0 * k + 0)).spot.isSome = true := by unfold Addr.add; split <;> simp_all
   unfold World.cell? at c0
   split at c0
   ·rw [if_pos he] at c0; cases c0
   ·cases c0
 subst hs
 refine ⟨b, off, rfl, trivial, ?_, fun j x hj i u hu => ?_⟩
 ·rw [add_plain] at c0; exact World.block_lt_of_cell? _ _ c0
 ·have hjl : j < len := by have := (List.getElem?_eq_some_iff.1 hj).1; simpa using this
  rw [List.getElem?_map, List.getElem?_range hjl] at hj
  obtain rfl := Option.some.inj hj
  have := hc j hjl i u hu
  rw [add_plain] at this
  rw [Nat.add_assoc]; exact this
def bytesOf (v : Value) : List UInt8 := match v with | .string s => s.data.toList | _ => []
theorem bytesOf_mk (s : ByteArray) : Value.string s = strV (bytesOf (.string s)) := by
 show Value.string s = .string ⟨s.data.toList.toArray⟩
 simp
section
variable {H : Type} {enc : TypeId × Value → H} {W : World} {base : Nat} {spare : Nat → Bool} {held : Bool}
theorem in_strs {fuel : Nat} {cs : List Value} {x : DataW H × List MemPlace} (h : DataW.trod enc Tryz.prog W base spare held fuel 28 cs = some x) : ∃ v L, cs = [v] ∧ Vec W Any1 1 encS v L := by
 rcases Go.Deep.open_strs Tryz.underlying28 Tryz.underlying9 (by kernel_rfl) h with ⟨rfl, _⟩ | ⟨a, len, cap, m, Sx, rfl, _, hl, _, hm, _, hx⟩
 ·exact ⟨_, [], rfl, Vec.nil _ _ _ _⟩
 ·have hlm : len ≤ m := by rw [hm]; split <;> omega
  refine ⟨_, _, rfl, vec_in (fun i => (Sx i).data.toList) (fun _ => rfl) (by omega) hl fun i hi j u hu => ?_⟩
  cases j with
  | zero => cases hu; rw [Nat.mul_one]; rw [show strV (Sx i).data.toList = .string (Sx i) from (bytesOf_mk _).symm]; exact (hx i (by omega)).1
  | succ j => simp [encS] at hu
end
end
section
set_option maxRecDepth 100000
open Go.RowKit Go.WideShapes Go.ChangeShapes Go.Joins
instance : Inhabited RV := ⟨⟨0, 0, none, 0, 0, []⟩⟩
section
variable {H : Type} {enc : TypeId × Value → H} {W : World} {base : Nat} {spare : Nat → Bool} {held : Bool}
theorem in_rec {fuel : Nat} {cs : List Value} {x : DataW H × List MemPlace} (h : DataW.trod enc Tryz.prog W base spare held fuel 44 cs = some x) (hl : cs.length = 3) :
  ∃ r : RV, cs = [.int .i64 r.id, .int .i64 r.ver, .slice r.a r.n r.c] ∧ Vec W Any1 1 encS (.slice r.a r.n r.c) r.vals := by
 obtain ⟨c0, c1, c2, rfl⟩ : ∃ c0 c1 c2, cs = [c0, c1, c2] := by
  match cs, hl with
  | [c0, c1, c2], _ => exact ⟨c0, c1, c2, rfl⟩
 obtain ⟨xs, n, _, _, _, hlen, hx⟩ := DataW.trod_struct Tryz.underlying44 h
 have h0 := hx 0 _ rfl
 have h1 := hx 1 _ rfl
 have h2 := hx 2 _ rfl
 rw [List.getElem?_eq_getElem (by rw [hlen]; decide)] at h0 h1 h2
 obtain ⟨s0, e0, _⟩ := DataW.trod_int Tryz.underlying3 h0
 obtain ⟨s1, e1, _⟩ := DataW.trod_int Tryz.underlying3 h1
 obtain ⟨xs2, L, e2, hL⟩ := in_strs h2
 have k3 : Tryz.prog.cellsOf 3 = 1 := by kernel_rfl
 have k28 : Tryz.prog.cellsOf 28 = 1 := by kernel_rfl
 simp [k3, k28] at e0 e1 e2
 obtain ⟨va, vc, ev⟩ := hL.slice
 exact ⟨⟨s0, s1, va, L.length, vc, L⟩, by rw [e0, e1, e2, ev], by rw [← ev]; exact hL⟩
theorem in_recs {fuel : Nat} {cs : List Value} {x : DataW H × List MemPlace} (h : DataW.trod enc Tryz.prog W base spare held fuel 35 cs = some x) : ∃ v R, cs = [v] ∧ RecsVec W Any1 v R := by
 rcases Go.Deep.open_slice Tryz.underlying35 h with ⟨rfl, _⟩ | ⟨a, len, cap, m, n, D, Pl, rfl, _, hl, _, hmm, _, hx⟩
 ·exact ⟨_, [], rfl, [], Vec.nil _ _ _ _, rfl, fun n h => by simp at h⟩
 ·have hlm : len ≤ m := by rw [hmm]; split <;> omega
  have ce : Tryz.prog.cellsOf 44 = 3 := by kernel_rfl
  have each : ∀ i, i < len → ∃ q : RV, (∀ j u, (encRV q)[j]? = some u → W.cell? (a.add (i * 3 + j)) = some u) ∧ Vec W Any1 1 encS (.slice q.a q.n q.c) q.vals := by
   intro i hi
   obtain ⟨cs', h1, h2⟩ := hx i (by omega)
   rw [ce] at h1
   obtain ⟨_, hlen, hcell⟩ := World.cells?_some h1
   obtain ⟨q, rfl, hv⟩ := in_rec h2 hlen
   refine ⟨q, fun j u hu => ?_, hv⟩
   have hj : j < 3 := by have := (List.getElem?_eq_some_iff.1 hu).1; simpa using this
   have e0 := hcell j (by omega)
   rw [Go.Deep.add_add] at e0
   rw [← hu]
   exact e0
  obtain ⟨q, hq⟩ := Go.Deep.choose_lt each
  refine ⟨_, ((List.range len).map q).map pR, rfl, (List.range len).map q, ?_, rfl, fun y hy => ?_⟩
  ·exact vec_in (k := 3) (enc := encRV) q (fun _ => rfl) (by omega) hl fun i hi j u hu => (hq i hi).1 j u hu
  ·obtain ⟨i, hi, rfl⟩ := List.mem_map.1 hy
   exact (hq i (by simpa using hi)).2
theorem open_records {r : Reach} {b0 : Nat} {v : Value} {d : DataW H} {ps : List MemPlace} (hv : Value.okWide Tryz.prog W r b0 35 v) (h : DataW.Trod enc Tryz.prog W base spare held 35 v d ps) : ∃ R, RecsVec W Any1 v R := by
 obtain ⟨a, len, cap, rfl⟩ := okWide_slice Tryz.underlying35 hv
 obtain ⟨fuel, hf⟩ := h
 obtain ⟨u, R, e, hk⟩ := in_recs hf
 simp [Value.cells] at e
 exact ⟨R, by rw [e]; exact hk⟩
theorem open_strs2 {r : Reach} {b0 : Nat} {v : Value} {d : DataW H} {ps : List MemPlace} (hv : Value.okWide Tryz.prog W r b0 28 v) (h : DataW.Trod enc Tryz.prog W base spare held 28 v d ps) : ∃ L, Vec W Any1 1 encS v L := by
 obtain ⟨a, len, cap, rfl⟩ := okWide_slice Tryz.underlying28 hv
 obtain ⟨fuel, hf⟩ := h
 obtain ⟨u, L, e, hk⟩ := in_strs hf
 simp [Value.cells] at e
 exact ⟨L, by rw [e]; exact hk⟩
theorem open_record {r : Reach} {b0 : Nat} {v : Value} {d : DataW H} {ps : List MemPlace} (hv : Value.okWide Tryz.prog W r b0 44 v) (h : DataW.Trod enc Tryz.prog W base spare held 44 v d ps) :
  ∃ (id ver : Int) (sv : Value) (vals : List (List UInt8)), v = .agg #[.int .i64 id, .int .i64 ver, sv] ∧ Vec W Any1 1 encS sv vals := by
 obtain ⟨cs, rfl, hsz⟩ := okWide_struct Tryz.underlying44 hv
 obtain ⟨c0, c1, c2, rfl⟩ := array3 (hsz.trans (by kernel_rfl))
 obtain ⟨fuel, hf⟩ := h
 obtain ⟨xs, n, _, _, _, hlen, hx⟩ := DataW.trod_struct Tryz.underlying44 hf
 have h0 := hx 0 _ rfl
 have h1 := hx 1 _ rfl
 have h2 := hx 2 _ rfl
 rw [List.getElem?_eq_getElem (by rw [hlen]; decide)] at h0 h1 h2
 simp only [Value.cells] at h0 h1 h2
 obtain ⟨s0, e0, _⟩ := DataW.trod_int Tryz.underlying3 h0
 obtain ⟨s1, e1, _⟩ := DataW.trod_int Tryz.underlying3 h1
 obtain ⟨xs2, L, e2, hL⟩ := in_strs h2
 have k3 : Tryz.prog.cellsOf 3 = 1 := by kernel_rfl
 have k28 : Tryz.prog.cellsOf 28 = 1 := by kernel_rfl
 simp [k3, k28] at e0 e1 e2
 exact ⟨s0, s1, c2, L, by rw [e0, e1], by rw [e2]; exact hL⟩
end
end
section
open Go
theorem handed_shaped {H : Type} {enc : TypeId × Value → H} {a : Assume} {C : Checked} {os : Os} {f : FuncId} {fn : Func} {s : ChangeSpec} {conds : List PathCond} {apart fresh handsOn again : Bool} {X : World → Array Value → Prop}
    (hX : ∀ (w w' : World) (args : Array Value), w.heap = w'.heap → X w args → X w' args)
    (own : ownKnob C.prog.godebug = none) (started : os.Started) (noInit : C.prog.inits.idxOf? f = none) (hfn : C.prog.funcs[f]? = some fn)
    (witness : ∃ (w : World) (tape : Tape) (i : Input), w.os = os ∧ (w.forCall tape i).Shaped C.prog ∧ i.vars = [] ∧ Input.okWide C.prog (w.forCall tape i) .any w.heap.size f i ∧
      ((s.pre enc C.prog fn conds apart (w.forCall tape i).memory i.args ∧ X (w.forCall tape i).memory i.args) ∧ sizedMet enc C.prog fn (OpenSpec.ofChange s) apart (w.forCall tape i).memory i.args) ∧ a.holds C.prog (lone (Frame.enter C.prog f i.args .normal) [] (w.forCall tape i)))
    (contract : ∀ (W : World) (base : Nat) (args : Array Value) (ds gs : List (DataW H)) (before : List MemPlace),
      (∀ (j : Nat) t v, fn.params[j]? = some t → args[j]? = some v → Value.okWide C.prog W .any base t v) →
      DataW.Whole enc C.prog fn.params.toList s.vars apart W args.toList ds gs before →
      X W args → W.ShapedOpen C.prog →
      Calls C.prog f args W fun e W' => ∃ v, e = .returned v ∧ s.post enc C.prog fn apart fresh handsOn again W args v W') :
    ReturnsInHanded a C os f .any (fun w args => (s.pre enc C.prog fn conds apart w args ∧ X w args) ∧ sizedMet enc C.prog fn (OpenSpec.ofChange s) apart w args) (s.post enc C.prog fn apart fresh handsOn again) := by
  refine returnsInHanded_of_calls own started noInit witness ?_
  intro w tape i _ hsh _ hok hpre hholds
  obtain ⟨_, _, _, fn', hfn', _, _, _, _, hval⟩ := hok
  obtain rfl : fn' = fn := Option.some.inj (hfn'.symm.trans hfn)
  obtain ⟨⟨⟨ds, gs, before, hw, hc⟩, hx⟩, hz⟩ := hpre
  refine (contract (w.forCall tape i) w.heap.size i.args ds gs before hval (DataW.Whole.of_heap (w' := w.forCall tape i) (by rfl) hw) (hX _ _ _ (by rfl) hx) hsh).mono fun e W' ⟨v, he, hp⟩ => ?_
  subst he
  exact ChangeSpec.post_blind hp
end
section
set_option maxRecDepth 100000
open Go Go.RowKit
theorem laid_at {P : Program} {w : World} : ∀ {l : List (String × DataW Unit)} {ps : List MemPlace}, DataW.LaidVars P w l ps → ∀ (i : Nat) (n : String) (d : DataW Unit), l[i]? = some (n, d) → ∃ g t cs fuel p, P.globalNamed n = some g ∧ (P.globals[g]?).map (·.type) = some t ∧ w.var? P n = some cs ∧ DataW.trod (fun _ => ()) P w 0 (fun _ => true) false fuel t cs.toList = some (d, p)
 | [], ps, h, i, n, d, hi => by simp at hi
 | (m, e) :: r, ps, h, 0, n, d, hi => by
  obtain ⟨g, t, cs, fuel, p, q, h1, h2, h3, h4, _, _⟩ := h
  simp at hi
  obtain ⟨rfl, rfl⟩ := hi
  exact ⟨g, t, cs, fuel, p, h1, h2, h3, h4⟩
 | (m, e) :: r, ps, h, i + 1, n, d, hi => by
  obtain ⟨g, t, cs, fuel, p, q, _, _, _, _, h5, _⟩ := h
  exact laid_at h5 i n d (by simpa using hi)
theorem tab_give {P : Program} {w : World} {l : List (String × DataW Unit)} {ps : List MemPlace} (h : DataW.LaidVars P w l ps) {i : Nat} {name : String} {k : IntKind} {zs : List Int} (hi : l[i]? = some (name, Lib.tabData k zs)) {g : Nat} {t e : TypeId} {n : Nat}
  (hg : P.globalNamed name = some g) (hty : (P.globals[g]?).map (·.type) = some t) (ht : P.underlying t = some (.array n e)) (he : P.underlying e = some (.int k)) (hce : P.cellsOf e = 1) (hct : P.cellsOf t = n) : Lib.TabIs P w name k zs := by
 obtain ⟨g', t', cs, fuel, p, hg', ht', hvar, hd⟩ := laid_at h i _ _ hi
 obtain rfl := Option.some.inj (hg.symm.trans hg')
 obtain rfl := Option.some.inj (hty.symm.trans ht')
 unfold Lib.TabIs
 rw [hvar, ← Lib.cells_of_tab ht he hce hct hd]
theorem iface_give {P : Program} {w : World} {l : List (String × DataW Unit)} {ps : List MemPlace} (h : DataW.LaidVars P w l ps) {i : Nat} {name nm : String} {d : DataW Unit} (hi : l[i]? = some (name, .iface nm d)) {g : Nat} {t : TypeId} {ms : Array (String × TypeId)}
  (hg : P.globalNamed name = some g) (hty : (P.globals[g]?).map (·.type) = some t) (ht : P.underlying t = some (.interface ms)) : IfaceAt w g := by
 obtain ⟨g', t', cs, fuel, p, hg', ht', hvar, hd⟩ := laid_at h i _ _ hi
 obtain rfl := Option.some.inj (hg.symm.trans hg')
 obtain rfl := Option.some.inj (hty.symm.trans ht')
 obtain ⟨_, u, v, hcs, _, _⟩ := iface_of_trod ht hd
 have := World.var?_cell hg hvar 0
 refine ⟨.iface u v, ?_, .inr ⟨u, v, rfl⟩⟩
 rw [this, ← Array.getElem?_toList, hcs]; rfl
theorem vars_give {l : List (String × DataW Unit)} {W : World} (hsh : W.ShapedOpen Tryz.prog) (hl : laidMetH Tryz.prog l W) (hp : (l.all fun x => x.2.handleName?.isNone) = true) (i : Nat) (hi : l[i]? = some ("internal/strconv.uint64pow10", Lib.tabData .u64 Lib.pow10Tab))
  (j : Nat) {n1 : String} {d1 : DataW Unit} (hj : l[j]? = some ("strconv.ErrSyntax", .iface n1 d1)) (k : Nat) {n2 : String} {d2 : DataW Unit} (hk : l[k]? = some ("strconv.ErrRange", .iface n2 d2)) : VarsAt W := by
 rw [MakeChecks.laidMetH_plain _ _ _ hp] at hl
 obtain ⟨ps, h, _, _⟩ := hl
 refine ⟨tab_give h hi (g := 1) (by kernel_rfl) (by kernel_rfl) Tryz.underlying187 (by kernel_rfl) (by kernel_rfl) (by kernel_rfl), ?_, ?_, Tryz.laysM145.s1_3 W hsh⟩
 ·exact iface_give h hj (by kernel_rfl) (by kernel_rfl) Tryz.underlying73
 ·exact iface_give h hk (by kernel_rfl) (by kernel_rfl) Tryz.underlying73
def dbTab : List Int := [0, 1, 56, 2, 57, 49, 28, 3, 61, 58, 42, 50, 38, 29, 17, 4, 62, 47, 59, 36, 45, 43, 51, 22, 53, 39, 33, 30, 24, 18, 12, 5, 63, 55, 48, 27, 60, 41, 37, 16, 46, 35, 44, 21, 52, 32, 23, 11, 54, 26, 40, 15, 34, 20, 31, 10, 25, 14, 19, 9, 13, 8, 7, 6]
theorem db_give {l : List (String × DataW Unit)} {W : World} (hl : laidMetH Tryz.prog l W) (hp : (l.all fun x => x.2.handleName?.isNone) = true) (i : Nat) (hi : l[i]? = some ("math/bits.deBruijn64tab", Lib.tabData .u8 dbTab)) : DbAt W := by
 rw [MakeChecks.laidMetH_plain _ _ _ hp] at hl
 obtain ⟨ps, h, _, _⟩ := hl
 have ht : Lib.TabIs Tryz.prog W "math/bits.deBruijn64tab" .u8 dbTab := tab_give h hi (g := 5) (by kernel_rfl) (by kernel_rfl) Tryz.underlying228 (by kernel_rfl) (by kernel_rfl) (by kernel_rfl)
 have := ht.cell (g := 5) (by kernel_rfl) 15 (by decide)
 exact this
end
end Go.Proofs.YthnfmolkppbbpaaGreatDoor
