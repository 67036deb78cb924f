/- Parts of one proof: EexOwn, EexTail, Handed, HexNum, VarsGive. -/
import Derived.Test.YtpmpdonccgcehaaGreatDoorPartEx9
import Derived.Handed
import Derived.HandedShaped
import Derived.WalkArith
import Derived.Laws.IdiomStrings
import Derived.MakeChecks
import Derived.LaidLaws
set_option maxHeartbeats 16000000
set_option maxRecDepth 100000
open Go.Proofs.Tryz
set_option linter.unusedSimpArgs false
set_option linter.unusedVariables false
namespace Go.Proofs.YtpmpdonccgcehaaGreatDoor
section
open Go.RowKit Cal
attribute [local go_sem] zah zaj zar zaq
theorem eexOwn (w:World) (D Y:Nat) (W0:World) (key:Int × Int) (r:RecL) (ra:Option Addr) (rc:Nat) (o:EncL) (oa:Option Addr) (oc:Nat) (S:Nat→Prop) (af at' an as':Option Addr) (N cf nt ct nk cn ns cs:Nat) (s:SchemaL) (HSD:Hid (SchemaD s)) (HN:Hid (s.fields.length = N)) (arv:Option Addr) (crv:Nat) (R:List RecL) (hN1:1≤N) (hN5:N≤4) (HRr:Hid (ShortR r)) (hR4:R.length≤4) (HRR:Hid (∀ q∈R,ShortR q)) (HSO:Hid (SmallE o)) (wr:World) (K0:Hid (EX D w.heap.size Y W0 key r ra rc o oa oc S (.slice af N cf) (.slice at' nt ct) (.slice an nk cn) (.slice as' ns cs) s (.slice arv R.length crv) R wr)) (sl0 sl1 sl2 sl3 sl4 sl5 sl6 sl7 sl8 sl9 sl11 sl12 sl13 sl14 sl15 sl16 sl20 sl21 sl22 sl23 sl24 sl25 sl26 sl27 sl28 sl29 sl30 sl31 sl32 sl33 sl34 sl35 sl36 sl37 sl38 sl39 sl40 sl41 sl42 sl43 sl44 sl45 sl46 sl47 sl48 sl49 sl50 sl51 sl52 sl53 sl54 sl55 sl56 sl57 sl58 sl59 sl60 sl61 sl62 sl63 sl64 sl65 sl66 sl67 sl68 sl69 sl70 sl71 sl72 sl73 sl74 sl75 sl76 sl77 sl78 sl79 sl80 sl81 sl82 sl83 sl84 sl85 sl86 sl87 sl88 sl89 sl90 sl91 sl92 sl93 sl94 sl95 sl96 sl97 sl98 sl99 sl100 sl101 sl102 sl103 sl104 sl105 sl106 sl107 sl108 sl109 sl110 sl111 sl112 sl113 sl114 sl115 sl116 sl117 sl118 sl119 sl120 sl121 sl122 sl123 sl124 sl125 sl126 sl127 sl128 sl129 sl130 sl131 sl132 sl133 sl134 sl135 sl136 sl137 sl138 sl139 sl140 sl141 sl142 sl143 sl144 sl145 sl146 sl147 sl148 sl149 sl150 sl151 sl152 sl153 sl154 sl155 sl156 sl157 sl158 sl159 sl160 sl161 sl162 sl163 sl164 sl165 sl166 sl167 sl168 sl169 sl170 sl171 sl172 sl173 sl174 sl175 sl176 sl177 sl178 sl179 sl180 sl181 sl182 sl183 sl184 sl185 sl186 sl187 sl188 sl189 sl190 sl191 sl192 sl193 sl194 sl195 sl196 sl197 sl198 sl199 sl200 sl201 sl202 sl203 sl204 sl205 sl206 sl207 sl208 sl209 sl210 sl211 sl212 sl213 sl214 sl215 sl216 sl217 sl218 sl219 sl220 sl221 sl222 sl223 sl224 sl225 sl226 sl227 sl228 sl229 sl230 sl231 sl232 sl233 sl234 sl235 sl236 sl237 sl238 sl239 sl240 sl241 sl242 sl243 sl244 sl245 sl246 sl247 sl248 sl249 sl250 sl251 sl252 sl253 sl254 sl255 sl256 sl257 sl258 sl259 sl260 sl261 sl262 sl263 sl264 sl265 sl266 sl267 sl268 sl269 sl270 sl271 sl272 sl273 sl274 sl275 sl276 sl277 sl278 sl279 sl280 sl281 sl282 sl283 sl284 sl285 sl286 sl287 sl288 sl289 sl290 sl291 sl292 sl293 sl294 sl295 sl296 sl297 sl298 sl299 sl300 sl301 sl302 sl303 sl304 sl305 sl306 sl307 sl308 sl309 sl310 sl311 sl312 sl313 sl314 sl315 sl316 sl317 sl318 sl319 sl320 sl321 sl322 sl323 sl324 sl325 sl326 sl327 sl328 sl329 sl330 sl331 sl332 sl333 sl334 sl335 sl336 sl337 sl338 sl339 sl340 sl341 sl342 sl343 sl344 sl345 sl346 sl347 sl348 sl349 sl350 sl351 sl352:Value) (K:Act→World→Prop) (Q':Exit→Act→World→Prop)
  (hK:∀ (tl0 tl1 tl2 tl3 tl4 tl8 tl9 tl11 tl13 tl14 tl15 tl16 tl20 tl21 tl22 tl23 tl24 tl25 tl26 tl27 tl28 tl29 tl30 tl31 tl32 tl33 tl34 tl35 tl36 tl37 tl38 tl39 tl40 tl41 tl42 tl43 tl44 tl45 tl46 tl47 tl48 tl49 tl50 tl51 tl52 tl53 tl54 tl55 tl56 tl57 tl58 tl59 tl60 tl61 tl62 tl63 tl64 tl65 tl66 tl67 tl68 tl69 tl70 tl71 tl72 tl73 tl74 tl75 tl76 tl77 tl78 tl79 tl80 tl81 tl82 tl83 tl84 tl85 tl86 tl87 tl88 tl89 tl90 tl91 tl92 tl93 tl94 tl95 tl96 tl97 tl98 tl99 tl100 tl101 tl102 tl103 tl104 tl105 tl106 tl107 tl108 tl109 tl110 tl111 tl112 tl113 tl114 tl115 tl116 tl117 tl118 tl119 tl120 tl121 tl122 tl123 tl124 tl125 tl126 tl127 tl128 tl129 tl130 tl131 tl132 tl133 tl134 tl135 tl136 tl137 tl138 tl139 tl140 tl141 tl142 tl143 tl144 tl145 tl146 tl147 tl148 tl149 tl150 tl151 tl152 tl153 tl154 tl155 tl156 tl157 tl158 tl159 tl160 tl161 tl162 tl163 tl164 tl165 tl166 tl167 tl168 tl169 tl170 tl171 tl172 tl173 tl174 tl175 tl176 tl177 tl178 tl179 tl180 tl181 tl182 tl183 tl184 tl185 tl186 tl187 tl188 tl189 tl190 tl191 tl192 tl193 tl194 tl195 tl196 tl197 tl198 tl199 tl200 tl201 tl202 tl203 tl204 tl205 tl206 tl207 tl208 tl209 tl210 tl211 tl212 tl213 tl214 tl215 tl216 tl217 tl218 tl219 tl220 tl221 tl222 tl223 tl224 tl225 tl226 tl227 tl228 tl229 tl230 tl231 tl232 tl233 tl234 tl235 tl236 tl237 tl238 tl239 tl240 tl241 tl242 tl243 tl244 tl245 tl246 tl247 tl248 tl249 tl250 tl251 tl252 tl253 tl254 tl255 tl256 tl257 tl258 tl259 tl260 tl261 tl262 tl263 tl264 tl265 tl266 tl267 tl268 tl269 tl270 tl271 tl272 tl273 tl274 tl275 tl276 tl277 tl278 tl279 tl280 tl281 tl282 tl283 tl284 tl285 tl286 tl287 tl288 tl289 tl290 tl291 tl292 tl293 tl294 tl295 tl296 tl297 tl298 tl299 tl300 tl301 tl302 tl303 tl304 tl305 tl306 tl307 tl308 tl309 tl310 tl311 tl312 tl313 tl314 tl315 tl316 tl317 tl318 tl319 tl320 tl321 tl322 tl323 tl324 tl325 tl326 tl327 tl328 tl329 tl330 tl331 tl332 tl333 tl334 tl335 tl336 tl337 tl338 tl339 tl340 tl341 tl342 tl343 tl344 tl345 tl346 tl347 tl348 tl349 tl350 tl351 tl352:Value) (wx:World),Hid (ROwnE D wr tl38 wx)→K ⟨List.toArray (tl0::tl1::tl2::tl3::tl4::sl5::sl6::sl7::tl8::tl9::.pointer (some ⟨w.heap.size,0,none⟩) :: tl11::sl12::tl13::tl14::tl15::tl16::.pointer (some ⟨D,0,none⟩) :: .pointer (some ⟨Y,0,none⟩) :: .int .i64 N::tl20::tl21::tl22::tl23::tl24::tl25::tl26::tl27::tl28::tl29::tl30::tl31::tl32::tl33::tl34::tl35::tl36::tl37::tl38::tl39::tl40::tl41::tl42::tl43::tl44::tl45::tl46::tl47::tl48::tl49::tl50::tl51::tl52::tl53::tl54::tl55::tl56::tl57::tl58::tl59::tl60::tl61::tl62::tl63::tl64::tl65::tl66::tl67::tl68::tl69::tl70::tl71::tl72::tl73::tl74::tl75::tl76::tl77::tl78::tl79::tl80::tl81::tl82::tl83::tl84::tl85::tl86::tl87::tl88::tl89::tl90::tl91::tl92::tl93::tl94::tl95::tl96::tl97::tl98::tl99::tl100::tl101::tl102::tl103::tl104::tl105::tl106::tl107::tl108::tl109::tl110::tl111::tl112::tl113::tl114::tl115::tl116::tl117::tl118::tl119::tl120::tl121::tl122::tl123::tl124::tl125::tl126::tl127::tl128::tl129::tl130::tl131::tl132::tl133::tl134::tl135::tl136::tl137::tl138::tl139::tl140::tl141::tl142::tl143::tl144::tl145::tl146::tl147::tl148::tl149::tl150::tl151::tl152::tl153::tl154::tl155::tl156::tl157::tl158::tl159::tl160::tl161::tl162::tl163::tl164::tl165::tl166::tl167::tl168::tl169::tl170::tl171::tl172::tl173::tl174::tl175::tl176::tl177::tl178::tl179::tl180::tl181::tl182::tl183::tl184::tl185::tl186::tl187::tl188::tl189::tl190::tl191::tl192::tl193::tl194::tl195::tl196::tl197::tl198::tl199::tl200::tl201::tl202::tl203::tl204::tl205::tl206::tl207::tl208::tl209::tl210::tl211::tl212::tl213::tl214::tl215::tl216::tl217::tl218::tl219::tl220::tl221::tl222::tl223::tl224::tl225::tl226::tl227::tl228::tl229::tl230::tl231::tl232::tl233::tl234::tl235::tl236::tl237::tl238::tl239::tl240::tl241::tl242::tl243::tl244::tl245::tl246::tl247::tl248::tl249::tl250::tl251::tl252::tl253::tl254::tl255::tl256::tl257::tl258::tl259::tl260::tl261::tl262::tl263::tl264::tl265::tl266::tl267::tl268::tl269::tl270::tl271::tl272::tl273::tl274::tl275::tl276::tl277::tl278::tl279::tl280::tl281::tl282::tl283::tl284::tl285::tl286::tl287::tl288::tl289::tl290::tl291::tl292::tl293::tl294::tl295::tl296::tl297::tl298::tl299::tl300::tl301::tl302::tl303::tl304::tl305::tl306::tl307::tl308::tl309::tl310::tl311::tl312::tl313::tl314::tl315::tl316::tl317::tl318::tl319::tl320::tl321::tl322::tl323::tl324::tl325::tl326::tl327::tl328::tl329::tl330::tl331::tl332::tl333::tl334::tl335::tl336::tl337::tl338::tl339::tl340::tl341::tl342::tl343::tl344::tl345::tl346::tl347::tl348::tl349::tl350::tl351::tl352::[]),[]⟩ wx) :
  (stmtOf Tryz.f3 29).wp prog (Exit.then K Q') ⟨List.toArray (sl0::sl1::sl2::sl3::sl4::sl5::sl6::sl7::sl8::sl9::.pointer (some ⟨w.heap.size,0,none⟩) :: sl11::sl12::sl13::sl14::sl15::sl16::.pointer (some ⟨D,0,none⟩) :: .pointer (some ⟨Y,0,none⟩) :: .int .i64 N::sl20::sl21::sl22::sl23::sl24::sl25::sl26::sl27::sl28::sl29::sl30::sl31::sl32::sl33::sl34::sl35::sl36::sl37::sl38::sl39::sl40::sl41::sl42::sl43::sl44::sl45::sl46::sl47::sl48::sl49::sl50::sl51::sl52::sl53::sl54::sl55::sl56::sl57::sl58::sl59::sl60::sl61::sl62::sl63::sl64::sl65::sl66::sl67::sl68::sl69::sl70::sl71::sl72::sl73::sl74::sl75::sl76::sl77::sl78::sl79::sl80::sl81::sl82::sl83::sl84::sl85::sl86::sl87::sl88::sl89::sl90::sl91::sl92::sl93::sl94::sl95::sl96::sl97::sl98::sl99::sl100::sl101::sl102::sl103::sl104::sl105::sl106::sl107::sl108::sl109::sl110::sl111::sl112::sl113::sl114::sl115::sl116::sl117::sl118::sl119::sl120::sl121::sl122::sl123::sl124::sl125::sl126::sl127::sl128::sl129::sl130::sl131::sl132::sl133::sl134::sl135::sl136::sl137::sl138::sl139::sl140::sl141::sl142::sl143::sl144::sl145::sl146::sl147::sl148::sl149::sl150::sl151::sl152::sl153::sl154::sl155::sl156::sl157::sl158::sl159::sl160::sl161::sl162::sl163::sl164::sl165::sl166::sl167::sl168::sl169::sl170::sl171::sl172::sl173::sl174::sl175::sl176::sl177::sl178::sl179::sl180::sl181::sl182::sl183::sl184::sl185::sl186::sl187::sl188::sl189::sl190::sl191::sl192::sl193::sl194::sl195::sl196::sl197::sl198::sl199::sl200::sl201::sl202::sl203::sl204::sl205::sl206::sl207::sl208::sl209::sl210::sl211::sl212::sl213::sl214::sl215::sl216::sl217::sl218::sl219::sl220::sl221::sl222::sl223::sl224::sl225::sl226::sl227::sl228::sl229::sl230::sl231::sl232::sl233::sl234::sl235::sl236::sl237::sl238::sl239::sl240::sl241::sl242::sl243::sl244::sl245::sl246::sl247::sl248::sl249::sl250::sl251::sl252::sl253::sl254::sl255::sl256::sl257::sl258::sl259::sl260::sl261::sl262::sl263::sl264::sl265::sl266::sl267::sl268::sl269::sl270::sl271::sl272::sl273::sl274::sl275::sl276::sl277::sl278::sl279::sl280::sl281::sl282::sl283::sl284::sl285::sl286::sl287::sl288::sl289::sl290::sl291::sl292::sl293::sl294::sl295::sl296::sl297::sl298::sl299::sl300::sl301::sl302::sl303::sl304::sl305::sl306::sl307::sl308::sl309::sl310::sl311::sl312::sl313::sl314::sl315::sl316::sl317::sl318::sl319::sl320::sl321::sl322::sl323::sl324::sl325::sl326::sl327::sl328::sl329::sl330::sl331::sl332::sl333::sl334::sl335::sl336::sl337::sl338::sl339::sl340::sl341::sl342::sl343::sl344::sl345::sl346::sl347::sl348::sl349::sl350::sl351::sl352::[]),[]⟩ wr:=by
 conv=>arg 2; whnf
 have hbD:=K0.out.bD; have hyD:=K0.out.yD;have m0:Moved D wr wr.drew:=(Moved.start K0.out.m.deck).drew;have zDw:=K0.out.m.deck.lt;have zdr:wr.drew.heap.size = wr.heap.size:=rfl
 have HT:=zi5 (show ∀ w',Moved D wr w'→(w'.cell? ⟨Y,0,none⟩ = some (.slice af N cf)∧w'.cell? ⟨Y,1,none⟩ = some (.slice at' nt ct)∧w'.cell? ⟨Y,2,none⟩ = some (.slice an nk cn)∧w'.cell? ⟨Y,3,none⟩ = some (.slice as' ns cs))∧(w'.cell? ⟨w.heap.size,0,none⟩ = some (.int .u64 key.1)∧w'.cell? ⟨w.heap.size,1,none⟩ = some (.int .u64 key.2)) from
  fun w' h=>⟨zan (h.blk hyD K0.out.y),zak (h.blk (by omega) K0.out.k)⟩)
 obtain ⟨p0,p1,p2,p3⟩:=zan K0.out.y; obtain ⟨k0,k1⟩:=zak K0.out.k;go_wp2_with fail
 refine wp_region_noPanic ?_
 refine wp_region_held_drew (S:=(fun w'=>(w'.cell? ⟨Y,0,none⟩ = some (.slice af N cf)∧w'.cell? ⟨Y,1,none⟩ = some (.slice at' nt ct)∧w'.cell? ⟨Y,2,none⟩ = some (.slice an nk cn)∧w'.cell? ⟨Y,3,none⟩ = some (.slice as' ns cs))∧(w'.cell? ⟨w.heap.size,0,none⟩ = some (.int .u64 key.1)∧w'.cell? ⟨w.heap.size,1,none⟩ = some (.int .u64 key.2)))) (by kernel_rfl) (HT.out _ m0) (fun hHeld=>?_)
 refine tH 0 (h:=?_);refine tH 1 (h:=?_);refine tH 2 (h:=?_);refine tH 4 (h:=?_);refine tH 5 (h:=?_);refine tH 6 (h:=?_);refine tH 7 (h:=?_);refine wpAnyH_ready (rs:=[3,15]) (by kernel_rfl) (by simp) ?_
 refine AllReadyH.cons rfl (fun K hK=>?_) (AllReadyH.cons rfl (fun K hK=>?_) AllReadyH.nil)
 ·skip
  go_simp;refine (zim D N _ m0.deck (by omega)).mono ?_; rintro e V1 ⟨pv,Pd,rfl,hpv,hPd,mv1⟩; have m1:=m0.trans mv1; obtain ⟨pa,pc,rfl⟩:=hpv.slice; have zl1:=m0.size; have zd1:=m0.deck.lt;have hpl:=hPd.len; have HPI:=zi5 (pars_in hPd); have HP1:=zi5 (hpv.off (D:=D) (fun b _ h=>by have h':(wr.drew).heap.size≤b:=h; omega)); have hpl6:Pd.length≤1000000:=by omega
  have HPL:=zi5 hpl6;clear hpv hPd hpl hpl6
  refine hK.out _ _ (HT.out _ m1) (fun hHeld=>?_)
  clear hK K;refine wpAnyH_ready (rs:=[8,15]) (by kernel_rfl) (by simp) ?_
  refine AllReadyH.cons rfl (fun K hK=>?_) (AllReadyH.cons rfl (fun K hK=>?_) AllReadyH.nil)
  ·skip
   go_simp
   refine (zb5 D _ 2000 m1.deck (by omega) (by omega)).mono ?_; rintro e V2 ⟨q,rfl,q0,q1,mv2⟩; have m2:=m1.trans mv2; obtain ⟨q,rfl⟩:=Int.eq_ofNat_of_zero_le q0; have hwq:IntKind.i64.wrap (1 + (q:Int)) = 1 + (q:Int):=by rw [IntKind.wrap_i64]; omega
   have HP2:=zi5 (HP1.out.movedD mv2)
   refine hK.out _ _ (HT.out _ m2) (fun hHeld=>?_)
   clear hK K;refine tH 9 (h:=?_);refine wpAnyH_ready (rs:=[10,15]) (by kernel_rfl) (by simp) ?_
   refine AllReadyH.cons rfl (fun K hK=>?_) (AllReadyH.cons rfl (fun K hK=>?_) AllReadyH.nil)
   ·skip
    go_simp;refine (zen D S _ _ _ _ s (1 + (q:Int)) _ m2.deck (K0.out.sa.moved K0.out.ne m2) K0.out.ne HSD.out (by omega) (by omega)).mono ?_; rintro e V3 ⟨ov,own,rfl,⟨os,rfl,hov⟩,hid,hck,hsh,mv3⟩; have m3:=m2.trans mv3; obtain ⟨oa',oc',rfl⟩:=hov.slice; have zl3:=m2.size; have zd3:=m2.deck.lt;have HQ:=zi5 (ShortR.of HSD.out.check hck); have HO3:=zi5 (hov.off (D:=D) (fun b _ h=>by have h':(V2).heap.size≤b:=h; omega))
    clear hid hck hsh hov q0 q1;have HP3:=zi5 (HP2.out.movedD mv3)
    refine hK.out _ _ (HT.out _ m3) (fun hHeld=>?_)
    clear hK K;refine wpAnyH_ready (rs:=[11,15]) (by kernel_rfl) (by simp) ?_
    refine AllReadyH.cons rfl (fun K hK=>?_) (AllReadyH.cons rfl (fun K hK=>?_) AllReadyH.nil)
    ·skip
     go_simp;obtain ⟨⟨X,er⟩,hX⟩:∃ p,zfj s Pd key own = p:=⟨_,rfl⟩;have hsm:=zf0 s Pd key own;rw [hX] at hsm;have HSX:=zi5 hsm;have HXe:=zi5 hX;clear hX hsm;refine (zdb S _ _ _ _ s Pd _ key own _ _ (K0.out.sa.moved K0.out.ne m3) HP3.out.any HO3.out.any HPI.out HPL.out HQ.out.s6 HQ.out.n6).mono ?_;rw [HXe.out];rintro e V4 ⟨_,rfl,hev,hb⟩;obtain ⟨x,rfl,hev'⟩:=hev.form;have mv4:=(Moved.start m3.deck).below hb;have m4:=m3.trans mv4;dsimp only;clear hev;have HP4:=zi5 (HP3.out.movedD mv4);have HO4:=zi5 (HO3.out.movedD mv4)
     refine hK.out _ _ (HT.out _ m4) (fun hHeld=>?_)
     clear hK K;refine tH 12 (h:=?_);refine tH 13 (h:=?_);refine tH 14 (h:=?_);refine wpAnyH_ready (rs:=[15]) (by kernel_rfl) (by simp) ?_
     refine AllReadyH.cons rfl (fun K hK=>?_) AllReadyH.nil
     go_simp
     refine hK.out _ _ (HT.out _ (m4.alloc _)) (fun hHeld=>?_)
     clear hK K
     refine zcw (fun V5 hV5=>?_)
     have mv5:Moved D V4 V5:=by rw [hV5]; exact (Moved.start m4.deck).alloc _
     have m5:=m4.trans mv5;have zy5:=m4.size; have zx5:=m4.deck.lt;have z5:V5.heap[V4.heap.size]? = some (.cells #[.int .i64 0,.int .i64 0,.slice none 0 0] 32 (0,0)):=by rw [hV5]; exact zac rfl
     have hev5:EncVal V5 (fun b=>b≠V4.heap.size) (.agg (zck x).toArray) X:=(EncVal.weaken hev' (T:=fun b=>b≠V4.heap.size) fun b hb _=>by omega).move (by rw [hV5]; simp) fun b hb h=>⟨by rw [hV5]; exact ((Below.refl _ _).alloc xnl _).block b hb,h⟩
     have HP5:=zi5 (HP4.out.movedD mv5);have HO5:=zi5 (HO4.out.movedD mv5);clear hHeld hV5;have hHeld:=HT.out _ m5;have hl:=zi5 (ziy (w4:=wr) m5 (by have:=m0.size; have:=m5.size; omega) z5 hev5);obtain ⟨e0,e1,e2⟩:=zai z5; have f0:=frozen_of_row _ _ 0 _ _ z5; have f1:=frozen_of_row _ _ 1 _ _ z5; have f2:=frozen_of_row _ _ 2 _ _ z5;clear hev5;refine wpAnyH_ready (rs:=[16]) (by kernel_rfl) (by simp) ?_
     refine AllReadyH.cons rfl (fun K hK=>?_) AllReadyH.nil
     go_simp;skip
     refine hK.out _ _ (HT.out _ hl.out.2.2) (fun hHeld=>?_)
     clear hK K;refine tH 17 (h:=?_);refine wpAnyH_done (by kernel_rfl) ?_ _;refine NoPanic.normal ?_;go_wp2_with fail
     exact zi5 (zig hl.out HSX.out)
    ·skip
     go_simp
     refine hK.out _ _ (HT.out _ (m3.alloc _)) (fun hHeld=>?_)
     clear hK K
     refine zcw (fun V4 hV4=>?_)
     have mv4:Moved D V3 V4:=by rw [hV4]; exact (Moved.start m3.deck).alloc _
     have m4:=m3.trans mv4;have zy4:=m3.size; have zx4:=m3.deck.lt;have z4:V4.heap[V3.heap.size]? = some (.cells #[.int .i64 0,.int .i64 0,.slice none 0 0] 32 (0,0)):=by rw [hV4]; exact zac rfl
     have HP4:=zi5 (HP3.out.movedD mv4);have HO4:=zi5 (HO3.out.movedD mv4);clear hHeld hV4;have hHeld:=HT.out _ m4;refine wpAnyH_ready (rs:=[11]) (by kernel_rfl) (by simp) ?_
     refine AllReadyH.cons rfl (fun K hK=>?_) AllReadyH.nil
     go_simp;obtain ⟨⟨X,er⟩,hX⟩:∃ p,zfj s Pd key own = p:=⟨_,rfl⟩;have hsm:=zf0 s Pd key own;rw [hX] at hsm;have HSX:=zi5 hsm;have HXe:=zi5 hX;clear hX hsm;refine (zdb S _ _ _ _ s Pd _ key own _ _ (K0.out.sa.moved K0.out.ne m4) HP4.out.any HO4.out.any HPI.out HPL.out HQ.out.s6 HQ.out.n6).mono ?_;rw [HXe.out];rintro e V5 ⟨_,rfl,hev,hb⟩;obtain ⟨x,rfl,hev'⟩:=hev.form;have mv5:=(Moved.start m4.deck).below hb;have m5:=m4.trans mv5;dsimp only;clear hev;have lz:=zaa z4;have z5:=mv5.blk (k:=(V3.heap.size)) (by have:=m0.size; have:=m0.deck.lt; omega) z4;have HP5:=zi5 (HP4.out.movedD mv5);have HO5:=zi5 (HO4.out.movedD mv5);have hev5:EncVal V5 (fun b=>b≠(V3.heap.size)) (.agg (zck x).toArray) X:=hev'.weaken fun b _ h=>by have h':(V4).heap.size≤b:=h; omega
     refine hK.out _ _ (HT.out _ m5) (fun hHeld=>?_)
     clear hK K;refine tH 12 (h:=?_);refine tH 13 (h:=?_);refine tH 14 (h:=?_);have hl:=zi5 (ziy (w4:=wr) m5 (by have:=m0.size; have:=m5.size; omega) z5 hev5);obtain ⟨e0,e1,e2⟩:=zai z5; have f0:=frozen_of_row _ _ 0 _ _ z5; have f1:=frozen_of_row _ _ 1 _ _ z5; have f2:=frozen_of_row _ _ 2 _ _ z5;clear hev5;refine wpAnyH_ready (rs:=[16]) (by kernel_rfl) (by simp) ?_
     refine AllReadyH.cons rfl (fun K hK=>?_) AllReadyH.nil
     go_simp;skip
     refine hK.out _ _ (HT.out _ hl.out.2.2) (fun hHeld=>?_)
     clear hK K;refine tH 17 (h:=?_);refine wpAnyH_done (by kernel_rfl) ?_ _;refine NoPanic.normal ?_;go_wp2_with fail
     exact zi5 (zig hl.out HSX.out)
   ·skip
    go_simp
    refine hK.out _ _ (HT.out _ (m2.alloc _)) (fun hHeld=>?_)
    clear hK K
    refine zcw (fun V3 hV3=>?_)
    have mv3:Moved D V2 V3:=by rw [hV3]; exact (Moved.start m2.deck).alloc _
    have m3:=m2.trans mv3;have zy3:=m2.size; have zx3:=m2.deck.lt;have z3:V3.heap[V2.heap.size]? = some (.cells #[.int .i64 0,.int .i64 0,.slice none 0 0] 32 (0,0)):=by rw [hV3]; exact zac rfl
    have HP3:=zi5 (HP2.out.movedD mv3);clear hHeld hV3;have hHeld:=HT.out _ m3;refine wpAnyH_ready (rs:=[10]) (by kernel_rfl) (by simp) ?_
    refine AllReadyH.cons rfl (fun K hK=>?_) AllReadyH.nil
    go_simp;refine (zen D S _ _ _ _ s (1 + (q:Int)) _ m3.deck (K0.out.sa.moved K0.out.ne m3) K0.out.ne HSD.out (by omega) (by omega)).mono ?_; rintro e V4 ⟨ov,own,rfl,⟨os,rfl,hov⟩,hid,hck,hsh,mv4⟩; have m4:=m3.trans mv4; obtain ⟨oa',oc',rfl⟩:=hov.slice; have zl4:=m3.size; have zd4:=m3.deck.lt;have HQ:=zi5 (ShortR.of HSD.out.check hck); have HO4:=zi5 (hov.off (D:=D) (fun b _ h=>by have h':(V3).heap.size≤b:=h; omega))
    clear hid hck hsh hov q0 q1;have z4:=mv4.blk (k:=(V2.heap.size)) (by have:=m0.size; have:=m0.deck.lt; omega) z3;have HP4:=zi5 (HP3.out.movedD mv4)
    refine hK.out _ _ (HT.out _ m4) (fun hHeld=>?_)
    clear hK K;refine wpAnyH_ready (rs:=[11]) (by kernel_rfl) (by simp) ?_
    refine AllReadyH.cons rfl (fun K hK=>?_) AllReadyH.nil
    go_simp;obtain ⟨⟨X,er⟩,hX⟩:∃ p,zfj s Pd key own = p:=⟨_,rfl⟩;have hsm:=zf0 s Pd key own;rw [hX] at hsm;have HSX:=zi5 hsm;have HXe:=zi5 hX;clear hX hsm;refine (zdb S _ _ _ _ s Pd _ key own _ _ (K0.out.sa.moved K0.out.ne m4) HP4.out.any HO4.out.any HPI.out HPL.out HQ.out.s6 HQ.out.n6).mono ?_;rw [HXe.out];rintro e V5 ⟨_,rfl,hev,hb⟩;obtain ⟨x,rfl,hev'⟩:=hev.form;have mv5:=(Moved.start m4.deck).below hb;have m5:=m4.trans mv5;dsimp only;clear hev;have lz:=zaa z4;have z5:=mv5.blk (k:=(V2.heap.size)) (by have:=m0.size; have:=m0.deck.lt; omega) z4;have HP5:=zi5 (HP4.out.movedD mv5);have HO5:=zi5 (HO4.out.movedD mv5);have hev5:EncVal V5 (fun b=>b≠(V2.heap.size)) (.agg (zck x).toArray) X:=hev'.weaken fun b _ h=>by have h':(V4).heap.size≤b:=h; omega
    refine hK.out _ _ (HT.out _ m5) (fun hHeld=>?_)
    clear hK K;refine tH 12 (h:=?_);refine tH 13 (h:=?_);refine tH 14 (h:=?_);have hl:=zi5 (ziy (w4:=wr) m5 (by have:=m0.size; have:=m5.size; omega) z5 hev5);obtain ⟨e0,e1,e2⟩:=zai z5; have f0:=frozen_of_row _ _ 0 _ _ z5; have f1:=frozen_of_row _ _ 1 _ _ z5; have f2:=frozen_of_row _ _ 2 _ _ z5;clear hev5;refine wpAnyH_ready (rs:=[16]) (by kernel_rfl) (by simp) ?_
    refine AllReadyH.cons rfl (fun K hK=>?_) AllReadyH.nil
    go_simp;skip
    refine hK.out _ _ (HT.out _ hl.out.2.2) (fun hHeld=>?_)
    clear hK K;refine tH 17 (h:=?_);refine wpAnyH_done (by kernel_rfl) ?_ _;refine NoPanic.normal ?_;go_wp2_with fail
    exact zi5 (zig hl.out HSX.out)
  ·skip
   go_simp
   refine hK.out _ _ (HT.out _ (m1.alloc _)) (fun hHeld=>?_)
   clear hK K
   refine zcw (fun V2 hV2=>?_)
   have mv2:Moved D V1 V2:=by rw [hV2]; exact (Moved.start m1.deck).alloc _
   have m2:=m1.trans mv2;have zy2:=m1.size; have zx2:=m1.deck.lt;have z2:V2.heap[V1.heap.size]? = some (.cells #[.int .i64 0,.int .i64 0,.slice none 0 0] 32 (0,0)):=by rw [hV2]; exact zac rfl
   have HP2:=zi5 (HP1.out.movedD mv2);clear hHeld hV2;have hHeld:=HT.out _ m2;refine wpAnyH_ready (rs:=[8]) (by kernel_rfl) (by simp) ?_
   refine AllReadyH.cons rfl (fun K hK=>?_) AllReadyH.nil
   go_simp
   refine (zb5 D _ 2000 m2.deck (by omega) (by omega)).mono ?_; rintro e V3 ⟨q,rfl,q0,q1,mv3⟩; have m3:=m2.trans mv3; obtain ⟨q,rfl⟩:=Int.eq_ofNat_of_zero_le q0; have hwq:IntKind.i64.wrap (1 + (q:Int)) = 1 + (q:Int):=by rw [IntKind.wrap_i64]; omega
   have z3:=mv3.blk (k:=(V1.heap.size)) (by have:=m0.size; have:=m0.deck.lt; omega) z2;have HP3:=zi5 (HP2.out.movedD mv3)
   refine hK.out _ _ (HT.out _ m3) (fun hHeld=>?_)
   clear hK K;refine tH 9 (h:=?_);refine wpAnyH_ready (rs:=[10]) (by kernel_rfl) (by simp) ?_
   refine AllReadyH.cons rfl (fun K hK=>?_) AllReadyH.nil
   go_simp;refine (zen D S _ _ _ _ s (1 + (q:Int)) _ m3.deck (K0.out.sa.moved K0.out.ne m3) K0.out.ne HSD.out (by omega) (by omega)).mono ?_; rintro e V4 ⟨ov,own,rfl,⟨os,rfl,hov⟩,hid,hck,hsh,mv4⟩; have m4:=m3.trans mv4; obtain ⟨oa',oc',rfl⟩:=hov.slice; have zl4:=m3.size; have zd4:=m3.deck.lt;have HQ:=zi5 (ShortR.of HSD.out.check hck); have HO4:=zi5 (hov.off (D:=D) (fun b _ h=>by have h':(V3).heap.size≤b:=h; omega))
   clear hid hck hsh hov q0 q1;have z4:=mv4.blk (k:=(V1.heap.size)) (by have:=m0.size; have:=m0.deck.lt; omega) z3;have HP4:=zi5 (HP3.out.movedD mv4)
   refine hK.out _ _ (HT.out _ m4) (fun hHeld=>?_)
   clear hK K;refine wpAnyH_ready (rs:=[11]) (by kernel_rfl) (by simp) ?_
   refine AllReadyH.cons rfl (fun K hK=>?_) AllReadyH.nil
   go_simp;obtain ⟨⟨X,er⟩,hX⟩:∃ p,zfj s Pd key own = p:=⟨_,rfl⟩;have hsm:=zf0 s Pd key own;rw [hX] at hsm;have HSX:=zi5 hsm;have HXe:=zi5 hX;clear hX hsm;refine (zdb S _ _ _ _ s Pd _ key own _ _ (K0.out.sa.moved K0.out.ne m4) HP4.out.any HO4.out.any HPI.out HPL.out HQ.out.s6 HQ.out.n6).mono ?_;rw [HXe.out];rintro e V5 ⟨_,rfl,hev,hb⟩;obtain ⟨x,rfl,hev'⟩:=hev.form;have mv5:=(Moved.start m4.deck).below hb;have m5:=m4.trans mv5;dsimp only;clear hev;have lz:=zaa z4;have z5:=mv5.blk (k:=(V1.heap.size)) (by have:=m0.size; have:=m0.deck.lt; omega) z4;have HP5:=zi5 (HP4.out.movedD mv5);have HO5:=zi5 (HO4.out.movedD mv5);have hev5:EncVal V5 (fun b=>b≠(V1.heap.size)) (.agg (zck x).toArray) X:=hev'.weaken fun b _ h=>by have h':(V4).heap.size≤b:=h; omega
   refine hK.out _ _ (HT.out _ m5) (fun hHeld=>?_)
   clear hK K;refine tH 12 (h:=?_);refine tH 13 (h:=?_);refine tH 14 (h:=?_);have hl:=zi5 (ziy (w4:=wr) m5 (by have:=m0.size; have:=m5.size; omega) z5 hev5);obtain ⟨e0,e1,e2⟩:=zai z5; have f0:=frozen_of_row _ _ 0 _ _ z5; have f1:=frozen_of_row _ _ 1 _ _ z5; have f2:=frozen_of_row _ _ 2 _ _ z5;clear hev5;refine wpAnyH_ready (rs:=[16]) (by kernel_rfl) (by simp) ?_
   refine AllReadyH.cons rfl (fun K hK=>?_) AllReadyH.nil
   go_simp;skip
   refine hK.out _ _ (HT.out _ hl.out.2.2) (fun hHeld=>?_)
   clear hK K;refine tH 17 (h:=?_);refine wpAnyH_done (by kernel_rfl) ?_ _;refine NoPanic.normal ?_;go_wp2_with fail
   exact zi5 (zig hl.out HSX.out)
 ·skip
  go_simp
  refine hK.out _ _ (HT.out _ (m0.alloc _)) (fun hHeld=>?_)
  clear hK K
  refine zcw (fun V1 hV1=>?_)
  have mv1:Moved D wr.drew V1:=by rw [hV1]; exact (Moved.start m0.deck).alloc _
  have m1:=m0.trans mv1;have zy1:=m0.size; have zx1:=m0.deck.lt;have z1:V1.heap[wr.heap.size]? = some (.cells #[.int .i64 0,.int .i64 0,.slice none 0 0] 32 (0,0)):=by rw [hV1]; exact zac rfl
  clear hHeld hV1;have hHeld:=HT.out _ m1;refine wpAnyH_ready (rs:=[3]) (by kernel_rfl) (by simp) ?_
  refine AllReadyH.cons rfl (fun K hK=>?_) AllReadyH.nil
  go_simp;refine (zim D N _ m1.deck (by omega)).mono ?_; rintro e V2 ⟨pv,Pd,rfl,hpv,hPd,mv2⟩; have m2:=m1.trans mv2; obtain ⟨pa,pc,rfl⟩:=hpv.slice; have zl2:=m1.size; have zd2:=m1.deck.lt;have hpl:=hPd.len; have HPI:=zi5 (pars_in hPd); have HP2:=zi5 (hpv.off (D:=D) (fun b _ h=>by have h':(V1).heap.size≤b:=h; omega)); have hpl6:Pd.length≤1000000:=by omega
  have HPL:=zi5 hpl6;clear hpv hPd hpl hpl6;have z2:=mv2.blk (k:=(wr.heap.size)) (by have:=m0.size; have:=m0.deck.lt; omega) z1
  refine hK.out _ _ (HT.out _ m2) (fun hHeld=>?_)
  clear hK K;refine wpAnyH_ready (rs:=[8]) (by kernel_rfl) (by simp) ?_
  refine AllReadyH.cons rfl (fun K hK=>?_) AllReadyH.nil
  go_simp
  refine (zb5 D _ 2000 m2.deck (by omega) (by omega)).mono ?_; rintro e V3 ⟨q,rfl,q0,q1,mv3⟩; have m3:=m2.trans mv3; obtain ⟨q,rfl⟩:=Int.eq_ofNat_of_zero_le q0; have hwq:IntKind.i64.wrap (1 + (q:Int)) = 1 + (q:Int):=by rw [IntKind.wrap_i64]; omega
  have z3:=mv3.blk (k:=(wr.heap.size)) (by have:=m0.size; have:=m0.deck.lt; omega) z2;have HP3:=zi5 (HP2.out.movedD mv3)
  refine hK.out _ _ (HT.out _ m3) (fun hHeld=>?_)
  clear hK K;refine tH 9 (h:=?_);refine wpAnyH_ready (rs:=[10]) (by kernel_rfl) (by simp) ?_
  refine AllReadyH.cons rfl (fun K hK=>?_) AllReadyH.nil
  go_simp;refine (zen D S _ _ _ _ s (1 + (q:Int)) _ m3.deck (K0.out.sa.moved K0.out.ne m3) K0.out.ne HSD.out (by omega) (by omega)).mono ?_; rintro e V4 ⟨ov,own,rfl,⟨os,rfl,hov⟩,hid,hck,hsh,mv4⟩; have m4:=m3.trans mv4; obtain ⟨oa',oc',rfl⟩:=hov.slice; have zl4:=m3.size; have zd4:=m3.deck.lt;have HQ:=zi5 (ShortR.of HSD.out.check hck); have HO4:=zi5 (hov.off (D:=D) (fun b _ h=>by have h':(V3).heap.size≤b:=h; omega))
  clear hid hck hsh hov q0 q1;have z4:=mv4.blk (k:=(wr.heap.size)) (by have:=m0.size; have:=m0.deck.lt; omega) z3;have HP4:=zi5 (HP3.out.movedD mv4)
  refine hK.out _ _ (HT.out _ m4) (fun hHeld=>?_)
  clear hK K;refine wpAnyH_ready (rs:=[11]) (by kernel_rfl) (by simp) ?_
  refine AllReadyH.cons rfl (fun K hK=>?_) AllReadyH.nil
  go_simp;obtain ⟨⟨X,er⟩,hX⟩:∃ p,zfj s Pd key own = p:=⟨_,rfl⟩;have hsm:=zf0 s Pd key own;rw [hX] at hsm;have HSX:=zi5 hsm;have HXe:=zi5 hX;clear hX hsm;refine (zdb S _ _ _ _ s Pd _ key own _ _ (K0.out.sa.moved K0.out.ne m4) HP4.out.any HO4.out.any HPI.out HPL.out HQ.out.s6 HQ.out.n6).mono ?_;rw [HXe.out];rintro e V5 ⟨_,rfl,hev,hb⟩;obtain ⟨x,rfl,hev'⟩:=hev.form;have mv5:=(Moved.start m4.deck).below hb;have m5:=m4.trans mv5;dsimp only;clear hev;have lz:=zaa z4;have z5:=mv5.blk (k:=(wr.heap.size)) (by have:=m0.size; have:=m0.deck.lt; omega) z4;have HP5:=zi5 (HP4.out.movedD mv5);have HO5:=zi5 (HO4.out.movedD mv5);have hev5:EncVal V5 (fun b=>b≠(wr.heap.size)) (.agg (zck x).toArray) X:=hev'.weaken fun b _ h=>by have h':(V4).heap.size≤b:=h; omega
  refine hK.out _ _ (HT.out _ m5) (fun hHeld=>?_)
  clear hK K;refine tH 12 (h:=?_);refine tH 13 (h:=?_);refine tH 14 (h:=?_);have hl:=zi5 (ziy (w4:=wr) m5 (by have:=m0.size; have:=m5.size; omega) z5 hev5);obtain ⟨e0,e1,e2⟩:=zai z5; have f0:=frozen_of_row _ _ 0 _ _ z5; have f1:=frozen_of_row _ _ 1 _ _ z5; have f2:=frozen_of_row _ _ 2 _ _ z5;clear hev5;refine wpAnyH_ready (rs:=[16]) (by kernel_rfl) (by simp) ?_
  refine AllReadyH.cons rfl (fun K hK=>?_) AllReadyH.nil
  go_simp;skip
  refine hK.out _ _ (HT.out _ hl.out.2.2) (fun hHeld=>?_)
  clear hK K;refine tH 17 (h:=?_);refine wpAnyH_done (by kernel_rfl) ?_ _;refine NoPanic.normal ?_;go_wp2_with fail
  exact zi5 (zig hl.out HSX.out)
end
section
open Go.RowKit Cal
attribute [local go_sem] zah zaj zar zaq
theorem eexTail (w:World) (D Y:Nat) (W0:World) (key:Int × Int) (r:RecL) (ra:Option Addr) (rc:Nat) (o:EncL) (oa:Option Addr) (oc:Nat) (S:Nat→Prop) (af at' an as':Option Addr) (N cf nt ct nk cn ns cs:Nat) (s:SchemaL) (HSD:Hid (SchemaD s)) (HN:Hid (s.fields.length = N)) (arv:Option Addr) (crv:Nat) (R:List RecL) (hN1:1≤N) (hN5:N≤4) (HRr:Hid (ShortR r)) (hR4:R.length≤4) (HRR:Hid (∀ q∈R,ShortR q)) (HSO:Hid (SmallE o)) (f0:Int) (salt text:List UInt8) (HF0:Hid (InI f0)) (hsalt:salt.length≤200) (ht:text.length≤900) (HVar:Hid (VarsAt w)) (wr:World) (K0:Hid (EX D w.heap.size Y W0 key r ra rc o oa oc S (.slice af N cf) (.slice at' nt ct) (.slice an nk cn) (.slice as' ns cs) s (.slice arv R.length crv) R wr)) (Z:Nat) (x:EV) (X:EncL) (HZ:Hid (wr.heap[Z]? = some (.cells (zck x).toArray 32 (0,0)))) (HX:Hid (EncVal wr zaw (.agg (zck x).toArray) X)) (HSX:Hid (SmallE X)) (HB0:Hid (Below w.heap.size w W0)) (zD:w.heap.size≤D) (sl0 sl1 sl2 sl3 sl4 sl8 sl9 sl11 sl13 sl14 sl15 sl16 sl17 sl18 sl19 sl20 sl21 sl22 sl23 sl24 sl25 sl26 sl27 sl28 sl29 sl30 sl31 sl32 sl33 sl34 sl35 sl36 sl37 sl39 sl40 sl41 sl42 sl43 sl44 sl45 sl46 sl47 sl48 sl49 sl50 sl51 sl52 sl53 sl54 sl55 sl56 sl57 sl58 sl59 sl60 sl61 sl62 sl63 sl64 sl65 sl66 sl67 sl68 sl69 sl70 sl71 sl72 sl73 sl74 sl75 sl76 sl77 sl78 sl79 sl80 sl81 sl82 sl83 sl84 sl85 sl86 sl87 sl88 sl89 sl90 sl91 sl92 sl93 sl94 sl95 sl96 sl97 sl98 sl99 sl100 sl101 sl102 sl103 sl104 sl105 sl106 sl107 sl108 sl109 sl110 sl111 sl112 sl113 sl114 sl115 sl116 sl117 sl118 sl119 sl120 sl121 sl122 sl123 sl124 sl125 sl126 sl127 sl128 sl129 sl130 sl131 sl132 sl133 sl134 sl135 sl136 sl137 sl138 sl139 sl140 sl141 sl142 sl143 sl144 sl145 sl146 sl147 sl148 sl149 sl150 sl151 sl152 sl153 sl154 sl155 sl156 sl157 sl158 sl159 sl160 sl161 sl162 sl163 sl164 sl165 sl166 sl167 sl168 sl169 sl170 sl171 sl172 sl173 sl174 sl175 sl176 sl177 sl178 sl179 sl180 sl181 sl182 sl183 sl184 sl185 sl186 sl187 sl188 sl189 sl190 sl191 sl192 sl193 sl194 sl195 sl196 sl197 sl198 sl199 sl200 sl201 sl202 sl203 sl204 sl205 sl206 sl207 sl208 sl209 sl210 sl211 sl212 sl213 sl214 sl215 sl216 sl217 sl218 sl219 sl220 sl221 sl222 sl223 sl224 sl225 sl226 sl227 sl228 sl229 sl230 sl231 sl232 sl233 sl234 sl235 sl236 sl237 sl238 sl239 sl240 sl241 sl242 sl243 sl244 sl245 sl246 sl247 sl248 sl249 sl250 sl251 sl252 sl253 sl254 sl255 sl256 sl257 sl258 sl259 sl260 sl261 sl262 sl263 sl264 sl265 sl266 sl267 sl268 sl269 sl270 sl271 sl272 sl273 sl274 sl275 sl276 sl277 sl278 sl279 sl280 sl281 sl282 sl283 sl284 sl285 sl286 sl287 sl288 sl289 sl290 sl291 sl292 sl293 sl294 sl295 sl296 sl297 sl298 sl299 sl300 sl301 sl302 sl303 sl304 sl305 sl306 sl307 sl308 sl309 sl310 sl311 sl312 sl313 sl314 sl315 sl316 sl317 sl318 sl319 sl320 sl321 sl322 sl323 sl324 sl325 sl326 sl327 sl328 sl329 sl330 sl331 sl332 sl333 sl334 sl335 sl336 sl337 sl338 sl339 sl340 sl341 sl342 sl343 sl344 sl345 sl346 sl347 sl348 sl349 sl350 sl351 sl352:Value) :
  (restOf Tryz.f3 29).wp prog (bodyPost prog Tryz.f3 fun e w'=>e = .returned (.bool true)∧Below w.heap.size w w') ⟨List.toArray (sl0::sl1::sl2::sl3::sl4::.int .i64 f0::.string ⟨salt.toArray⟩ :: .string ⟨text.toArray⟩ :: sl8::sl9::.pointer (some ⟨w.heap.size,0,none⟩) :: sl11::.pointer (some ⟨w.heap.size + 2,0,none⟩) :: sl13::sl14::sl15::sl16::sl17::sl18::sl19::sl20::sl21::sl22::sl23::sl24::sl25::sl26::sl27::sl28::sl29::sl30::sl31::sl32::sl33::sl34::sl35::sl36::sl37::.pointer (some ⟨Z,0,none⟩) :: sl39::sl40::sl41::sl42::sl43::sl44::sl45::sl46::sl47::sl48::sl49::sl50::sl51::sl52::sl53::sl54::sl55::sl56::sl57::sl58::sl59::sl60::sl61::sl62::sl63::sl64::sl65::sl66::sl67::sl68::sl69::sl70::sl71::sl72::sl73::sl74::sl75::sl76::sl77::sl78::sl79::sl80::sl81::sl82::sl83::sl84::sl85::sl86::sl87::sl88::sl89::sl90::sl91::sl92::sl93::sl94::sl95::sl96::sl97::sl98::sl99::sl100::sl101::sl102::sl103::sl104::sl105::sl106::sl107::sl108::sl109::sl110::sl111::sl112::sl113::sl114::sl115::sl116::sl117::sl118::sl119::sl120::sl121::sl122::sl123::sl124::sl125::sl126::sl127::sl128::sl129::sl130::sl131::sl132::sl133::sl134::sl135::sl136::sl137::sl138::sl139::sl140::sl141::sl142::sl143::sl144::sl145::sl146::sl147::sl148::sl149::sl150::sl151::sl152::sl153::sl154::sl155::sl156::sl157::sl158::sl159::sl160::sl161::sl162::sl163::sl164::sl165::sl166::sl167::sl168::sl169::sl170::sl171::sl172::sl173::sl174::sl175::sl176::sl177::sl178::sl179::sl180::sl181::sl182::sl183::sl184::sl185::sl186::sl187::sl188::sl189::sl190::sl191::sl192::sl193::sl194::sl195::sl196::sl197::sl198::sl199::sl200::sl201::sl202::sl203::sl204::sl205::sl206::sl207::sl208::sl209::sl210::sl211::sl212::sl213::sl214::sl215::sl216::sl217::sl218::sl219::sl220::sl221::sl222::sl223::sl224::sl225::sl226::sl227::sl228::sl229::sl230::sl231::sl232::sl233::sl234::sl235::sl236::sl237::sl238::sl239::sl240::sl241::sl242::sl243::sl244::sl245::sl246::sl247::sl248::sl249::sl250::sl251::sl252::sl253::sl254::sl255::sl256::sl257::sl258::sl259::sl260::sl261::sl262::sl263::sl264::sl265::sl266::sl267::sl268::sl269::sl270::sl271::sl272::sl273::sl274::sl275::sl276::sl277::sl278::sl279::sl280::sl281::sl282::sl283::sl284::sl285::sl286::sl287::sl288::sl289::sl290::sl291::sl292::sl293::sl294::sl295::sl296::sl297::sl298::sl299::sl300::sl301::sl302::sl303::sl304::sl305::sl306::sl307::sl308::sl309::sl310::sl311::sl312::sl313::sl314::sl315::sl316::sl317::sl318::sl319::sl320::sl321::sl322::sl323::sl324::sl325::sl326::sl327::sl328::sl329::sl330::sl331::sl332::sl333::sl334::sl335::sl336::sl337::sl338::sl339::sl340::sl341::sl342::sl343::sl344::sl345::sl346::sl347::sl348::sl349::sl350::sl351::sl352::[]),[]⟩ wr:=by
 conv=>arg 2; whnf
 obtain ⟨xi,xv,xa,xn,xc⟩:=x;obtain ⟨o0,o1,o2⟩:=zai K0.out.ob; obtain ⟨z0,z1,z2⟩:=zai HZ.out;have lO:=zaa K0.out.ob; have lZ:=zaa HZ.out; have lK:=zaa K0.out.k;have HBw:=zi5 (K0.out.m.base HB0.out zD);have HVr:=zi5 (HVar.out.old HBw.out);go_wp2_with fail
 refine zao (fun WT hWT=>?_)
 have bT:=xal hWT
 have gT:WT.heap[wr.heap.size]? = some (.cells ((([(⟨o.id,o.ver,oa,o.fields.length,oc⟩:EV),⟨xi,xv,xa,xn,xc⟩]:List EV)).flatMap zck).toArray 32 (0,0)):=by rw [hWT]; exact zac rfl
 have HRS:=zi5 (show EncsVec WT zaw (.slice (some ⟨wr.heap.size,0,none⟩) 2 2) [o,X] from ⟨[(⟨o.id,o.ver,oa,o.fields.length,oc⟩:EV),⟨xi,xv,xa,xn,xc⟩],zcn (k:=3) (enc:=zck) (fun _=>rfl) gT trivial 2 rfl,rfl,by
  intro n h1 h2
  match n,h1,h2 with
  | 0,_,_=>exact EncVal.below (show EncVal wr zaw _ o from ⟨_,rfl,K0.out.oo.any⟩) bT
  | 1,_,_=>exact HX.out.below bT
  | n + 2,h1,_=>exact absurd h1 (by simp)⟩)
 have HSR:=zi5 (show ∀ e∈[o,X],SmallE e by
  intro e he;simp only [List.mem_cons,List.not_mem_nil,or_false] at he
  rcases he with rfl | rfl
  ·exact HSO.out
  ·exact HSX.out)
 have HZT:=zi5 (zab bT lZ HZ.out); have HXT:=zi5 (HX.out.below bT); have HKT:=zi5 (zab bT lK K0.out.k);have HBT:=zi5 (HBw.out.trans (bT.mono HBw.out.size)); have HVT:=zi5 (HVr.out.old bT);have lZT:=zaa HZT.out; have lKT:=zaa HKT.out;obtain ⟨T,hT⟩:∃ T,wr.heap.size = T:=⟨_,rfl⟩;rw [hT] at HRS ⊢;obtain ⟨QS,hQS⟩:∃ QS,[o,X] = QS:=⟨_,rfl⟩;have hQl:QS.length = 2:=by rw [← hQS]; rfl
 rw [hQS] at HRS HSR;have HQl:=zi5 hQl;clear hWT bT gT hT hQS hQl z0 z1 z2 o0 o1 o2 lO lZ lK HBw HVr;go_loopw [261] (fun i wr=>∃ j:Nat,j≤2∧i = .int .i64 j∧Below WT.heap.size WT wr) (fun i _=>2 - (intOf i).toNat)
 case atStart=>exact ⟨0,by omega,rfl,Below.refl _ _⟩
 case round =>
  obtain ⟨j,hj,rfl,bj⟩:=hrel;obtain ⟨WR,hWR⟩:∃ u,u = wr:=⟨_,rfl⟩;subst hWR;have Bj:=zi5 bj;by_cases hlt:j < 2
  ·have hq:decide ((j:Int) < 2) = true:=by simp; omega
   have hjl:j < QS.length:=by rw [HQl.out]; exact hlt
   obtain ⟨b,off,⟨ci,cv,ca,cn,cc⟩,e,lb,⟨c0,c1,c2⟩,hev⟩:=(HRS.out.below bj).at j hjl;cases e;rw [Nat.zero_add] at c0 c1 c2;obtain ⟨E,hE⟩:∃ E,QS[j] = E:=⟨_,rfl⟩;have hse:=HSR.out _ (List.getElem_mem hjl);rw [hE] at hev hse;have HEv:=zi5 hev; have HSe:=zi5 hse; have HVj:=zi5 (HVT.out.old bj);obtain ⟨L,hL⟩:∃ L,lineV E = L:=⟨_,rfl⟩;obtain ⟨le,hle⟩:∃ le,zfe E = le:=⟨_,rfl⟩;have hLn:L.length≤2000:=by rw [← hL]; exact lineV_len E
   have HL:=zi5 hL; have HLe:=zi5 hle;clear hev hse hE hjl bj hL hle;go_wp2_with fail
   refine zae (fun WA hWA=>?_)
   have bA:=xal hWA
   have gA:WA.heap[WR.heap.size]? = some (.cells (zck ⟨ci,cv,ca,cn,cc⟩).toArray 32 (0,0)):=by rw [hWA]; exact zac rfl
   have HEA:=zi5 (HEv.out.below bA);refine (eline_any zaw _ E _ HEA.out (HVj.out.old bA) HSe.out.h HSe.out.n).mono ?_;rw [HL.out,HLe.out];rintro e w3 ⟨rfl,hb⟩;have HGA:=zi5 (zab hb (zaa gA) gA); have HE3:=zi5 (HEA.out.below hb); have B3:=zi5 (Bj.out.trans ((bA.trans (hb.mono bA.size)).mono Bj.out.size)); have HV3:=zi5 ((HVj.out.old bA).old hb);clear hb hWA bA gA HEA HEv HVj c0 c1 c2 lb Bj;obtain ⟨A,hA⟩:∃ A,WR.heap.size = A:=⟨_,rfl⟩;rw [hA] at HGA ⊢;obtain ⟨a0,a1,a2⟩:=zai HGA.out;have lA:=zaa HGA.out;clear hA;go_wp2_with fail
   refine (rline16_any zaw _ E _ HE3.out HSe.out.h HSe.out.n).mono ?_;rw [HL.out,HLe.out];rintro e w4 ⟨rfl,hb⟩;have HGA4:=zi5 (zab hb lA HGA.out); have HE4:=zi5 (HE3.out.below hb); have B4:=zi5 (B3.out.trans (hb.mono B3.out.size)); have HV4:=zi5 (HV3.out.old hb);clear hb HGA HE3 B3 HV3 a0 a1 a2 lA;have HZ4:=zi5 (zab B4.out lZT HZT.out); have HX4:=zi5 (HXT.out.below B4.out);obtain ⟨a0,a1,a2⟩:=zai HGA4.out; obtain ⟨z0,z1,z2⟩:=zai HZ4.out;have lA:=zaa HGA4.out; have lZ4:=zaa HZ4.out;obtain ⟨bv,hbv⟩:∃ bv,zbd E = bv:=⟨_,rfl⟩;obtain ⟨bs,hbs⟩:∃ bs,zif E X = bs:=⟨_,rfl⟩;have e1:(bv != bv) = false:=by cases bv <;> rfl
   have e2:(bs != bs) = false:=by cases bs <;> rfl
   have e3:(le != le) = false:=by simp
   have c1P:=zbl w4 (fun W' hb=>by have h:=zfc _ _ E W' (HE4.out.below hb) HSe.out.i HSe.out.n; rw [hbv] at h; exact h)
   have c2P:=zbl w4 (fun W' hb=>by have h:=zfo _ _ E W' (HE4.out.below hb) HSe.out.i HSe.out.n; rw [hbv] at h; exact h)
   have c3P:=zbl w4 (fun W' hb=>by have h:=esame_any _ _ _ _ E X W' (HE4.out.below hb) (HX4.out.below hb) HSe.out.n HSe.out.w; rw [hbs] at h; exact h)
   have c4P:=zbl w4 (fun W' hb=>by have h:=zgg _ _ _ _ E X W' (HE4.out.below hb) (HX4.out.below hb) HSe.out.n HSe.out.w; rw [hbs] at h; exact h)
   have r0:=cell_regrown a0; have r1:=cell_regrown a1; have r2:=cell_regrown a2; have t0:=cell_regrown z0; have t1:=cell_regrown z1; have t2:=cell_regrown z2;clear hbv hbs;skip;go_wp2_with fail
   skip;refine wp_region_quiet_below (by kernel_rfl) (by kernel_rfl) ?_;repeat (go_big_quiet_step (first | with_reducible exact c1P _ _ | with_reducible exact c2P _ _ | with_reducible exact c3P _ _ | with_reducible exact c4P _ _))
   refine wpQuiet_nil ?_;intro w5 hw'
   have hb5:Below w4.heap.size w4 w5:=by
    obtain ⟨⟨dq,osq⟩,hw''⟩:=hw';rw [hw'']; exact below_regrown w4 dq osq
   have B5:=zi5 (B4.out.trans (hb5.mono B4.out.size)); have HV5:=zi5 (HV4.out.old hb5);clear hw' hb5 c1P c2P c3P c4P r0 r1 r2 t0 t1 t2 a0 a1 a2 z0 z1 z2 HGA4 HE4 HZ4 HX4 HV4 B4 lA lZ4 HL HLe HSe e1 e2;have n1:¬ 9223372036854775807 < L.length + 2:=by omega
   have n2:¬ 9223372036854775807 < 1 + L.length:=by omega
   have n3:¬ 9223372036854775807 < L.length + 1:=by omega
   skip;go_wp2_with fail
   skip
   refine zao (fun WX hWX=>?_)
   have bX:=xal hWX
   have gX:WX.heap[w5.heap.size]? = some (.cells (([L,text,L ++ [32,45],[48] ++ L,L ++ [32],[51,32,49,32,45]]:List (List UInt8)).flatMap za2).toArray 9 (0,0)):=by rw [hWX]; exact zac rfl
   have HTS:=zi5 (show Vec WX zaw 1 za2 (.slice (some ⟨w5.heap.size,0,none⟩) 6 6) [L,text,L ++ [32,45],[48] ++ L,L ++ [32],[51,32,49,32,45]] from zcn (k:=1) (enc:=za2) (fun _=>rfl) gX trivial 6 rfl)
   have HTL:=zi5 (show ∀ t∈([L,text,L ++ [32,45],[48] ++ L,L ++ [32],[51,32,49,32,45]]:List (List UInt8)),t.length≤100000 by
    intro t h;simp only [List.mem_cons,List.not_mem_nil,or_false] at h
    rcases h with rfl | rfl | rfl | rfl | rfl | rfl <;> first | omega | (simp; done) | (simp; omega))
   obtain ⟨TS,hTS⟩:∃ TS,([L,text,L ++ [32,45],[48] ++ L,L ++ [32],[51,32,49,32,45]]:List (List UInt8)) = TS:=⟨_,rfl⟩;have hTl:TS.length = 6:=by rw [← hTS]; rfl
   rw [hTS] at HTS HTL;have HTn:=zi5 hTl;have BX:=zi5 (B5.out.trans (bX.mono B5.out.size)); have HVX:=zi5 (HV5.out.old bX);obtain ⟨U,hU⟩:∃ U,w5.heap.size = U:=⟨_,rfl⟩;rw [hU] at HTS ⊢;clear hWX bX gX hTS hTl hU n1 n2 n3 B5 HV5;go_loopw [309] (fun i wr=>∃ m:Nat,m≤6∧i = .int .i64 m∧Below WX.heap.size WX wr) (fun i _=>6 - (intOf i).toNat)
   case atStart=>exact ⟨0,by omega,rfl,Below.refl _ _⟩
   case round =>
    obtain ⟨m,hm,rfl,bm⟩:=hrel;obtain ⟨WM,hWM⟩:∃ u,u = wr:=⟨_,rfl⟩;subst hWM;have Bm:=zi5 bm;by_cases hlt2:m < 6
    ·have hq2:decide ((m:Int) < 6) = true:=by simp; omega
     have hml:m < TS.length:=by rw [HTn.out]; exact hlt2
     obtain ⟨b,off,e,lb,hc⟩:=(HTS.out.below bm).get m hml;cases e;have c0:=hc 0 _ rfl;obtain ⟨t,htt⟩:∃ t,TS[m] = t:=⟨_,rfl⟩;have htn:=HTL.out _ (List.getElem_mem hml);rw [htt] at c0 htn;rw [Nat.mul_one,Nat.add_zero,Nat.zero_add] at c0;obtain ⟨Yp,hYp⟩:∃ Y,(zek t).getD noEnc = Y:=⟨_,rfl⟩;obtain ⟨pe,hpe⟩:∃ pe,errO (zek t) = pe:=⟨_,rfl⟩;have hsy:=small_parse t;rw [hYp] at hsy;have HYp:=zi5 hYp; have HPe:=zi5 hpe; have HSy:=zi5 hsy; have HVm:=zi5 (HVX.out.old bm);have d1:(pe != pe) = false:=by simp
     clear hc htt hml bm hYp hpe hsy;skip;go_wp2_with fail
     refine (eparse_any t _ HVm.out htn).mono ?_;rintro e w3 ⟨v3,rfl,hev,hb⟩;rw [HYp.out] at hev; rw [HPe.out];obtain ⟨⟨pi,pv,pa,pn,pc⟩,rfl,hev'⟩:=hev.form;have HP3:=zi5 hev'; have B3:=zi5 (Bm.out.trans (hb.mono Bm.out.size)); have HV3:=zi5 (HVm.out.old hb);dsimp only;clear hev hev' hb c0 lb Bm HVm;go_wp2_with fail
     refine zae (fun WB hWB=>?_)
     have bB:=xal hWB
     have gB:WB.heap[w3.heap.size]? = some (.cells (zck ⟨pi,pv,pa,pn,pc⟩).toArray 32 (0,0)):=by rw [hWB]; exact zac rfl
     refine (rparse16_any t _ htn).mono ?_;rintro e w4 ⟨v4,rfl,hev,hb⟩;rw [HYp.out] at hev; rw [HPe.out];obtain ⟨⟨qi,qv,qa,qn,qc⟩,rfl,hev'⟩:=hev.form;have HQ4:=zi5 hev'; have HP4:=zi5 ((HP3.out.below bB).below hb); have B4:=zi5 (B3.out.trans ((bB.trans (hb.mono bB.size)).mono B3.out.size)); have HGB:=zi5 (zab hb (zaa gB) gB);dsimp only;clear hev hev' hb hWB bB gB HP3 B3 HV3;obtain ⟨bp,hbp⟩:∃ b,w3.heap.size = b:=⟨_,rfl⟩;rw [hbp] at HGB ⊢;clear hbp;have lGB:=zaa HGB.out;obtain ⟨x0,x1,x2⟩:=zai HGB.out;skip;go_wp2_with fail
     refine zae (fun WC hWC=>?_)
     have bC:=xal hWC
     have HPC:=zi5 (HP4.out.below bC); have HQC:=zi5 (HQ4.out.below bC); have BC:=zi5 (B4.out.trans (bC.mono B4.out.size));clear hWC bC HGB HP4 HQ4 B4 x0 x1 x2;skip;refine (zgg _ _ _ _ Yp Yp _ HPC.out HQC.out HSy.out.n HSy.out.w).mono ?_;rw [sameE_self];rintro e w6 ⟨rfl,hb⟩;have B6:=zi5 (BC.out.trans (hb.mono BC.out.size));clear hb;go_wp2_with fail
     go_roundw
     case rel=>exact ⟨m + 1,by omega,by go_num,B6.out⟩
     case measure=>simp [intOf]; omega
    ·have hq2:decide ((m:Int) < 6) = false:=by simp; omega
     have B6:=zi5 (BX.out.trans (bm.mono BX.out.size));clear bm;go_wp2_with fail
     go_roundw
     case rel=>exact ⟨j + 1,by omega,by go_num,B6.out⟩
     case measure=>simp [intOf]; omega
  ·have hq:decide ((j:Int) < 2) = false:=by simp; omega
   have HBE:=zi5 (HBT.out.trans (bj.mono HBT.out.size));have HKE:=zi5 (zab bj lKT HKT.out); have HVE:=zi5 (HVT.out.old bj);obtain ⟨k0,k1⟩:=zak HKE.out;obtain ⟨xa,xb⟩:=key;obtain ⟨⟨ua,ub⟩,hu⟩:∃ p,keyN (xa,xb) (Lib.itoa f0) true salt = p:=⟨_,rfl⟩;obtain ⟨⟨va,vb⟩,hv⟩:∃ p,keyN (xa,xb) (Lib.itoa f0) false salt = p:=⟨_,rfl⟩;have hv2:keyN (xa,xb) (Lib.itoa f0) false [] = (va,vb):=by rw [← hv]; exact key_false _ _ _ _
   have c1P:=zbl WR (fun W' hb=>by have h:=fieldkey_all (xa,xb) f0 true salt W' (HVE.out.old hb) HF0.out (by omega); rw [hu] at h; exact h)
   have c2P:=zbl WR (fun W' hb=>by have h:=ze6 (xa,xb) f0 true salt W' HF0.out (by omega); rw [hu] at h; exact h)
   have c3P:=zbl WR (fun W' hb=>by have h:=fieldkey_all (xa,xb) f0 false salt W' (HVE.out.old hb) HF0.out (by omega); rw [hv] at h; exact h)
   have c4P:=zbl WR (fun W' hb=>by have h:=ze6 (xa,xb) f0 false [] W' HF0.out (by simp); rw [hv2] at h; exact h)
   have r0:=cell_regrown k0; have r1:=cell_regrown k1;clear bj hu hv hv2;go_wp2_with fail
   skip;refine wp_region_quiet_below (by kernel_rfl) (by kernel_rfl) ?_;repeat (go_big_quiet_step (first | with_reducible exact c1P _ _ | with_reducible exact c2P _ _ | with_reducible exact c3P _ _ | with_reducible exact c4P _ _))
   refine wpQuiet_nil ?_;intro w5 hw'
   have hb5:Below WR.heap.size WR w5:=by
    obtain ⟨⟨dq,osq⟩,hw''⟩:=hw';rw [hw'']; exact below_regrown WR dq osq
   have HF:=zi5 (HBE.out.trans (hb5.mono HBE.out.size));clear hw' hb5 c1P c2P c3P c4P r0 r1 k0 k1;go_wp2_with fail
   go_ret;exact ⟨rfl,HF.out⟩
end
section
open Go
theorem handed_shaped {H : Type} {enc : TypeId × Value → H} {a : Assume} {C : Checked} {os : Os} {f : FuncId} {fn : Func} {s : ChangeSpec} {conds : List PathCond} {apart fresh handsOn again : Bool} {X : World → Array Value → Prop}
    (hX : ∀ (w w' : World) (args : Array Value), w.heap = w'.heap → X w args → X w' args)
    (own : ownKnob C.prog.godebug = none) (started : os.Started) (noInit : C.prog.inits.idxOf? f = none) (hfn : C.prog.funcs[f]? = some fn)
    (witness : ∃ (w : World) (tape : Tape) (i : Input), w.os = os ∧ (w.forCall tape i).Shaped C.prog ∧ i.vars = [] ∧ Input.okWide C.prog (w.forCall tape i) .any w.heap.size f i ∧
      ((s.pre enc C.prog fn conds apart (w.forCall tape i).memory i.args ∧ X (w.forCall tape i).memory i.args) ∧ sizedMet enc C.prog fn (OpenSpec.ofChange s) apart (w.forCall tape i).memory i.args) ∧ a.holds C.prog (lone (Frame.enter C.prog f i.args .normal) [] (w.forCall tape i)))
    (contract : ∀ (W : World) (base : Nat) (args : Array Value) (ds gs : List (DataW H)) (before : List MemPlace),
      (∀ (j : Nat) t v, fn.params[j]? = some t → args[j]? = some v → Value.okWide C.prog W .any base t v) →
      DataW.Whole enc C.prog fn.params.toList s.vars apart W args.toList ds gs before →
      X W args → W.ShapedOpen C.prog →
      Calls C.prog f args W fun e W' => ∃ v, e = .returned v ∧ s.post enc C.prog fn apart fresh handsOn again W args v W') :
    ReturnsInHanded a C os f .any (fun w args => (s.pre enc C.prog fn conds apart w args ∧ X w args) ∧ sizedMet enc C.prog fn (OpenSpec.ofChange s) apart w args) (s.post enc C.prog fn apart fresh handsOn again) := by
  refine returnsInHanded_of_calls own started noInit witness ?_
  intro w tape i _ hsh _ hok hpre hholds
  obtain ⟨_, _, _, fn', hfn', _, _, _, _, hval⟩ := hok
  obtain rfl : fn' = fn := Option.some.inj (hfn'.symm.trans hfn)
  obtain ⟨⟨⟨ds, gs, before, hw, hc⟩, hx⟩, hz⟩ := hpre
  refine (contract (w.forCall tape i) w.heap.size i.args ds gs before hval (DataW.Whole.of_heap (w' := w.forCall tape i) (by rfl) hw) (hX _ _ _ (by rfl) hx) hsh).mono fun e W' ⟨v, he, hp⟩ => ?_
  subst he
  exact ChangeSpec.post_blind hp
end
section
open Go.RowKit
attribute [local go_sem] zah zaj
end
section
open Go Go.RowKit
theorem laid_at {P:Program} {w:World}:∀ {l:List (String × DataW Unit)} {ps:List MemPlace},DataW.LaidVars P w l ps→∀ (i:Nat) (n:String) (d:DataW Unit),l[i]? = some (n,d)→∃ g t cs fuel p,P.globalNamed n = some g∧(P.globals[g]?).map (·.type) = some t∧w.var? P n = some cs∧DataW.trod (fun _=>()) P w 0 (fun _=>true) false fuel t cs.toList = some (d,p)
 | [],ps,h,i,n,d,hi=>by simp at hi
 | (m,e) :: r,ps,h,0,n,d,hi=>by
  obtain ⟨g,t,cs,fuel,p,q,h1,h2,h3,h4,_,_⟩:=h;simp at hi;obtain ⟨rfl,rfl⟩:=hi;exact ⟨g,t,cs,fuel,p,h1,h2,h3,h4⟩
 | (m,e) :: r,ps,h,i + 1,n,d,hi=>by
  obtain ⟨g,t,cs,fuel,p,q,_,_,_,_,h5,_⟩:=h;exact laid_at h5 i n d (by simpa using hi)
theorem tab_give {P:Program} {w:World} {l:List (String × DataW Unit)} {ps:List MemPlace} (h:DataW.LaidVars P w l ps) {i:Nat} {name:String} {k:IntKind} {zs:List Int} (hi:l[i]? = some (name,Lib.tabData k zs)) {g:Nat} {t e:TypeId} {n:Nat}
  (hg:P.globalNamed name = some g) (hty:(P.globals[g]?).map (·.type) = some t) (ht:P.underlying t = some (.array n e)) (he:P.underlying e = some (.int k)) (hce:P.cellsOf e = 1) (hct:P.cellsOf t = n):Lib.TabIs P w name k zs:=by
 obtain ⟨g',t',cs,fuel,p,hg',ht',hvar,hd⟩:=laid_at h i _ _ hi;obtain rfl:=Option.some.inj (hg.symm.trans hg');obtain rfl:=Option.some.inj (hty.symm.trans ht');unfold Lib.TabIs;rw [hvar,← Lib.cells_of_tab ht he hce hct hd]
theorem iface_give {P:Program} {w:World} {l:List (String × DataW Unit)} {ps:List MemPlace} (h:DataW.LaidVars P w l ps) {i:Nat} {name nm:String} {d:DataW Unit} (hi:l[i]? = some (name,.iface nm d)) {g:Nat} {t:TypeId} {ms:Array (String × TypeId)}
  (hg:P.globalNamed name = some g) (hty:(P.globals[g]?).map (·.type) = some t) (ht:P.underlying t = some (.interface ms)):IfaceAt w g:=by
 obtain ⟨g',t',cs,fuel,p,hg',ht',hvar,hd⟩:=laid_at h i _ _ hi;obtain rfl:=Option.some.inj (hg.symm.trans hg');obtain rfl:=Option.some.inj (hty.symm.trans ht');obtain ⟨_,u,v,hcs,_,_⟩:=iface_of_trod ht hd;have:=World.var?_cell hg hvar 0;refine ⟨.iface u v,?_,.inr ⟨u,v,rfl⟩⟩;rw [this,← Array.getElem?_toList,hcs]; rfl
theorem vars_give {l : List (String × DataW Unit)} {W : World} (hsh : W.ShapedOpen prog) (hl : laidMetH prog l W) (hp : (l.all fun x => x.2.handleName?.isNone) = true) (i : Nat) (hi : l[i]? = some ("internal/strconv.uint64pow10", Lib.tabData .u64 Lib.pow10Tab))
  (j : Nat) {n1 : String} {d1 : DataW Unit} (hj : l[j]? = some ("strconv.ErrSyntax", .iface n1 d1)) (k : Nat) {n2 : String} {d2 : DataW Unit} (hk : l[k]? = some ("strconv.ErrRange", .iface n2 d2)) : VarsAt W := by
 rw [MakeChecks.laidMetH_plain _ _ _ hp] at hl;obtain ⟨ps,h,_,_⟩:=hl;refine ⟨tab_give h hi (g:=2) (by kernel_rfl) (by kernel_rfl) underlying286 (by kernel_rfl) (by kernel_rfl) (by kernel_rfl),?_,?_,Tryz.laysM146.s1_3 W hsh⟩
 ·exact iface_give h hj (by kernel_rfl) (by kernel_rfl) underlying123
 ·exact iface_give h hk (by kernel_rfl) (by kernel_rfl) underlying123
end
end Go.Proofs.YtpmpdonccgcehaaGreatDoor
