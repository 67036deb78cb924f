/- Parts of one proof: BexTail, OpenSchema, OpenRecs, OpenKeys. -/
import Derived.Test.YtaoebplnbcimlaaGreatDoorPartBe9
import Derived.Deep.SlicePairs
import Derived.Deep.Strs
import Derived.Lib.SmallJoins
import Derived.OpenShut
set_option linter.unusedSimpArgs false
set_option linter.unusedVariables false
namespace Go.Proofs.YtaoebplnbcimlaaGreatDoor
section
set_option maxRecDepth 100000
open Go.RowKit Cal
attribute [local go_sem] toList_mk mk_size bytes_append str_append
set_option maxHeartbeats 16000000 in
theorem bexTail (w : World) (D Y : Nat) (W0 : World) (key : Int × Int) (r : RecL) (ra : Option Addr) (rc : Nat) (c : Int × Int) (S : Nat → Prop) (af at' an as' : Option Addr) (N cf nt ct nk cn ns cs : Nat) (s : SchemaL) (HSD : Hid (SchemaD s)) (HN : Hid (s.fields.length = N)) (arv : Option Addr) (crv : Nat) (R : List RecL) (hN1 : 1 ≤ N) (hN5 : N ≤ 5) (HRr : Hid (ShortR r)) (hR7 : R.length ≤ 7) (HRR : Hid (∀ q ∈ R, ShortR q)) (wr : World) (K0 : Hid (BX D w.heap.size Y W0 key r ra rc c S (.slice af N cf) (.slice at' nt ct) (.slice an nk cn) (.slice as' ns cs) s (.slice arv R.length crv) R wr)) (HB0 : Hid (Below w.heap.size w W0)) (zD : w.heap.size ≤ D) (sl0 sl1 sl2 sl3 sl4 sl5 sl6 sl7 sl8 sl11 sl12 sl15 sl16 sl17 sl18 sl19 sl20 sl21 sl22 sl23 sl24 sl25 sl26 sl27 sl28 sl29 sl30 sl31 sl32 sl33 sl34 sl35 sl36 sl37 sl38 sl39 sl40 sl41 sl42 sl43 sl44 sl45 sl46 sl47 sl48 sl49 sl50 sl51 sl52 sl53 sl54 sl55 sl56 sl57 sl58 sl59 sl60 sl61 sl62 sl63 sl64 sl65 sl66 sl67 sl68 sl69 sl70 sl71 sl72 sl73 sl74 sl75 sl76 sl77 sl78 sl79 sl80 sl81 sl82 sl83 sl84 sl85 sl86 sl87 sl88 sl89 sl90 sl91 sl92 sl93 sl94 sl95 sl96 sl97 sl98 sl99 sl100 sl101 sl102 sl103 sl104 sl105 sl106 sl107 sl108 sl109 sl110 sl111 sl112 sl113 sl114 sl115 sl116 sl117 sl118 sl119 sl120 sl121 sl122 sl123 sl124 sl125 sl126 sl127 sl128 sl129 sl130 sl131 sl132 sl133 sl134 sl135 sl136 sl137 sl138 sl139 sl140 sl141 sl142 sl143 sl144 sl145 sl146 sl147 sl148 sl149 sl150 sl151 sl152 sl153 sl154 sl155 sl156 sl157 sl158 sl159 sl160 sl161 sl162 sl163 sl164 sl165 sl166 sl167 sl168 sl169 sl170 sl171 sl172 sl173 sl174 sl175 sl176 sl177 sl178 sl179 sl180 sl181 sl182 sl183 sl184 sl185 sl186 sl187 sl188 sl189 sl190 sl191 sl192 sl193 sl194 sl195 sl196 sl197 sl198 sl199 sl200 sl201 sl202 sl203 sl204 sl205 sl206 sl207 sl208 sl209 sl210 sl211 sl212 sl213 sl214 sl215 sl216 sl217 sl218 sl219 sl220 sl221 sl222 sl223 sl224 sl225 sl226 sl227 sl228 sl229 sl230 sl231 sl232 sl233 sl234 sl235 sl236 sl237 sl238 sl239 sl240 sl241 sl242 sl243 sl244 sl245 sl246 sl247 sl248 sl249 sl250 sl251 sl252 sl253 sl254 sl255 sl256 sl257 : Value) :
    (restOf Tryz.f3 33).wp Tryz.prog (bodyPost Tryz.prog Tryz.f3 fun e w' => e = .returned (.bool true) ∧ Below w.heap.size w w') ⟨List.toArray (sl0 :: sl1 :: sl2 :: sl3 :: sl4 :: sl5 :: sl6 :: sl7 :: sl8 :: .pointer (some ⟨w.heap.size + 1, 0, none⟩) :: .pointer (some ⟨w.heap.size + 2, 0, none⟩) :: sl11 :: sl12 :: .pointer (some ⟨D, 0, none⟩) :: .pointer (some ⟨Y, 0, none⟩) :: sl15 :: sl16 :: sl17 :: sl18 :: sl19 :: sl20 :: sl21 :: sl22 :: sl23 :: sl24 :: sl25 :: sl26 :: sl27 :: sl28 :: sl29 :: sl30 :: sl31 :: sl32 :: sl33 :: sl34 :: sl35 :: sl36 :: sl37 :: sl38 :: sl39 :: sl40 :: sl41 :: sl42 :: sl43 :: sl44 :: sl45 :: sl46 :: sl47 :: sl48 :: sl49 :: sl50 :: sl51 :: sl52 :: sl53 :: sl54 :: sl55 :: sl56 :: sl57 :: sl58 :: sl59 :: sl60 :: sl61 :: sl62 :: sl63 :: sl64 :: sl65 :: sl66 :: sl67 :: sl68 :: sl69 :: sl70 :: sl71 :: sl72 :: sl73 :: sl74 :: sl75 :: sl76 :: sl77 :: sl78 :: sl79 :: sl80 :: sl81 :: sl82 :: sl83 :: sl84 :: sl85 :: sl86 :: sl87 :: sl88 :: sl89 :: sl90 :: sl91 :: sl92 :: sl93 :: sl94 :: sl95 :: sl96 :: sl97 :: sl98 :: sl99 :: sl100 :: sl101 :: sl102 :: sl103 :: sl104 :: sl105 :: sl106 :: sl107 :: sl108 :: sl109 :: sl110 :: sl111 :: sl112 :: sl113 :: sl114 :: sl115 :: sl116 :: sl117 :: sl118 :: sl119 :: sl120 :: sl121 :: sl122 :: sl123 :: sl124 :: sl125 :: sl126 :: sl127 :: sl128 :: sl129 :: sl130 :: sl131 :: sl132 :: sl133 :: sl134 :: sl135 :: sl136 :: sl137 :: sl138 :: sl139 :: sl140 :: sl141 :: sl142 :: sl143 :: sl144 :: sl145 :: sl146 :: sl147 :: sl148 :: sl149 :: sl150 :: sl151 :: sl152 :: sl153 :: sl154 :: sl155 :: sl156 :: sl157 :: sl158 :: sl159 :: sl160 :: sl161 :: sl162 :: sl163 :: sl164 :: sl165 :: sl166 :: sl167 :: sl168 :: sl169 :: sl170 :: sl171 :: sl172 :: sl173 :: sl174 :: sl175 :: sl176 :: sl177 :: sl178 :: sl179 :: sl180 :: sl181 :: sl182 :: sl183 :: sl184 :: sl185 :: sl186 :: sl187 :: sl188 :: sl189 :: sl190 :: sl191 :: sl192 :: sl193 :: sl194 :: sl195 :: sl196 :: sl197 :: sl198 :: sl199 :: sl200 :: sl201 :: sl202 :: sl203 :: sl204 :: sl205 :: sl206 :: sl207 :: sl208 :: sl209 :: sl210 :: sl211 :: sl212 :: sl213 :: sl214 :: sl215 :: sl216 :: sl217 :: sl218 :: sl219 :: sl220 :: sl221 :: sl222 :: sl223 :: sl224 :: sl225 :: sl226 :: sl227 :: sl228 :: sl229 :: sl230 :: sl231 :: sl232 :: sl233 :: sl234 :: sl235 :: sl236 :: sl237 :: sl238 :: sl239 :: sl240 :: sl241 :: sl242 :: sl243 :: sl244 :: sl245 :: sl246 :: sl247 :: sl248 :: sl249 :: sl250 :: sl251 :: sl252 :: sl253 :: sl254 :: sl255 :: sl256 :: sl257 :: []), []⟩ wr := by
  conv => arg 2; whnf
  obtain ⟨p0, p1, p2, p3⟩ := cellsS K0.out.y; obtain ⟨x0, x1, x2⟩ := cells3 K0.out.x
  have lY := lt_of_blk K0.out.y; have lX := lt_of_blk K0.out.x; have lC := lt_of_blk K0.out.cb
  have hbD := K0.out.bD; have hyD := K0.out.yD
  have m0 : Moved D wr wr.drew := (Moved.start K0.out.m.deck).drew
  have zDw := K0.out.m.deck.lt
  have HT := Lib.hid (show ∀ w', Moved D wr w' → (w'.cell? ⟨Y, 0, none⟩ = some (.slice af N cf) ∧ w'.cell? ⟨Y, 1, none⟩ = some (.slice at' nt ct) ∧ w'.cell? ⟨Y, 2, none⟩ = some (.slice an nk cn) ∧ w'.cell? ⟨Y, 3, none⟩ = some (.slice as' ns cs)) ∧ (w'.cell? ⟨w.heap.size + 1, 0, none⟩ = some (.int .i64 r.id) ∧ w'.cell? ⟨w.heap.size + 1, 1, none⟩ = some (.int .i64 r.ver) ∧ w'.cell? ⟨w.heap.size + 1, 2, none⟩ = some (.slice ra r.vals.length rc)) from
    fun w' h => ⟨cellsS (h.blk hyD K0.out.y), cells3 (h.blk (by omega) K0.out.x)⟩)
  go_wp2_with fail
  refine wp_region_noPanic ?_
  refine wp_region_held_drew (S := (fun w' => (w'.cell? ⟨Y, 0, none⟩ = some (.slice af N cf) ∧ w'.cell? ⟨Y, 1, none⟩ = some (.slice at' nt ct) ∧ w'.cell? ⟨Y, 2, none⟩ = some (.slice an nk cn) ∧ w'.cell? ⟨Y, 3, none⟩ = some (.slice as' ns cs)) ∧ (w'.cell? ⟨w.heap.size + 1, 0, none⟩ = some (.int .i64 r.id) ∧ w'.cell? ⟨w.heap.size + 1, 1, none⟩ = some (.int .i64 r.ver) ∧ w'.cell? ⟨w.heap.size + 1, 2, none⟩ = some (.slice ra r.vals.length rc)))) (by kernel_rfl) (HT.out _ m0) (fun hHeld => ?_)
  refine tH 0 (h := ?_)
  refine tH 1 (h := ?_)
  refine tH 2 (h := ?_)
  refine tH 4 (h := ?_)
  refine tH 5 (h := ?_)
  refine tH 9 (h := ?_)
  refine wpAnyH_ready (rs := [3]) (by kernel_rfl) (by simp) ?_
  refine AllReadyH.cons rfl (fun K hK => ?_) AllReadyH.nil
  go_simp
  refine (record_deal D S _ _ _ _ s 3 _ m0.deck (K0.out.sa.moved K0.out.ne m0) K0.out.ne HSD.out (by omega) (by omega)).mono ?_; rintro e y1 ⟨_, q1, rfl, ⟨_, rfl, hv1⟩, hid1, hck1, hsh1, mv1⟩; obtain ⟨qa1, qc1, rfl⟩ := hv1.slice; have HV1 := Lib.hid hv1; have HQ1 := Lib.hid (ShortR.of HSD.out.check hck1); have m1 := m0.trans mv1; clear hid1 hsh1 hck1 hv1
  refine hK.out _ _ (HT.out _ m1) (fun hHeld => ?_)
  clear hK K
  try simp only [List.getElem_toArray, List.getElem_cons_zero, List.getElem_cons_succ, Act.put, List.setIfInBounds_toArray, List.set_cons_zero, List.set_cons_succ]
  refine wpAnyH_ready (rs := [6]) (by kernel_rfl) (by simp) ?_
  refine AllReadyH.cons rfl (fun K hK => ?_) AllReadyH.nil
  go_simp
  refine (record_deal D S _ _ _ _ s 4 _ m1.deck (K0.out.sa.moved K0.out.ne m1) K0.out.ne HSD.out (by omega) (by omega)).mono ?_; rintro e y2 ⟨_, q2, rfl, ⟨_, rfl, hv2⟩, hid2, hck2, hsh2, mv2⟩; obtain ⟨qa2, qc2, rfl⟩ := hv2.slice; have HV2 := Lib.hid hv2; have HQ2 := Lib.hid (ShortR.of HSD.out.check hck2); have m2 := m1.trans mv2; clear hid2 hsh2 hck2 hv2
  refine hK.out _ _ (HT.out _ m2) (fun hHeld => ?_)
  clear hK K
  try simp only [List.getElem_toArray, List.getElem_cons_zero, List.getElem_cons_succ, Act.put, List.setIfInBounds_toArray, List.set_cons_zero, List.set_cons_succ]
  refine wpAnyH_ready (rs := [7]) (by kernel_rfl) (by simp) ?_
  refine AllReadyH.cons rfl (fun K hK => ?_) AllReadyH.nil
  go_simp
  skip
  refine hK.out _ _ (HT.out _ (m2.alloc _)) (fun hHeld => ?_)
  clear hK K
  try simp only [List.getElem_toArray, List.getElem_cons_zero, List.getElem_cons_succ, Act.put, List.setIfInBounds_toArray, List.set_cons_zero, List.set_cons_succ]
  refine tH 8 (h := ?_)
  refine wpAnyH_done (by kernel_rfl) ?_ _
  refine NoPanic.normal ?_
  clear p0 p1 p2 p3 x0 x1 x2
  go_wp2_with fail
  refine wp_world (fun WL hWL => ?_)
  have mL : Moved D wr WL := by rw [hWL]; exact m2.alloc _
  have y12 := mv1.size; have y23 := mv2.size; have zm0 := m1.size
  have gT : WL.heap[y2.heap.size]? = some (.cells ((([(⟨r.id, r.ver, ra, r.vals.length, rc, r.vals⟩ : RV), ⟨q1.id, q1.ver, qa1, q1.vals.length, qc1, q1.vals⟩, ⟨q2.id, q2.ver, qa2, q2.vals.length, qc2, q2.vals⟩] : List RV)).flatMap encRV).toArray 29 (0, 0)) := by rw [hWL]; exact blk_new rfl
  have hv1 : Vec WL (Off D) 1 encS (.slice qa1 q1.vals.length qc1) q1.vals := by
    rw [hWL]; exact (((HV1.out.off (fun b _ h => by have h' : wr.drew.heap.size ≤ b := h; have : wr.drew.heap.size = wr.heap.size := rfl; omega)).movedD mv2).movedD ((Moved.start m2.deck).alloc _))
  have hv2 : Vec WL (Off D) 1 encS (.slice qa2 q2.vals.length qc2) q2.vals := by
    rw [hWL]; exact ((HV2.out.off (fun b _ h => by have h' : y1.heap.size ≤ b := h; have : wr.drew.heap.size = wr.heap.size := rfl; omega)).movedD ((Moved.start m2.deck).alloc _))
  have KL := Lib.hid (K0.out.moved mL)
  have HRS := Lib.hid (show RecsVec WL (Off D) (.slice (some ⟨y2.heap.size, 0, none⟩) 3 3) [r, q1, q2] from
    ⟨[(⟨r.id, r.ver, ra, r.vals.length, rc, r.vals⟩ : RV), ⟨q1.id, q1.ver, qa1, q1.vals.length, qc1, q1.vals⟩, ⟨q2.id, q2.ver, qa2, q2.vals.length, qc2, q2.vals⟩], blockVec (k := 3) (enc := encRV) (fun _ => rfl) gT (by have : wr.drew.heap.size = wr.heap.size := rfl; show y2.heap.size ≠ D; omega) 3 rfl, rfl, by
      intro x hx
      simp only [List.mem_cons, List.not_mem_nil, or_false] at hx
      rcases hx with rfl | rfl | rfl
      · exact KL.out.vv
      · exact hv1
      · exact hv2⟩)
  have HSR := Lib.hid (show ∀ q ∈ [r, q1, q2], ShortR q by
    intro q hq
    simp only [List.mem_cons, List.not_mem_nil, or_false] at hq
    rcases hq with rfl | rfl | rfl
    · exact HRr.out
    · exact HQ1.out
    · exact HQ2.out)
  obtain ⟨T, hT⟩ : ∃ T, y2.heap.size = T := ⟨_, rfl⟩
  rw [hT] at HRS ⊢
  obtain ⟨QS, hQS⟩ : ∃ QS, [r, q1, q2] = QS := ⟨_, rfl⟩
  have hQl : QS.length = 3 := by rw [← hQS]; rfl
  rw [hQS] at HRS HSR
  have HQl := Lib.hid hQl
  clear hWL hT mL y12 y23 zm0 gT hv1 hv2 HV1 HV2 HQ1 HQ2 m0 m1 m2 mv1 mv2 HT hQS hQl
  go_loopw [226] (fun i wr => ∃ j : Nat, j ≤ 3 ∧ i = .int .i64 j ∧ Moved D WL wr) (fun i _ => 3 - (intOf i).toNat)
  case atStart => exact ⟨0, by omega, rfl, Moved.start KL.out.m.deck⟩
  case round =>
    obtain ⟨j, hj, rfl, mj⟩ := hrel
    obtain ⟨WR, hWR⟩ : ∃ u, u = wr := ⟨_, rfl⟩
    subst hWR
    have Kj := Lib.hid (KL.out.moved mj); have HMj := Lib.hid mj
    by_cases hlt : j < 3
    · have hq : decide ((j : Int) < 3) = true := by simp; omega
      have hjl : j < QS.length := by rw [HQl.out]; exact hlt
      obtain ⟨b, off, id, ver, aa, nn, cc, vals, e, lb, c0, c1, c2, hRk, hvv⟩ := (HRS.out.movedD mj).at j hjl
      cases e
      rw [Nat.zero_add] at c0 c1 c2
      have hnn := hvv.len.1
      subst hnn
      have hsq := HSR.out _ (List.getElem_mem hjl)
      rw [hRk] at hsq
      have HVV := Lib.hid hvv; have HSq := Lib.hid hsq
      clear hvv hRk hsq hjl mj
      go_wp2_with fail
      refine wp_world (fun WQ hWQ => ?_)
      have mq : Moved D WR WQ := by rw [hWQ]; exact (Moved.start Kj.out.m.deck).alloc _
      have hZ : WQ.heap[WR.heap.size]? = some (.cells #[.int .i64 id, .int .i64 ver, .slice aa vals.length cc] 29 (0, 0)) := by rw [hWQ]; exact blk_new rfl
      have KQ := Lib.hid (Kj.out.moved mq); have HVQ := Lib.hid (HVV.out.movedD mq); have HMq := Lib.hid mq
      have zZ : WR.heap.size < WQ.heap.size := lt_of_blk hZ
      have zRD := Kj.out.m.deck.lt
      have HZ := Lib.hid hZ
      obtain ⟨Z, hZe⟩ : ∃ Z, WR.heap.size = Z := ⟨_, rfl⟩
      rw [hZe] at HZ zZ zRD ⊢
      clear hWQ mq hZ c0 c1 c2 lb HVV hZe
      obtain ⟨p0, p1, p2, p3⟩ := cellsS KQ.out.y; obtain ⟨e0, e1⟩ := cells2K KQ.out.cb
      have m0 : Moved D WQ WQ.drew := (Moved.start KQ.out.m.deck).drew
      have HT := Lib.hid (show ∀ w', Moved D WQ w' → (w'.cell? ⟨Y, 0, none⟩ = some (.slice af N cf) ∧ w'.cell? ⟨Y, 1, none⟩ = some (.slice at' nt ct) ∧ w'.cell? ⟨Y, 2, none⟩ = some (.slice an nk cn) ∧ w'.cell? ⟨Y, 3, none⟩ = some (.slice as' ns cs)) ∧ (w'.cell? ⟨w.heap.size + 2, 0, none⟩ = some (.int .i64 c.1) ∧ w'.cell? ⟨w.heap.size + 2, 1, none⟩ = some (.int .i64 c.2)) from
        fun w' h => ⟨cellsS (h.blk hyD KQ.out.y), cells2K (h.blk (by omega) KQ.out.cb)⟩)
      refine wp_region_noPanic ?_
      refine wp_region_held_drew (S := (fun w' => (w'.cell? ⟨Y, 0, none⟩ = some (.slice af N cf) ∧ w'.cell? ⟨Y, 1, none⟩ = some (.slice at' nt ct) ∧ w'.cell? ⟨Y, 2, none⟩ = some (.slice an nk cn) ∧ w'.cell? ⟨Y, 3, none⟩ = some (.slice as' ns cs)) ∧ (w'.cell? ⟨w.heap.size + 2, 0, none⟩ = some (.int .i64 c.1) ∧ w'.cell? ⟨w.heap.size + 2, 1, none⟩ = some (.int .i64 c.2)))) (by kernel_rfl) (HT.out _ m0) (fun hHeld => ?_)
      refine tH 0 (h := ?_)
      refine tH 1 (h := ?_)
      refine tH 2 (h := ?_)
      refine tH 3 (h := ?_)
      refine tH 4 (h := ?_)
      refine tH 6 (h := ?_)
      refine tH 10 (h := ?_)
      refine tH 13 (h := ?_)
      refine wpAnyH_ready (rs := [5]) (by kernel_rfl) (by simp) ?_
      refine AllReadyH.cons rfl (fun K hK => ?_) AllReadyH.nil
      go_simp
      refine (next_any D _ N m0.deck (by omega) (by omega)).mono ?_; rintro e z1 ⟨f, rfl, f0, f1, mv1⟩; have m1 := m0.trans mv1
      refine hK.out _ _ (HT.out _ m1) (fun hHeld => ?_)
      clear hK K
      try simp only [List.getElem_toArray, List.getElem_cons_zero, List.getElem_cons_succ, Act.put, List.setIfInBounds_toArray, List.set_cons_zero, List.set_cons_succ]
      refine wpAnyH_ready (rs := [7]) (by kernel_rfl) (by simp) ?_
      refine AllReadyH.cons rfl (fun K hK => ?_) AllReadyH.nil
      go_simp
      refine (next_any D _ 5 m1.deck (by omega) (by omega)).mono ?_; rintro e z2 ⟨g, rfl, g0, g1, mv2⟩; have m2 := m1.trans mv2; have hwg : IntKind.i64.wrap (1 + g) = 1 + g := by rw [IntKind.wrap_i64]; omega
      refine hK.out _ _ (HT.out _ m2) (fun hHeld => ?_)
      clear hK K
      try simp only [List.getElem_toArray, List.getElem_cons_zero, List.getElem_cons_succ, Act.put, List.setIfInBounds_toArray, List.set_cons_zero, List.set_cons_succ]
      refine tH 8 (h := ?_)
      refine tH 9 (h := ?_)
      refine wpAnyH_ready (rs := [11]) (by kernel_rfl) (by simp) ?_
      refine AllReadyH.cons rfl (fun K hK => ?_) AllReadyH.nil
      go_simp
      skip
      refine hK.out _ _ (HT.out _ (m2.alloc _)) (fun hHeld => ?_)
      clear hK K
      try simp only [List.getElem_toArray, List.getElem_cons_zero, List.getElem_cons_succ, Act.put, List.setIfInBounds_toArray, List.set_cons_zero, List.set_cons_succ]
      refine tH 12 (h := ?_)
      refine wpAnyH_done (by kernel_rfl) ?_ _
      refine NoPanic.normal ?_
      clear p0 p1 p2 p3 e0 e1
      go_wp2_with fail
      refine wp_world (fun WX hWX => ?_)
      have mX : Moved D WQ WX := by rw [hWX]; exact m2.alloc _
      have gC : WX.heap[z2.heap.size]? = some (.cells ((([c, (f, 1 + g), (0, 1)] : List (Int × Int))).flatMap encC).toArray 31 (0, 0)) := by rw [hWX]; exact blk_new rfl
      have HCS := Lib.hid (show Vec WX Any1 2 encC (.slice (some ⟨z2.heap.size, 0, none⟩) 3 3) [c, (f, 1 + g), (0, 1)] from blockVec (k := 2) (enc := encC) (fun _ => rfl) gC trivial 3 rfl)
      have KX := Lib.hid (KQ.out.moved mX); have HVX := Lib.hid (HVQ.out.movedD mX); have HZX := Lib.hid (mX.blk (k := Z) (by omega) HZ.out); have HMX := Lib.hid (HMj.out.trans (HMq.out.trans mX))
      have zZX : Z < WX.heap.size := Nat.lt_of_lt_of_le zZ mX.size
      have lYX := lt_of_blk KX.out.y
      obtain ⟨T2, hT2⟩ : ∃ T, z2.heap.size = T := ⟨_, rfl⟩
      rw [hT2] at HCS ⊢
      obtain ⟨CS, hCS⟩ : ∃ CS, [c, (f, 1 + g), (0, 1)] = CS := ⟨_, rfl⟩
      have hCl : CS.length = 3 := by rw [← hCS]; rfl
      rw [hCS] at HCS
      have HCl := Lib.hid hCl
      clear hWX mX gC hT2 hCS hCl m0 m1 m2 mv1 mv2 HT KQ HVQ HZ f0 f1 g0 g1 hwg
      go_loopw [243] (fun i wr => ∃ m : Nat, m ≤ 3 ∧ i = .int .i64 m ∧ Below WX.heap.size WX wr) (fun i _ => 3 - (intOf i).toNat)
      case atStart => exact ⟨0, by omega, rfl, Below.refl _ _⟩
      case round =>
        obtain ⟨m, hm, rfl, hbm⟩ := hrel
        obtain ⟨WM, hWM⟩ : ∃ u, u = wr := ⟨_, rfl⟩
        subst hWM
        have HBm := Lib.hid hbm
        by_cases hlt2 : m < 3
        · have hq2 : decide ((m : Int) < 3) = true := by simp; omega
          have hml : m < CS.length := by rw [HCl.out]; exact hlt2
          obtain ⟨b, off, e, lb, hc⟩ := (HCS.out.below hbm).get m hml
          cases e
          have c0 := hc 0 _ rfl; have c1 := hc 1 _ rfl
          obtain ⟨x, hx⟩ : ∃ x, CS[m] = x := ⟨_, rfl⟩
          rw [hx] at c0 c1
          rw [Nat.add_zero, Nat.zero_add] at c0
          rw [Nat.zero_add] at c1
          clear hc hx hml hbm
          go_wp2_with fail
          refine wp_world (fun WU hWU => ?_)
          have bU : Below WM.heap.size WM WU := by rw [hWU]; exact (Below.refl _ _).alloc (Nat.le_refl _) _
          have hU : WU.heap[WM.heap.size]? = some (.cells #[.int .i64 x.1, .int .i64 x.2] 31 (0, 0)) := by rw [hWU]; exact blk_new rfl
          have bXU := HBm.out.trans (bU.mono HBm.out.size)
          have HBU := Lib.hid bXU
          obtain ⟨u0, u1⟩ := cells2K hU
          obtain ⟨p0, p1, p2, p3⟩ := cellsS (blk_below bXU lYX KX.out.y)
          obtain ⟨k0, k1, k2⟩ := cells3 (blk_below bXU zZX HZX.out)
          obtain ⟨Z2, hZ2⟩ : ∃ Z, WM.heap.size = Z := ⟨_, rfl⟩
          rw [hZ2] at u0 u1 ⊢
          obtain ⟨z, hz⟩ : ∃ z, partX s x ⟨id, ver, vals⟩ = z := ⟨_, rfl⟩
          have HSS := Lib.hid (KX.out.sa.below bXU); have HVU := Lib.hid ((HVX.out.below bXU).any)
          have c1P := in_regrown WU (fun W' hb => by have h := bpart_any S _ _ _ _ s x ⟨id, ver, vals⟩ _ W' (HSS.out.below hb) (HVU.out.below hb) HSq.out.s6 HSq.out.n6 (by rw [HN.out]; omega); rw [hz] at h; exact h)
          have c2P := in_regrown WU (fun W' hb => by have h := rpart_any S _ _ _ _ s x ⟨id, ver, vals⟩ _ W' (HSS.out.below hb) (HVU.out.below hb) HSq.out.s6 HSq.out.n6 (by rw [HN.out]; omega); rw [hz] at h; exact h)
          have r0 := cell_regrown u0; have r1 := cell_regrown u1; have s0 := cell_regrown p0; have s1 := cell_regrown p1; have s2 := cell_regrown p2; have s3 := cell_regrown p3; have t0 := cell_regrown k0; have t1 := cell_regrown k1; have t2 := cell_regrown k2
          clear hWU bU hU bXU c0 c1 hZ2 hz lb
          refine wp_region_quiet_below (by kernel_rfl) (by kernel_rfl) ?_
          repeat (go_big_quiet_step (first | with_reducible exact c1P _ _ | with_reducible exact c2P _ _))
          refine wpQuiet_nil ?_
          intro w2 hw'
          have hb2 : Below WU.heap.size WU w2 := by
            obtain ⟨⟨dq, osq⟩, hw''⟩ := hw'
            rw [hw'']; exact below_regrown WU dq osq
          have HB2 := Lib.hid (HBU.out.trans (hb2.mono HBU.out.size))
          clear hw' hb2 c1P c2P r0 r1 s0 s1 s2 s3 t0 t1 t2 u0 u1 p0 p1 p2 p3 k0 k1 k2
          go_wp2_with fail
          go_roundw
          case rel => exact ⟨m + 1, by omega, by go_num, HB2.out⟩
          case measure => simp [intOf]; omega
        · have hq2 : decide ((m : Int) < 3) = false := by simp; omega
          have HM2 := Lib.hid (HMX.out.below hbm)
          clear hbm
          go_wp2_with fail
          go_roundw
          case rel => exact ⟨j + 1, by omega, by go_num, HM2.out⟩
          case measure => simp [intOf]; omega
    · have hq : decide ((j : Int) < 3) = false := by simp; omega
      have HF := Lib.hid (Kj.out.m.base HB0.out zD)
      clear mj
      go_wp2_with fail
      go_ret
      exact ⟨rfl, HF.out⟩
end
section
set_option maxRecDepth 100000
open Go.RowKit Go.WideShapes Go.ChangeShapes Go.Joins
/-- a row that came in reads as a list -/
theorem vec_in {α : Type} {w : World} {a : Addr} {len cap k : Nat} {enc : α → List Value} (g : Nat → α) (hk : ∀ x, (enc x).length = k) (hk0 : 0 < k) (hl : len ≤ cap)
    (hc : ∀ i, i < len → ∀ j u, (enc (g i))[j]? = some u → w.cell? (a.add (i * k + j)) = some u) : Vec w Any1 k enc (.slice (some a) len cap) ((List.range len).map g) := by
  refine ⟨some a, cap, by simp, by simpa using hl, fun h0 => ?_⟩
  have h0 : 0 < len := by simpa using h0
  obtain ⟨b, off, spot⟩ := a
  obtain ⟨u, hu⟩ : ∃ u, (enc (g 0))[0]? = some u := ⟨_, List.getElem?_eq_getElem (by rw [hk]; exact hk0)⟩
  have c0 := hc 0 h0 0 u hu
  have hs : spot = none := by
    cases spot with
    | none => rfl
    | some s =>
      exfalso
      have he : ((⟨b, off, some s⟩ : Addr).add (0 * k + 0)).spot.isSome = true := by unfold Addr.add; split <;> simp_all
      unfold World.cell? at c0
      split at c0
      · rw [if_pos he] at c0; cases c0
      · cases c0
  subst hs
  refine ⟨b, off, rfl, trivial, ?_, fun j x hj i u hu => ?_⟩
  · rw [add_plain] at c0; exact World.block_lt_of_cell? _ _ c0
  · have hjl : j < len := by have := (List.getElem?_eq_some_iff.1 hj).1; simpa using this
    rw [List.getElem?_map, List.getElem?_range hjl] at hj
    obtain rfl := Option.some.inj hj
    have := hc j hjl i u hu
    rw [add_plain] at this
    rw [Nat.add_assoc]; exact this
def bytesOf (v : Value) : List UInt8 := match v with | .string s => s.data.toList | _ => []
theorem bytesOf_mk (s : ByteArray) : Value.string s = strV (bytesOf (.string s)) := by
  show Value.string s = .string ⟨s.data.toList.toArray⟩
  simp
def numOf (v : Value) : Int := match v with | .int _ n => n | _ => 0
section
variable {H : Type} {enc : TypeId × Value → H} {W : World} {base : Nat} {spare : Nat → Bool} {held : Bool}
theorem in_strs {fuel : Nat} {cs : List Value} {x : DataW H × List MemPlace} (h : DataW.trod enc Tryz.prog W base spare held fuel 27 cs = some x) : ∃ v L, cs = [v] ∧ Vec W Any1 1 encS v L := by
  rcases Go.Deep.open_strs Tryz.underlying27 Tryz.underlying9 (by kernel_rfl) h with ⟨rfl, _⟩ | ⟨a, len, cap, m, Sx, rfl, _, hl, _, hm, _, hx⟩
  · exact ⟨_, [], rfl, Vec.nil _ _ _ _⟩
  · have hlm : len ≤ m := by rw [hm]; split <;> omega
    refine ⟨_, _, rfl, vec_in (fun i => (Sx i).data.toList) (fun _ => rfl) (by omega) hl fun i hi j u hu => ?_⟩
    cases j with
    | zero => cases hu; rw [Nat.mul_one]; rw [show strV (Sx i).data.toList = .string (Sx i) from (bytesOf_mk _).symm]; exact (hx i (by omega)).1
    | succ j => simp [encS] at hu
end
end
section
set_option maxRecDepth 100000
open Go.RowKit Go.WideShapes Go.ChangeShapes Go.Joins
instance : Inhabited RV := ⟨⟨0, 0, none, 0, 0, []⟩⟩
section
variable {H : Type} {enc : TypeId × Value → H} {W : World} {base : Nat} {spare : Nat → Bool} {held : Bool}
theorem open_record {r : Reach} {b0 : Nat} {v : Value} {d : DataW H} {ps : List MemPlace} (hv : Value.okWide Tryz.prog W r b0 29 v) (h : DataW.Trod enc Tryz.prog W base spare held 29 v d ps) :
    ∃ (id ver : Int) (sv : Value) (vals : List (List UInt8)), v = .agg #[.int .i64 id, .int .i64 ver, sv] ∧ Vec W Any1 1 encS sv vals := by
  obtain ⟨cs, rfl, hsz⟩ := okWide_struct Tryz.underlying29 hv
  obtain ⟨c0, c1, c2, rfl⟩ := array3 (hsz.trans (by kernel_rfl))
  obtain ⟨fuel, hf⟩ := h
  obtain ⟨xs, n, _, _, _, hlen, hx⟩ := DataW.trod_struct Tryz.underlying29 hf
  have h0 := hx 0 _ rfl
  have h1 := hx 1 _ rfl
  have h2 := hx 2 _ rfl
  rw [List.getElem?_eq_getElem (by rw [hlen]; decide)] at h0 h1 h2
  simp only [Value.cells] at h0 h1 h2
  obtain ⟨s0, e0, _⟩ := DataW.trod_int Tryz.underlying3 h0
  obtain ⟨s1, e1, _⟩ := DataW.trod_int Tryz.underlying3 h1
  obtain ⟨xs2, L, e2, hL⟩ := in_strs h2
  have k3 : Tryz.prog.cellsOf 3 = 1 := by kernel_rfl
  have k28 : Tryz.prog.cellsOf 27 = 1 := by kernel_rfl
  simp [k3, k28] at e0 e1 e2
  exact ⟨s0, s1, c2, L, by rw [e0, e1], by rw [e2]; exact hL⟩
theorem open_key2 {r : Reach} {b0 : Nat} {v : Value} {d : DataW H} {ps : List MemPlace} (hv : Value.okWide Tryz.prog W r b0 26 v) (h : DataW.Trod enc Tryz.prog W base spare held 26 v d ps) :
    ∃ x y : Int, v = .agg #[.int .u64 x, .int .u64 y] := by
  obtain ⟨cs, rfl, hsz⟩ := okWide_struct Tryz.underlying26 hv
  obtain ⟨c0, c1, rfl⟩ := array2 (hsz.trans (by kernel_rfl))
  obtain ⟨fuel, hf⟩ := h
  obtain ⟨xs, n, _, _, _, hlen, hx⟩ := DataW.trod_struct Tryz.underlying26 hf
  have h0 := hx 0 _ rfl
  have h1 := hx 1 _ rfl
  rw [List.getElem?_eq_getElem (by rw [hlen]; decide)] at h0 h1
  simp only [Value.cells] at h0 h1
  obtain ⟨s0, e0, _⟩ := DataW.trod_int Tryz.underlying24 h0
  obtain ⟨s1, e1, _⟩ := DataW.trod_int Tryz.underlying24 h1
  have k3 : Tryz.prog.cellsOf 24 = 1 := by kernel_rfl
  simp [k3] at e0 e1
  exact ⟨s0, s1, by rw [e0, e1]⟩
end
end
section
set_option maxRecDepth 100000
open Go.RowKit Go.WideShapes Go.ChangeShapes Go.Joins
instance : Inhabited SV := ⟨⟨none, 0, 0⟩⟩
section
variable {H : Type} {enc : TypeId × Value → H} {W : World} {base : Nat} {spare : Nat → Bool} {held : Bool}
theorem in_comps {fuel : Nat} {cs : List Value} {x : DataW H × List MemPlace} (h : DataW.trod enc Tryz.prog W base spare held fuel 49 cs = some x) : ∃ v L, cs = [v] ∧ Vec W Any1 2 encC v L := by
  rcases Go.Deep.open_slice_pairs Tryz.underlying49 Tryz.underlying31 (by kernel_rfl) rfl rfl (by kernel_rfl) (by kernel_rfl) h with ⟨rfl, _⟩ | ⟨a, len, cap, m, n, V0, V1, D0, D1, P0, P1, rfl, _, hl, _, hm, _, hx⟩
  · exact ⟨_, [], rfl, Vec.nil _ _ _ _⟩
  · have hlm : len ≤ m := by rw [hm]; split <;> omega
    refine ⟨_, _, rfl, vec_in (fun i => (numOf (V0 i), numOf (V1 i))) (fun _ => rfl) (by omega) hl fun i hi j u hu => ?_⟩
    obtain ⟨c0, c1, g0, g1⟩ := hx i (by omega)
    obtain ⟨s0, e0, _⟩ := DataW.trod_int Tryz.underlying3 g0
    obtain ⟨s1, e1, _⟩ := DataW.trod_int Tryz.underlying3 g1
    simp only [List.cons.injEq, and_true] at e0 e1
    match j, hu with
    | 0, hu => cases hu; dsimp only; rw [e0]; show W.cell? _ = some (.int .i64 s0); rw [← e0]; exact c0
    | 1, hu => cases hu; dsimp only; rw [e1]; show W.cell? _ = some (.int .i64 s1); rw [← e1]; exact c1
    | j + 2, hu => simp [encC] at hu
theorem in_bkey {fuel : Nat} {cs : List Value} {x : DataW H × List MemPlace} (h : DataW.trod enc Tryz.prog W base spare held fuel 51 cs = some x) (hl : cs.length = 1) : ∃ v L, cs = [v] ∧ Vec W Any1 2 encC v L := by
  obtain ⟨c0, rfl⟩ : ∃ c0, cs = [c0] := by
    match cs, hl with
    | [c0], _ => exact ⟨c0, rfl⟩
  obtain ⟨xs, n, _, _, _, hlen, hx⟩ := DataW.trod_struct Tryz.underlying51 h
  have h0 := hx 0 _ rfl
  rw [List.getElem?_eq_getElem (by rw [hlen]; decide)] at h0
  obtain ⟨v, L, e, hv⟩ := in_comps h0
  have k : Tryz.prog.cellsOf 49 = 1 := by kernel_rfl
  simp [k] at e
  exact ⟨c0, L, rfl, by rw [e]; exact hv⟩
theorem in_keys {fuel : Nat} {cs : List Value} {x : DataW H × List MemPlace} (h : DataW.trod enc Tryz.prog W base spare held fuel 23 cs = some x) : ∃ v Ks, cs = [v] ∧ KeysVec W Any1 v Ks ∧ Ks.length ≤ maxLen := by
  rcases Go.Deep.open_slice Tryz.underlying23 h with ⟨rfl, _⟩ | ⟨a, len, cap, m, n, D, Pl, rfl, _, hl, hmx, hmm, _, hx⟩
  · exact ⟨_, [], rfl, ⟨[], Vec.nil _ _ _ _, rfl, fun n h => by simp at h⟩, Nat.zero_le _⟩
  · have hlm : len ≤ m := by rw [hmm]; split <;> omega
    have ce : Tryz.prog.cellsOf 51 = 1 := by kernel_rfl
    have each : ∀ i, i < len → ∃ q : SV × List (Int × Int), W.cell? (a.add (i * 1)) = some (.slice q.1.a q.1.n q.1.c) ∧ Vec W Any1 2 encC (.slice q.1.a q.1.n q.1.c) q.2 := by
      intro i hi
      obtain ⟨cs', h1, h2⟩ := hx i (by omega)
      rw [ce] at h1
      obtain ⟨_, hlen, hcell⟩ := World.cells?_some h1
      obtain ⟨v, L, rfl, hv⟩ := in_bkey h2 hlen
      obtain ⟨va, vc, rfl⟩ := hv.slice
      have e0 := hcell 0 (by omega)
      rw [Go.Deep.add_add] at e0
      refine ⟨(⟨va, L.length, vc⟩, L), ?_, hv⟩
      simpa using e0
    obtain ⟨q, hq⟩ := Go.Deep.choose_lt each
    refine ⟨_, (List.range len).map fun i => (q i).2, rfl, ⟨(List.range len).map fun i => (q i).1, ?_, ?_, ?_⟩, by simp; omega⟩
    · refine vec_in (k := 1) (enc := encSV) (fun i => (q i).1) (fun _ => rfl) (by omega) hl fun i hi j u hu => ?_
      match j, hu with
      | 0, hu => cases hu; exact (hq i hi).1
      | j + 1, hu => simp at hu
    · simp
    · intro n h1 h2
      rw [List.getElem_map, List.getElem_map, List.getElem_range]
      exact (hq n (by simpa using h1)).2
theorem open_keys {r : Reach} {b0 : Nat} {v : Value} {d : DataW H} {ps : List MemPlace} (hv : Value.okWide Tryz.prog W r b0 23 v) (h : DataW.Trod enc Tryz.prog W base spare held 23 v d ps) : ∃ Ks, KeysVec W Any1 v Ks ∧ Ks.length ≤ maxLen := by
  obtain ⟨a, len, cap, rfl⟩ := okWide_slice Tryz.underlying23 hv
  obtain ⟨fuel, hf⟩ := h
  obtain ⟨u, Ks, e, hk⟩ := in_keys hf
  simp [Value.cells] at e
  exact ⟨Ks, by rw [e]; exact hk⟩
theorem open_comp2 {r : Reach} {b0 : Nat} {v : Value} {d : DataW H} {ps : List MemPlace} (hv : Value.okWide Tryz.prog W r b0 31 v) (h : DataW.Trod enc Tryz.prog W base spare held 31 v d ps) :
    ∃ x y : Int, v = .agg #[.int .i64 x, .int .i64 y] := by
  obtain ⟨cs, rfl, hsz⟩ := okWide_struct Tryz.underlying31 hv
  obtain ⟨c0, c1, rfl⟩ := array2 (hsz.trans (by kernel_rfl))
  obtain ⟨fuel, hf⟩ := h
  obtain ⟨xs, n, _, _, _, hlen, hx⟩ := DataW.trod_struct Tryz.underlying31 hf
  have h0 := hx 0 _ rfl
  have h1 := hx 1 _ rfl
  rw [List.getElem?_eq_getElem (by rw [hlen]; decide)] at h0 h1
  simp only [Value.cells] at h0 h1
  obtain ⟨s0, e0, _⟩ := DataW.trod_int Tryz.underlying3 h0
  obtain ⟨s1, e1, _⟩ := DataW.trod_int Tryz.underlying3 h1
  have k3 : Tryz.prog.cellsOf 3 = 1 := by kernel_rfl
  simp [k3] at e0 e1
  exact ⟨s0, s1, by rw [e0, e1]⟩
end
end
end Go.Proofs.YtaoebplnbcimlaaGreatDoor
