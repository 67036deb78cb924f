/- Parts of one proof: DeckKeys, BlkP, BlkAwake, DeckKey, RefTextA, RefTextB, FoldPlain, RefTextC, RefTextD, RefTextE, RefNameA, RefNameB, RefNameC. -/
import Derived.Test.YtdckkggmmakfiaaGreatDoorPartBlockingAgree6
import Derived.Deep.AppendLies
import Derived.Deep.RegionLaw
import Derived.Deep.DeepCutAuto
import Derived.Deep.CutBlock
section
/- recordlinkmake: BlockKeys: some block keys of a schema. -/
set_option linter.unusedSimpArgs false
set_option linter.unusedVariables false
set_option maxRecDepth 100000
namespace Go.Proofs.YtdckkggmmakfiaaGreatDoor
open Go.RowKit
attribute [local go_sem] toList_mk mk_size str_append
theorem infoC : (Tryz.prog.info? 48).map (fun i => (i.zero, i.size, i.bytes)) = some (some (.agg #[.int .i64 0, .int .i64 0]), 2, 16) := by kernel_rfl
theorem infoK : (Tryz.prog.info? 43).map (fun i => (i.zero, i.size, i.bytes)) = some (some (.agg #[.slice none 0 0]), 1, 24) := by kernel_rfl
theorem one_encSV : ∀ x : SV, ∀ u ∈ encSV x, u.oneCell' = true := by intro x u hu; simp at hu; subst hu; rfl
theorem KeysAll.move {w w' : World} {S T : Nat → Prop} {C : List SV} {Ks : List (List (Int × Int))} (h : KeysAll w S C Ks) (hz : w.heap.size ≤ w'.heap.size) (hS : ∀ x, x < w.heap.size → S x → w'.heap[x]? = w.heap[x]? ∧ T x) : KeysAll w' T C Ks :=
  ⟨h.1, fun n h1 h2 => (h.2 n h1 h2).move hz hS⟩
theorem KeysAll.snoc {w : World} {S : Nat → Prop} {C : List SV} {Ks : List (List (Int × Int))} {c : SV} {K : List (Int × Int)} (h : KeysAll w S C Ks) (hc : Vec w S 2 encC (.slice c.a c.n c.c) K) : KeysAll w S (C ++ [c]) (Ks ++ [K]) := by
  refine ⟨by simp [h.1], fun n h1 h2 => ?_⟩
  by_cases hn : n < C.length
  · rw [List.getElem_append_left hn, List.getElem_append_left (by rw [← h.1]; exact hn)]; exact h.2 n _ _
  · have : n = C.length := by simp at h1; omega
    subst this
    rw [List.getElem_append_right (Nat.le_refl _), List.getElem_append_right (by rw [h.1]; exact Nat.le_refl _)]
    simpa [h.1] using hc
section
variable {α : Type} {P : Program} {w : World} {ops : Array Oper} {rest : List Oper} {o : Oper} {a : Act} {Q : Exit → Act → World → Prop}
/-- append while the deck moves on; where the row lies afterwards -/
theorem wpList_append_mat (hgd : o.guard = none) (s x : Operand) (t : TypeId) (ho : o.op = .call { callee := .builtin .append, args := #[s, x], argTypes := #[t, t] })
    (D e : Nat) (z : Value) (size bytes : Nat) (enc : α → List Value) (hk : ∀ x, (enc x).length = size) (h1 : ∀ x, ∀ u ∈ enc x, u.oneCell' = true) (ht : P.underlying t = some (.slice e)) (hinfo : (P.info? e).map (fun i => (i.zero, i.size, i.bytes)) = some (some z, size, bytes))
    (hzs : z.cells.size = size) (hsz : 0 < size) (hby : bytes ≤ 128) {wA : World} {v u : Value} {A B : List α} (hs : a.eval s = v) (hown : OwnM D e size enc wA v A w) (hx : a.eval x = u) (hr : Reads w size u B.length (B.flatMap enc)) (hn : A.length + B.length ≤ 1000000000)
    (h : ∀ v' w', OwnM D e size enc wA v' (A ++ B) w' → (∀ k o, some k ≠ v.ownBlock → w.heap[k]? = some o → w'.heap[k]? = some o) → w.heap.size ≤ w'.heap.size → (v'.ownBlock = none ∨ v.ownBlock = v'.ownBlock ∨ v'.ownBlock = some w.heap.size) → wpList P ops Q rest (a.put o.dst v') w') : wpList P ops Q (o :: rest) a w := by
  refine wpList_plain hgd fun K hK => ?_
  refine wp_append_reads s x t ho wA.heap.size e z size bytes ht hinfo hzs hsz v A.length (A.flatMap enc) hs hown.1 u B.length (B.flatMap enc) hx hr (fun u hu => ?_) (by unfold maxLen; omega) ?_ hown.2.size ?_
  · obtain ⟨y, _, hy⟩ := List.mem_flatMap.1 hu
    exact h1 y u hy
  · exact Nat.le_trans (Nat.mul_le_mul hn hby) (by decide)
  · intro v' w' ho' hg hat
    refine hK _ _ (h v' w' ⟨by rw [List.length_append, List.flatMap_append]; exact ho', hown.2.grown' hg fun k hk => ?_⟩ (fun k o hk hko => (hg.block k (lt_of_blk hko) hk).trans hko) hg.size hat)
    rcases hown.1.2 with ⟨rfl, _⟩ | ⟨g, cap, cur, rfl, hg1, _⟩
    · simp [Value.ownBlock] at hk
    · have : g = k := by simpa [Value.ownBlock] using hk
      omega
end
theorem infoBK : (Tryz.prog.info? 43).map (fun i => (i.zero, i.size, i.bytes)) = some (some (.agg #[.slice none 0 0]), 1, 24) := by kernel_rfl
/-- block keys that are being dealt: the outer row -/
structure KOut (D : Nat) (W : World) (F : List F2) (v : Value) (C : List SV) (Ks : List (List (Int × Int))) (wr : World) : Prop where
  own : OwnM D 43 1 encSV W v C wr
  keys : KeysAll wr (OffRow W.heap.size v) C Ks
  ok : ∀ K ∈ Ks, KeyOk F K
theorem KOut.nil {D : Nat} {W wr : World} {F : List F2} (m : Moved D W wr) : KOut D W F (.slice none 0 0) [] [] wr := ⟨OwnM.nil m, ⟨rfl, fun n h => by simp at h⟩, fun K h => by simp at h⟩
theorem KOut.moved {D : Nat} {W wr wx : World} {F : List F2} {v : Value} {C : List SV} {Ks : List (List (Int × Int))} (h : KOut D W F v C Ks wr) (m : Moved D wr wx) : KOut D W F v C Ks wx :=
  ⟨h.own.moved m, h.keys.move m.size fun x hx hs => ⟨m.grown.block x hx (by have := h.own.2.lt; have := hs.1; simp; omega), hs⟩, h.ok⟩
/-- the key that is being dealt: its block y, its components' row -/
structure KIn (D : Nat) (wo : World) (y : Nat) (F : List F2) (f : Nat) (u : Value) (L : List (Int × Int)) (wx : World) : Prop where
  x : wx.heap[y]? = some (.cells #[u] 43 (0, 0))
  own : wx.ownsRow (y + 1) 48 2 u L.length (L.flatMap encC)
  mv : Moved D wo wx
  le : wo.heap.size ≤ y
  key : KeyD F f L
theorem KIn.gone {D : Nat} {wo : World} {y : Nat} {F : List F2} {f : Nat} {u : Value} {L : List (Int × Int)} {wx wd : World} (h : KIn D wo y F f u L wx) (m : Moved D wx wd) : KIn D wo y F f u L wd := by
  have hD := h.mv.lt
  have hle := h.le
  exact ⟨m.blk (by omega) h.x, own_same h.own fun g h1 h2 => m.grown.block g h2 (by simp; omega), h.mv.trans m, hle, h.key⟩
theorem KIn.step {D : Nat} {wo : World} {y : Nat} {F : List F2} {f : Nat} {u v : Value} {L : List (Int × Int)} {c : Int × Int} {wx wA w2 : World} (h : KIn D wo y F f u L wx) (hb : Below wx.heap.size wx wA) (hg : wA.grownBy w2 u.ownBlock)
    (hown : w2.ownsRow (y + 1) 48 2 v (L.length + 1) (L.flatMap encC ++ encC c)) (hx : KeyD F (f + 1) (L ++ [c])) : KIn D wo y F (f + 1) v (L ++ [c]) (w2.setCell ⟨y, 0, none⟩ v) := by
  have hy := h.le
  have hD := h.mv.lt
  have zx := lt_of_blk h.x
  have hz := hb.size; have hz2 := hg.size
  have k1 : ∀ k, k < y + 1 → w2.heap[k]? = wx.heap[k]? := fun k hk => (hg.block k (by omega) (own_far h.own hk)).trans (hb.block k (by omega))
  have k2 : ∀ k, k < y → (w2.setCell ⟨y, 0, none⟩ v).heap[k]? = wx.heap[k]? := fun k hk => (heap_setCell_other _ _ _ _ (by show k ≠ y; omega)).trans (k1 k (by omega))
  have hs : (w2.setCell ⟨y, 0, none⟩ v).heap.size = w2.heap.size := by simp [World.setCell]
  refine ⟨blk_set (i := 0) (v := v) ((k1 y (by omega)).trans h.x), ?_, ?_, hy, hx⟩
  · rw [List.length_append, List.flatMap_append, show [c].flatMap encC = encC c by simp]
    exact own_same hown fun g h1 h2 => heap_setCell_other _ _ _ _ (by simp; omega)
  · have m := h.mv
    refine ⟨⟨hg.os.trans (hb.os.trans m.grown.os), hg.tape.trans (hb.tape.trans m.grown.tape), hg.output.trans (hb.output.trans m.grown.output), by have := m.size; omega, fun k hk hr => ?_⟩, m.deck.same fun k hk => k2 k (by omega), m.lt⟩
    exact (k2 k (by omega)).trans (m.grown.block k hk hr)
def KeysPost (D : Nat) (s : SchemaL) (most : Nat) (w : World) (e : Ending) (w' : World) : Prop := ∃ v Ks, e = .returned v ∧ KeysVec w' (fun b => w.heap.size ≤ b) v Ks ∧ Ks.length ≤ most ∧ (∀ K ∈ Ks, KeyOk s.fields K) ∧ Moved D w w'
def ownTbl : List Int := [0, 2, 4, 1, 5]
theorem tbl_cellK {w : World} {b : Nat} {l : List Int} (h : w.heap[b]? = some (.cells (l.map (Value.int .i64)).toArray 3 (0, 0))) (k : Nat) (hk : k < l.length) : w.cell? ⟨b, k, none⟩ = some (.int .i64 (l.getD k 0)) := by
  rw [cell_of_row _ _ _ _ _ _ h, List.getElem?_toArray, List.getElem?_map, List.getD, List.getElem?_eq_getElem hk]; rfl
theorem ownTbl_eq {k : Int} (h : 1 ≤ k ∧ k ≤ 4) : ownTbl.getD k.toNat 0 = ownT k := by
  rcases (by omega : k = 1 ∨ k = 2 ∨ k = 3 ∨ k = 4) with rfl | rfl | rfl | rfl <;> rfl
set_option maxHeartbeats 8000000 in
theorem keys_deal (D : Nat) (S : Nat → Prop) (vf vt vn vs : Value) (s : SchemaL) (most : Nat) (w : World) (h : DeckAt w D) (hs : SchemaAt w S vf vt vn vs s) (hS : ∀ b, S b → b ≠ D) (hd : SchemaD s) (hm : most ≤ 7) :
    Calls Tryz.prog 11 #[.pointer (some ⟨D, 0, none⟩), .agg #[vf, vt, vn, vs], .int .i64 most] w (KeysPost D s most w) := by
  have zD := h.lt
  have M0 := Lib.hid (Moved.start h); clear h
  obtain ⟨af, cf, rfl⟩ := hs.1.slice
  have h5 := hd.fields.len
  have h1 := hd.some
  have HS := Lib.hid hs; have HSD := Lib.hid hd; have HSne := Lib.hid hS
  clear hs hd hS
  go_enter Tryz.func11, Tryz.ntmps11
  go_wp2_with fail
  refine wp_calls_world (fun W hW => ?_)
  have hm0 : Moved D w W := by rw [hW]; exact M0.out.alloc _
  have hb0 : Below w.heap.size w W := by rw [hW]; exact (Below.refl w.heap.size w).alloc (Nat.le_refl _) _
  have hs0 : W.heap[w.heap.size]? = some (.cells #[.slice af s.fields.length cf, vt, vn, vs] 33 (0, 0)) := by rw [hW]; exact blk_new rfl
  have hzW : W.heap.size = w.heap.size + 1 := by rw [hW]; simp
  clear hW
  have HM := Lib.hid hm0; have HS0 := Lib.hid hs0; have HSW := Lib.hid (HS.out.below hb0); have HZW := Lib.hid hzW
  clear hm0 hs0 hb0 hzW
  obtain ⟨n, hn⟩ : ∃ n, s.fields.length = n := ⟨_, rfl⟩
  rw [hn] at HS0 HSW h5 h1 ⊢
  have HN := Lib.hid hn; clear hn
  refine (next_any D _ (most + 1) HM.out.deck (by omega) (by omega)).mono ?_
  rintro e w1 ⟨q, rfl, q0, q1, mv⟩
  obtain ⟨q, rfl⟩ := Int.eq_ofNat_of_zero_le q0
  have M1 := Lib.hid (HM.out.trans mv)
  have MW := Lib.hid mv
  clear mv
  go_wp2_with fail
  go_loopw [7, 8] (fun v i wr => ∃ (j : Nat) (C : List SV) (Ks : List (List (Int × Int))), i = .int .i64 j ∧ Ks.length + j = q ∧ KOut D W s.fields v C Ks wr) (fun _ i _ => (intOf i).toNat)
  case atStart => exact ⟨q, [], [], rfl, by simp, KOut.nil MW.out⟩
  case round =>
    obtain ⟨j, C, Ks, rfl, hj, ho⟩ := hrel
    have HO := Lib.hid ho; have HJ := Lib.hid hj; clear ho hj
    have hzr := HO.out.own.2.size
    by_cases hlt : 0 < j
    · have hq : decide ((0 : Int) < (j : Int)) = true := by simp; omega
      obtain ⟨wo, rfl⟩ : ∃ wo : World, wo = wr := ⟨_, rfl⟩
      go_wp2_with fail
      refine wp_world (fun Wi hWi => ?_)
      have hbi : Below wo.heap.size wo Wi := by rw [hWi]; exact (Below.refl wo.heap.size wo).alloc (Nat.le_refl _) _
      have hxi : Wi.heap[wo.heap.size]? = some (.cells #[.slice none 0 0] 43 (0, 0)) := by rw [hWi]; exact blk_new rfl
      clear hWi
      have KI := Lib.hid (show KIn D wo wo.heap.size s.fields 0 (.slice none 0 0) [] Wi from ⟨hxi, ⟨rfl, .inl ⟨rfl, rfl⟩⟩, (Moved.start HO.out.own.2.deck).below hbi, Nat.le_refl _, KeyD.nil _⟩)
      clear hbi hxi
      go_loopw [10] (fun t wx => ∃ (f : Nat) (u : Value) (L : List (Int × Int)), t = .int .i64 f ∧ f ≤ n ∧ KIn D wo wo.heap.size s.fields f u L wx) (fun t _ => n - (intOf t).toNat)
      case atStart => exact ⟨0, _, [], rfl, by omega, KI.out⟩
      case round =>
        obtain ⟨f, u, L, rfl, hf, hki⟩ := hrel
        have HI := Lib.hid hki
        obtain ⟨au, cu, rfl⟩ := own_slice hki.own
        have hlen := hki.key.len
        have mWx := HO.out.own.2.trans hki.mv
        have hsx := mWx.blk (k := w.heap.size) (by omega) HS0.out
        obtain ⟨s0, s1, s2, s3⟩ := cellsS hsx
        have hzs := lt_of_blk hsx
        have c0 := (by rw [cell_of_row _ _ _ _ _ _ hki.x]; rfl : wr.cell? ⟨wo.heap.size, 0, none⟩ = some (.slice au L.length cu))
        have zx := lt_of_blk hki.x
        have HMW := Lib.hid mWx; have HSX := Lib.hid hsx
        clear mWx hsx hki KI
        by_cases hfc : f < n ∧ L.length < 3
        · obtain ⟨hfn, hL3⟩ := hfc
          have hqf : decide ((f : Int) < (n : Int)) = true := by simp; omega
          have hqL : decide ((L.length : Int) < 3) = true := by simp; omega
          go_wp2_with fail
          refine (one_any D _ 2 HI.out.mv.deck (by omega) (by omega)).mono ?_
          rintro e w3 ⟨u1, rfl, mv⟩
          have HI3 := Lib.hid (HI.out.gone mv); have HM3 := Lib.hid (HMW.out.trans mv)
          have hs3 := mv.blk (k := w.heap.size) (by omega) HSX.out
          have HS3 := Lib.hid hs3
          clear mv hs3 s0 s1 s2 s3 c0 HI HMW HSX
          cases u1
          · go_wp2_with fail
            go_roundw
            case rel => exact ⟨f + 1, _, L, by go_num, by omega, ⟨HI3.out.x, HI3.out.own, HI3.out.mv, HI3.out.le, HI3.out.key.skip⟩⟩
            case measure => simp [intOf]; omega
          · go_wp2_with fail
            refine (next_any D _ 2 (HI3.out.mv.alloc _).deck (by omega) (by omega)).mono ?_
            rintro e w4 ⟨p, rfl, p0, p1, mv⟩
            obtain ⟨p, rfl⟩ := Int.eq_ofNat_of_zero_le p0
            have mv34 := ((Moved.start HI3.out.mv.deck).alloc (.cells #[.int .i64 1, .int .i64 3] 3)).trans mv
            have htb := mv.blk (k := w3.heap.size) (by have := HI3.out.mv.size; have := HI3.out.mv.lt; omega) (blk_new (w := w3) (o := .cells #[.int .i64 1, .int .i64 3] 3) rfl)
            have hpc := tbl_cellK (l := [1, 3]) htb p (by show p < 2; omega)
            obtain ⟨t1, ht1⟩ : ∃ t1, ([1, 3] : List Int).getD p 0 = t1 := ⟨_, rfl⟩
            rw [ht1] at hpc
            have ht13 : t1 = 1 ∨ t1 = 3 := by
              rw [← ht1]
              rcases (by omega : p = 0 ∨ p = 1) with rfl | rfl
              · exact .inl rfl
              · exact .inr rfl
            have hpi : (p : Int) < 2 := by omega
            have HI4 := Lib.hid (HI3.out.gone mv34); have HM4 := Lib.hid (HM3.out.trans mv34)
            have HS4 := Lib.hid (mv34.blk (k := w.heap.size) (by omega) HS3.out)
            have HT13 := Lib.hid ht13
            have lt3 := lt_of_blk htb
            clear mv mv34 htb ht1 ht13 HI3 HM3 HS3
            go_wp2_with fail
            refine (one_any D _ 2 HI4.out.mv.deck (by omega) (by omega)).mono ?_
            rintro e w5 ⟨u2, rfl, mv⟩
            have HI5 := Lib.hid (HI4.out.gone mv); have HM5 := Lib.hid (HM4.out.trans mv)
            have HS5 := Lib.hid (mv.blk (k := w.heap.size) (by omega) HS4.out)
            have hfF : f < s.fields.length := by rw [HN.out]; exact hfn
            obtain ⟨fb, fo, eaf, hSb, hfb, hfc⟩ := fields_cell HSW.out.1 (by omega)
            cases eaf
            have hbD := HSne.out fb hSb
            have kc := (World.cell?_of_block (w := W) (a := ⟨fb, fo + f * 2 + 1, none⟩) (HM5.out.grown.block fb hfb (by simp; omega))).trans (hfc f hfF)
            have hkd := HSD.out.fields.kinds (s.fields.getD f default) (by rw [List.getD, List.getElem?_eq_getElem hfF]; exact List.getElem_mem hfF)
            obtain ⟨kd, hkde⟩ : ∃ kd, (s.fields.getD f default).2 = kd := ⟨_, rfl⟩
            rw [hkde] at kc hkd
            obtain ⟨kn, rfl⟩ := Int.eq_ofNat_of_zero_le (show 0 ≤ kd by omega)
            have HKD := Lib.hid hkde
            have hk1 : 1 ≤ kn := by omega
            have hk4 : kn ≤ 4 := by omega
            have zfb : fb < w5.heap.size := by have := HM5.out.size; omega
            clear mv HI4 HM4 HS4 hfc hkde hkd hpc lt3 hfb hSb
            go_upto_if 42 with (fail)
            go_cut [11] (fun s11 wx => ∃ t : Int, s11 = .int .i64 t ∧ fitsB t kn = true ∧ KIn D wo wo.heap.size s.fields f (.slice au L.length cu) L wx)
            case first =>
              cases u2
              · go_wp2_with fail
                go_meet
                exact ⟨t1, rfl, by rcases HT13.out with h | h <;> rw [h] <;> rfl, HI5.out⟩
              · obtain ⟨s0, s1, s2, s3⟩ := cellsS HS5.out
                have hzs := lt_of_blk HS5.out
                have htb : (w5.alloc (.cells (ownTbl.map (Value.int .i64)).toArray 3)).heap[w5.heap.size]? = some (.cells (ownTbl.map (Value.int .i64)).toArray 3 (0, 0)) := blk_new rfl
                have hoc := tbl_cellK (l := ownTbl) htb kn (by show kn < 5; omega)
                have hoe : ownTbl.getD kn 0 = ownT kn := ownTbl_eq (k := kn) (by omega)
                rw [hoe] at hoc
                have hoc2 : (w5.alloc (.cells #[.int .i64 0, .int .i64 2, .int .i64 4, .int .i64 1, .int .i64 5] 3)).cell? ⟨w5.heap.size, kn, none⟩ = some (.int .i64 (ownT kn)) := hoc
                have hki : (kn : Int) < 5 := by omega
                have hfi : (f : Int) < (n : Int) := by omega
                obtain ⟨ot, hot⟩ : ∃ ot, ownT kn = ot := ⟨_, rfl⟩
                rw [hot] at hoc2
                have HOT := Lib.hid (show fitsB ot kn = true by rw [← hot]; exact fits_own (by omega))
                have HI6 := Lib.hid (HI5.out.gone ((Moved.start HI5.out.mv.deck).alloc (.cells #[.int .i64 0, .int .i64 2, .int .i64 4, .int .i64 1, .int .i64 5] 3)))
                clear hoc hoe htb hot
                go_wp2_with fail
                go_meet
                exact ⟨ot, rfl, HOT.out, HI6.out⟩
            case rest =>
              obtain ⟨t, rfl, hft, hki⟩ := hcut
              have HX := Lib.hid hki
              clear hki HI5 HM5 HS5 kc HT13
              have cY := (by rw [cell_of_row _ _ _ _ _ _ HX.out.x]; rfl : wc.cell? ⟨wo.heap.size, 0, none⟩ = some (.slice au L.length cu))
              have zY := lt_of_blk HX.out.x
              have fY := (frozen_of_row _ _ _ _ _ HX.out.x : wc.frozen? ⟨wo.heap.size, 0, none⟩ = false)
              have hkey := HX.out.key.snoc (t := t) hL3 (by rw [HKD.out]; exact hft)
              have HKey := Lib.hid hkey
              clear hkey
              have hbA := (Below.refl wc.heap.size wc).alloc (Nat.le_refl _) (.cells #[.int .i64 f, .int .i64 t] 48)
              have hown := own_below HX.out.own hbA
              have hnews : ∀ j u, [Value.int .i64 f, Value.int .i64 t][j]? = some u → (wc.alloc (.cells #[.int .i64 f, .int .i64 t] 48)).cell? ((⟨wc.heap.size, 0, none⟩ : Addr).add j) = some u := fun j u hu => by
                rw [add_plain, cell_of_row _ _ _ _ _ _ (heap_alloc_new wc _), Nat.zero_add]; simpa using hu
              have hone : ∀ u ∈ [Value.int .i64 f, Value.int .i64 t], u.oneCell' = true := by intro u hu; simp at hu; rcases hu with rfl | rfl <;> rfl
              obtain ⟨i0, hi, hz0, hz1, hz2⟩ := info_parts infoC
              have HBA := Lib.hid hbA; have HOwn := Lib.hid hown; have HNews := Lib.hid hnews; have HOne := Lib.hid hone; have HI0 := Lib.hid hi; have HZ0 := Lib.hid hz0; have HZ1 := Lib.hid hz1; have HZ2 := Lib.hid hz2
              clear hbA hown hnews hone hi hz0 hz1 hz2
              go_wp2_with (at_builtin; refine wpList_append_lies _ rfl (.tmp 53) (.tmp 57) 41 (by rfl) (wo.heap.size + 1) 48 i0 (.agg #[.int .i64 0, .int .i64 0]) 2 16 Tryz.underlying41 HI0.out HZ0.out HZ1.out HZ2.out rfl (by decide) (.slice au L.length cu) L.length (L.flatMap encC) (by rfl) HOwn.out ⟨wc.heap.size, 0, none⟩ 1 1 [.int .i64 f, .int .i64 t] (by rfl) rfl HNews.out HOne.out (by omega) (by unfold maxLen; omega) (by omega) (by simp; omega) (wc.heap.size + 1) (by simp) ?_; intro g cap w6 hown5 hg5 hat5 hlt5; have cY5 := (hg5.cell_far ⟨wo.heap.size, 0, none⟩ (by simp; omega) (own_far HOwn.out (by show wo.heap.size < _; omega))).trans ((HBA.out.cell (p := ⟨wo.heap.size, 0, none⟩) zY).trans cY); have fY5 := (hg5.frozen_far ⟨wo.heap.size, 0, none⟩ (by simp; omega) (own_far HOwn.out (by show wo.heap.size < _; omega))).trans ((HBA.out.frozen (p := ⟨wo.heap.size, 0, none⟩) zY).trans fY))
              have KS := Lib.hid (HX.out.step (c := ((f : Int), t)) HBA.out hg5 hown5 HKey.out)
              clear hown5 hg5 hat5 cY5 fY5
              go_roundw
              case rel => exact ⟨f + 1, _, L ++ [((f : Int), t)], by go_num, by omega, KS.out⟩
              case measure => simp [intOf]; omega
        · have hcase : (decide ((f : Int) < (n : Int)) = false ∧ ¬ f < n) ∨ ((decide ((f : Int) < (n : Int)) = true ∧ f < n) ∧ decide ((L.length : Int) < 3) = false) := by
            by_cases h1 : f < n
            · exact .inr ⟨⟨by simp; omega, h1⟩, by simp; omega⟩
            · exact .inl ⟨by simp; omega, h1⟩
          have HKy := Lib.hid (show KeyD s.fields s.fields.length L from ⟨HI.out.key.len, fun c hc => by obtain ⟨x1, x2, x3⟩ := HI.out.key.fit c hc; exact ⟨x1, by rw [HN.out]; omega, x3⟩, HI.out.key.asc⟩)
          have fY := (frozen_of_row _ _ _ _ _ HI.out.x : wr.frozen? ⟨wo.heap.size, 0, none⟩ = false)
          clear hfc
          rcases hcase with ⟨hqf, hqn⟩ | ⟨⟨hqf, hqn⟩, hqL⟩
          all_goals
            go_upto_if 63 with (fail)
            go_cut [8] (fun s8 wx => s8 = .int .i64 j ∧ ∃ (u' : SV) (K : List (Int × Int)), wx.heap[wo.heap.size]? = some (.cells #[.slice u'.a u'.n u'.c] 43 (0, 0)) ∧ Vec wx (fun b => wo.heap.size < b) 2 encC (.slice u'.a u'.n u'.c) K ∧ KeyOk s.fields K ∧ Moved D wo wx)
            case first =>
              by_cases hl0 : L.length = 0
              · have hq0 : ((L.length : Int) == 0) = true := by simp; exact List.length_eq_zero_iff.1 hl0
                have hL0 : L = [] := List.length_eq_zero_iff.1 hl0
                have HX := Lib.hid HI.out.x
                have HMV := Lib.hid HI.out.mv
                clear HKy HI
                go_wp2_with fail
                go_meet
                refine ⟨rfl, ⟨some ⟨wr.heap.size, 0, none⟩, 1, 1⟩, [(0, 1)], blk_old (blk_set (i := 0) HX.out), ?_, key_whole (by rw [HN.out]; exact h1), (HMV.out.set (a := ⟨wo.heap.size, 0, none⟩) (Nat.le_refl _) _).alloc _⟩
                exact blockVec (k := 2) (enc := encC) (L := [(0, 1)]) (S := fun b => wo.heap.size < b) (w := (wr.setCell ⟨wo.heap.size, 0, none⟩ (.slice (some ⟨wr.heap.size, 0, none⟩) 1 1)).alloc (.cells #[.int .i64 0, .int .i64 1] 48)) (A := wr.heap.size) (fun _ => rfl) (blk_new (by simp [World.setCell])) (by omega) 1 rfl
              · have hq0 : ((L.length : Int) == 0) = false := by simp; intro h; exact hl0 (by rw [h]; rfl)
                go_wp2_with fail
                go_meet
                exact ⟨rfl, ⟨au, L.length, cu⟩, L, HI.out.x, (Vec.owns (k := 2) (enc := encC) (S := fun b => wo.heap.size < b) (fun _ => rfl) HI.out.own (fun b hb _ => hb)), HKy.out.ok (by omega), HI.out.mv⟩
            case rest =>
              obtain ⟨rfl, u', K, hx, hv, hkk, mv⟩ := hcut
              have hown6 : ∀ x, wo.heap.size ≤ x → some x ≠ u7.ownBlock := by
                intro x hx'
                rcases HO.out.own.1.2 with ⟨h0, _⟩ | ⟨g, cap, cur, h0, hg, hh, _⟩
                · rw [h0]; simp [Value.ownBlock]
                · rw [h0]; have := lt_of_blk hh; simp [Value.ownBlock]; omega
              have HO2 := Lib.hid (HO.out.moved (mv.alloc (.cells #[.slice u'.a u'.n u'.c] 43)))
              have c0 := (by rw [cell_of_row _ _ _ _ _ _ hx]; rfl : wc.cell? ⟨wo.heap.size, 0, none⟩ = some (.slice u'.a u'.n u'.c))
              have HR2 := Lib.hid (show Reads (wc.alloc (.cells #[.slice u'.a u'.n u'.c] 43)) 1 (.slice (some ⟨wc.heap.size, 0, none⟩) 1 1) [u'].length ([u'].flatMap encSV) from reads_block (xs := [u'].flatMap encSV) (fr := (0, 0)) (t := 43) (blk_new rfl) rfl)
              have HCB := Lib.hid (hv.move (w' := wc) (S' := fun x => some x ≠ u7.ownBlock ∧ W.heap.size ≤ x) (Nat.le_refl _) (fun x _ hx' => ⟨rfl, by have h' : wo.heap.size < x := hx'; exact ⟨hown6 x (by omega), by omega⟩⟩))
              have HBA2 := Lib.hid ((HO.out.moved mv).keys.move (w' := wc) (T := fun x => some x ≠ u7.ownBlock ∧ W.heap.size ≤ x) (Nat.le_refl _) (fun x hx' hs => ⟨rfl, hs.2, hs.1⟩))
              have hCn : C.length = Ks.length := HO.out.keys.1
              have hjj := HJ.out
              have hcn : C.length + [u'].length ≤ 1000000000 := by simp only [List.length_cons, List.length_nil]; omega
              have HKK := Lib.hid hkk
              have HOk := Lib.hid HO.out.ok
              obtain ⟨ua, un, uc⟩ := u'
              dsimp only at c0
              clear hx hv hkk mv HKy HI HO
              go_wp2_with (at_builtin; refine wpList_append_mat rfl (.tmp 67) (.tmp 69) 35 rfl D 43 (.agg #[.slice none 0 0]) 1 24 encSV (fun _ => rfl) one_encSV Tryz.underlying35 infoBK rfl (by decide) (by decide) (wA := W) (v := u7) (A := C) (B := [⟨ua, un, uc⟩]) rfl HO2.out.own rfl HR2.out hcn ?_; intro v4 w4 ho4 hk4 hz4 hat4)
              have hba : KeysAll wc (fun x => some x ≠ u7.ownBlock ∧ W.heap.size ≤ x) (C ++ [⟨ua, un, uc⟩]) (Ks ++ [K]) := HBA2.out.snoc HCB.out
              go_roundw
              case rel =>
                refine ⟨j - 1, C ++ [⟨ua, un, uc⟩], Ks ++ [K], by go_num, by rw [List.length_append]; simp; omega, ho4, hba.move ?_ ?_, ?_⟩
                · simp at hz4; omega
                · intro x hx hS
                  obtain ⟨q1, q2⟩ := hS
                  refine ⟨?_, q2, ?_⟩
                  · obtain ⟨ob, hob⟩ : ∃ ob, wc.heap[x]? = some ob := ⟨_, Array.getElem?_eq_getElem hx⟩
                    rw [hob]
                    exact hk4 x ob q1 (blk_old hob)
                  · rcases hat4 with h1 | h1 | h1
                    · rw [h1]; simp
                    · rw [← h1]; exact q1
                    · rw [h1]; simp; omega
                · intro K' hK'
                  rcases List.mem_append.1 hK' with h1 | h1
                  · exact HOk.out K' h1
                  · simp at h1; rw [h1]; exact HKK.out
              case measure => simp [intOf]; omega
    · have hq : decide ((0 : Int) < (j : Int)) = false := by simp; omega
      obtain rfl : j = 0 := by omega
      go_wp2_with fail
      go_ret
      exact ⟨_, Ks, rfl, ⟨C, (OwnM.vec (size := 1) (enc := encSV) (fun _ => rfl) HO.out.own).move (Nat.le_refl _) (fun x _ hx => ⟨rfl, by have h1 := HZW.out; have hx' : W.heap.size ≤ x := hx; show w.heap.size ≤ x; omega⟩), HO.out.keys.move (Nat.le_refl _) (fun x _ hx => ⟨rfl, by have h1 := HZW.out; have hx' := hx.1; show w.heap.size ≤ x; omega⟩)⟩, by have := HJ.out; omega, HO.out.ok, HM.out.trans HO.out.own.2⟩
end Go.Proofs.YtdckkggmmakfiaaGreatDoor
end
section
/- blocking, the program's: All of valid block keys and records. -/
set_option linter.unusedSimpArgs false
set_option linter.unusedVariables false
set_option maxRecDepth 100000
namespace Go.Proofs.YtdckkggmmakfiaaGreatDoor
open Go.RowKit
/-- lists of blocks -/
def BListsAll (w : World) (S : Nat → Prop) (C : List SV) (Ls : List (List BkP)) : Prop := C.length = Ls.length ∧ ∀ n (h1 : n < C.length) (h2 : n < Ls.length), BlocksAt w S (.slice C[n].a C[n].n C[n].c) Ls[n]
def BListsAt (w : World) (S : Nat → Prop) (v : Value) (Ls : List (List BkP)) : Prop := ∃ C, Vec w S 1 encSV v C ∧ BListsAll w S C Ls
theorem BListsAll.move {w w' : World} {S T : Nat → Prop} {C : List SV} {Ls : List (List BkP)} (h : BListsAll w S C Ls) (hz : w.heap.size ≤ w'.heap.size) (hS : ∀ x, x < w.heap.size → S x → w'.heap[x]? = w.heap[x]? ∧ T x) : BListsAll w' T C Ls :=
  ⟨h.1, fun n h1 h2 => (h.2 n h1 h2).move hz hS⟩
theorem BListsAll.snoc {w : World} {S : Nat → Prop} {C : List SV} {Ls : List (List BkP)} {c : SV} {L : List BkP} (h : BListsAll w S C Ls) (hc : BlocksAt w S (.slice c.a c.n c.c) L) : BListsAll w S (C ++ [c]) (Ls ++ [L]) := by
  refine ⟨by simp [h.1], fun n h1 h2 => ?_⟩
  by_cases hn : n < C.length
  · rw [List.getElem_append_left hn, List.getElem_append_left (by rw [← h.1]; exact hn)]; exact h.2 n _ _
  · have : n = C.length := by simp at h1; omega
    subst this
    rw [List.getElem_append_right (Nat.le_refl _), List.getElem_append_right (by rw [h.1]; exact Nat.le_refl _)]
    simpa [h.1] using hc
theorem BListsAt.move {w w' : World} {S T : Nat → Prop} {v : Value} {Ls : List (List BkP)} (h : BListsAt w S v Ls) (hz : w.heap.size ≤ w'.heap.size) (hS : ∀ x, x < w.heap.size → S x → w'.heap[x]? = w.heap[x]? ∧ T x) : BListsAt w' T v Ls := by
  obtain ⟨C, h1, h2⟩ := h
  exact ⟨C, h1.move hz hS, h2.move hz hS⟩
theorem BListsAt.below {w w' : World} {S : Nat → Prop} {v : Value} {Ls : List (List BkP)} (h : BListsAt w S v Ls) (hb : Below w.heap.size w w') : BListsAt w' S v Ls := h.move hb.size fun x hx hs => ⟨hb.block x hx, hs⟩
theorem BListsAt.slice {w : World} {S : Nat → Prop} {v : Value} {Ls : List (List BkP)} (h : BListsAt w S v Ls) : ∃ a cap, v = .slice a Ls.length cap := by
  obtain ⟨C, h1, h2⟩ := h
  obtain ⟨a, cap, rfl⟩ := h1.slice
  exact ⟨a, cap, by rw [h2.1]⟩
theorem BListsAt.at {w : World} {S : Nat → Prop} {a : Option Addr} {n cap : Nat} {Ls : List (List BkP)} (h : BListsAt w S (.slice a n cap) Ls) (j : Nat) (hj : j < Ls.length) :
    ∃ (b off : Nat) (c : SV), a = some ⟨b, off, none⟩ ∧ b < w.heap.size ∧ w.cell? ⟨b, off + j, none⟩ = some (.slice c.a c.n c.c) ∧ BlocksAt w S (.slice c.a c.n c.c) Ls[j] := by
  obtain ⟨C, hC, hA⟩ := h
  have hj2 : j < C.length := by rw [hA.1]; exact hj
  obtain ⟨b, off, e, hb, hc⟩ := hC.get j hj2
  exact ⟨b, off, C[j], e, hb, by have := hc 0 _ rfl; simpa using this, hA.2 j hj2 hj⟩
/-- the blocks of the first j block keys -/
def blksN (k : Int × Int) (Ks : List (List (Int × Int))) (R : List RecL) (j : Nat) : List (List BkP) := (List.range j).map fun i => blocksN k i (Ks.getD i []) R
theorem blksN_succ (k : Int × Int) (Ks : List (List (Int × Int))) (R : List RecL) (j : Nat) : blksN k Ks R (j + 1) = blksN k Ks R j ++ [blocksN k j (Ks.getD j []) R] := by
  unfold blksN; rw [List.range_succ, List.map_append]; rfl
theorem infoBS : (Tryz.prog.info? 62).map (fun i => (i.zero, i.size, i.bytes)) = some (some (.slice none 0 0), 1, 24) := by kernel_rfl
def AllPost (Ls : List (List BkP)) (w : World) (e : Ending) (w' : World) : Prop := ∃ v, e = .returned (.tuple #[v, .int .i64 0]) ∧ BListsAt w' (fun b => w.heap.size ≤ b) v Ls ∧ Below w.heap.size w w'
set_option maxHeartbeats 8000000 in
theorem bAll_yes (S T : Nat → Prop) (vf vt vn vs kv rv : Value) (s : SchemaL) (k : Int × Int) (Ks : List (List (Int × Int))) (R : List RecL) (w : World) (h : SchemaAt w S vf vt vn vs s) (hk : KeysVec w T kv Ks) (hr : RecsVec w Any1 rv R) (hR : RecsOk s R) (hn : s.fields.length ≤ 1000) (ok : KeysOk s.fields Ks) :
    Calls Tryz.prog 20 #[.agg #[vf, vt, vn, vs], .agg #[.int .u64 k.1, .int .u64 k.2], kv, rv] w (AllPost (blksN k Ks R Ks.length) w) := by
  obtain ⟨ak, ck, rfl⟩ := hk.slice
  obtain ⟨ar, cr, rfl⟩ := hr.slice
  have hc := (allN_ok hR.all).1
  have h64 := (allN_ok hR.all).2.1
  have h8 := ok.len
  have HS := Lib.hid h; have HK := Lib.hid hk; have HV := Lib.hid hr; have HRO := Lib.hid hR; have HOk := Lib.hid ok; have HC := Lib.hid hc
  have dz : ((0 : Int) != 0) = false := rfl
  clear h hk hr hR ok hc
  go_enter Tryz.func20, Tryz.ntmps20
  go_wp2_with fail
  refine wp_calls_world (fun W hW => ?_)
  have hb0 : Below w.heap.size w W := by rw [hW]; exact ((Below.refl w.heap.size w).alloc (Nat.le_refl _) _).alloc (by simp) _
  have hs0 : W.heap[w.heap.size]? = some (.cells #[vf, vt, vn, vs] 33 (0, 0)) := by rw [hW]; exact blk_old (blk_new rfl)
  have hk0 : W.heap[w.heap.size + 1]? = some (.cells #[.int .u64 k.1, .int .u64 k.2] 39 (0, 0)) := by rw [hW]; exact blk_new (by simp)
  clear hW
  refine (bchk_yes S T _ _ _ _ _ s Ks W (HS.out.below hb0) (HK.out.below hb0) HC.out (by omega) HOk.out).mono ?_
  rintro e w1 ⟨rfl, hb⟩
  have hs1 := blk_below hb (lt_of_blk hs0) hs0; have hk1 := blk_below hb (lt_of_blk hk0) hk0
  have HB1 := Lib.hid (hb0.trans (hb.mono hb0.size)); have HK1 := Lib.hid hk1
  obtain ⟨s0, s1, s2, s3⟩ := cellsS hs1
  have ls := lt_of_blk hs1
  clear hb hb0 hs0 hk0 hs1 hk1
  go_wp2_with fail
  refine (rall_any S Any1 _ _ _ _ _ s R w1 (HS.out.below HB1.out) (HV.out.below HB1.out) (fun r hr x hx => by have := HRO.out.short r hr x hx; omega) (HRO.out.vals hn) (by omega)).mono ?_
  rw [HRO.out.all]
  rintro e w2 ⟨rfl, hb⟩
  have hk2 := blk_below hb (lt_of_blk HK1.out) HK1.out
  have HB2 := Lib.hid (HB1.out.trans (hb.mono HB1.out.size)); have HK2 := Lib.hid hk2
  have lk := lt_of_blk hk2
  clear hb s0 s1 s2 s3 hk2 ls
  go_wp2_with fail
  go_loopw [12, 29] (fun v t wr => ∃ (j : Nat) (C : List SV), t = .int .i64 j ∧ j ≤ Ks.length ∧ C.length = j ∧ OwnV 62 1 encSV w2 v C wr ∧ BListsAll wr (OffRow w2.heap.size v) C (blksN k Ks R j)) (fun _ t _ => Ks.length - (intOf t).toNat)
  case atStart => exact ⟨0, [], rfl, by omega, rfl, OwnV.start _ _ _ _, rfl, fun n h1 _ => by simp at h1⟩
  case round =>
    obtain ⟨j, C, rfl, hj, hCl, ho, hba⟩ := hrel
    have HO := Lib.hid ho; have HBA := Lib.hid hba; have HCl := Lib.hid hCl
    clear ho hba hCl
    by_cases hlt : j < Ks.length
    · have hq : decide ((j : Int) < Ks.length) = true := by simp; omega
      have hji : (j : Int) < (Ks.length : Int) := by omega
      have hbw := HO.out.2
      have hwz := hbw.size
      obtain ⟨k0, k1⟩ := cells2K (blk_below hbw lk HK2.out)
      have lkr : w.heap.size + 1 < wr.heap.size := by omega
      obtain ⟨b, off, c, rfl, lb, c0, hvc⟩ := ((HK.out.below HB2.out).below hbw).at j hlt
      obtain ⟨ca, cn, cc⟩ := c
      dsimp only at c0 hvc
      have hkey := HOk.out.key (Ks.getD j []) (by rw [getD_at _ _ hlt]; exact List.getElem_mem hlt)
      have hsucc := blksN_succ k Ks R j
      obtain ⟨L, hL⟩ : ∃ L, blocksN k j (Ks.getD j []) R = L := ⟨_, rfl⟩
      rw [hL] at hsucc
      have HVC := Lib.hid hvc; have HKey := Lib.hid hkey; have HSu := Lib.hid hsucc; have HL := Lib.hid hL
      have HBw := Lib.hid hbw
      clear hvc hkey hsucc hL hbw
      go_wp2_with fail
      refine wp_calls_world (fun Wc hWc => ?_)
      have hbc : Below wr.heap.size wr Wc := by rw [hWc]; exact (Below.refl wr.heap.size wr).alloc (Nat.le_refl _) _
      have hzc : Wc.heap.size = wr.heap.size + 1 := by rw [hWc]; simp
      clear hWc
      refine (blocks_yes T k _ (Ks.getD j []) j _ R Wc (HVC.out.below hbc) (((HV.out.below HB2.out).below HBw.out).below hbc) (HRO.out.vals hn) (HRO.out.comps HKey.out) (by omega) (by omega)).mono ?_
      rw [HL.out]
      rintro e w4 ⟨v4, rfl, hv4, hb4⟩
      obtain ⟨a4, c4, rfl⟩ := hv4.slice
      have hb2 := hbc.trans (hb4.mono hbc.size)
      have hb3 : Below wr.heap.size wr (w4.alloc (.cells #[.slice a4 L.length c4] 62)) := hb2.alloc hb2.size _
      have HO2 := Lib.hid (HO.out.below hb3)
      have HR2 := Lib.hid (show Reads (w4.alloc (.cells #[.slice a4 L.length c4] 62)) 1 (.slice (some ⟨w4.heap.size, 0, none⟩) 1 1) [(⟨a4, L.length, c4⟩ : SV)].length ([(⟨a4, L.length, c4⟩ : SV)].flatMap encSV) from reads_block (xs := [(⟨a4, L.length, c4⟩ : SV)].flatMap encSV) (fr := (0, 0)) (t := 62) (blk_new rfl) rfl)
      have hown6 : ∀ x, wr.heap.size ≤ x → some x ≠ u12.ownBlock := by
        intro x hx
        rcases HO.out.1.2 with ⟨h0, _⟩ | ⟨g, cap, cur, h0, hg, hh, _⟩
        · rw [h0]; simp [Value.ownBlock]
        · rw [h0]; have := lt_of_blk hh; simp [Value.ownBlock]; omega
      have HCB := Lib.hid (hv4.move (w' := w4) (T := fun x => some x ≠ u12.ownBlock ∧ w2.heap.size ≤ x) (Nat.le_refl _) (fun x _ hx => ⟨rfl, by have hx' : Wc.heap.size ≤ x := hx; exact ⟨hown6 x (by omega), by omega⟩⟩))
      have HBA2 := Lib.hid (HBA.out.move (w' := w4) (T := fun x => some x ≠ u12.ownBlock ∧ w2.heap.size ≤ x) hb2.size (fun x hx hs => ⟨hb2.block x hx, hs.2, hs.1⟩))
      have hcn : C.length + [(⟨a4, L.length, c4⟩ : SV)].length ≤ 1000000000 := by rw [HCl.out]; simp only [List.length_cons, List.length_nil]; omega
      have hz2 := hb2.size
      clear hv4 hb4 hb2 hb3 hbc c0 k0 k1
      go_wp2_with (at_builtin; refine wpList_append_at rfl (.tmp 34) (.tmp 40) 59 rfl 62 (.slice none 0 0) 1 24 encSV (fun _ => rfl) one_encSV Tryz.underlying59 infoBS rfl (by decide) (by decide) (w0 := w2) (v := u12) (A := C) (B := [(⟨a4, L.length, c4⟩ : SV)]) rfl HO2.out rfl HR2.out hcn ?_; intro v5 w5 ho5 hk5 hz5 hat5)
      have hba : BListsAll w4 (fun x => some x ≠ u12.ownBlock ∧ w2.heap.size ≤ x) (C ++ [(⟨a4, L.length, c4⟩ : SV)]) (blksN k Ks R (j + 1)) := by
        rw [HSu.out]
        exact HBA2.out.snoc HCB.out
      go_roundw
      case rel =>
        refine ⟨j + 1, C ++ [(⟨a4, L.length, c4⟩ : SV)], by go_num, by omega, by rw [List.length_append, HCl.out]; rfl, ho5, hba.move ?_ ?_⟩
        · simp at hz5; omega
        · intro x hx hS
          obtain ⟨q1, q2⟩ := hS
          refine ⟨?_, q2, ?_⟩
          · obtain ⟨ob, hob⟩ : ∃ ob, w4.heap[x]? = some ob := ⟨_, Array.getElem?_eq_getElem hx⟩
            rw [hob]
            exact hk5 x ob q1 (blk_old hob)
          · rcases hat5 with h1 | h1 | h1
            · rw [h1]; simp
            · rw [← h1]; exact q1
            · rw [h1]; simp; omega
      case measure => simp [intOf]; omega
    · have hq : decide ((j : Int) < Ks.length) = false := by simp; omega
      obtain rfl : j = Ks.length := by omega
      go_wp2_with fail
      go_ret2
      exact ⟨_, rfl, ⟨C, (OwnV.vec (size := 1) (enc := encSV) (fun _ => rfl) HO.out).move (Nat.le_refl _) (fun x _ hx => ⟨rfl, Nat.le_trans HB2.out.size hx⟩), HBA.out.move (Nat.le_refl _) (fun x _ hx => ⟨rfl, Nat.le_trans HB2.out.size hx.1⟩)⟩, HB2.out.trans (HO.out.2.mono HB2.out.size)⟩
end Go.Proofs.YtdckkggmmakfiaaGreatDoor
end
section
/- The sanity check of the laws of blocks. -/
set_option linter.unusedSimpArgs false
set_option linter.unusedVariables false
set_option maxRecDepth 100000
namespace Go.Proofs.YtdckkggmmakfiaaGreatDoor
open Go.RowKit Cal
attribute [local go_sem] toList_mk mk_size
theorem BlocksAt.at {w : World} {S : Nat → Prop} {a : Option Addr} {n cap : Nat} {L : List BkP} (h : BlocksAt w S (.slice a n cap) L) (j : Nat) (hj : j < L.length) :
    ∃ (b off : Nat) (x : BkV), a = some ⟨b, off, none⟩ ∧ b < w.heap.size ∧ w.cell? ⟨b, off + j * 2, none⟩ = some (.int .u64 L[j].1) ∧ w.cell? ⟨b, off + j * 2 + 1, none⟩ = some (idV x) ∧ x.n = L[j].2.length ∧ Vec w S 1 encIn (idV x) L[j].2 := by
  obtain ⟨C, h1, h2, h3⟩ := h
  have hj2 : j < C.length := by rw [← h2, List.length_map] at hj; exact hj
  obtain ⟨b, off, e, hb, hc⟩ := h1.get j hj2
  subst h2
  have e1 : (C.map pB)[j] = pB C[j] := by rw [List.getElem_map]
  have hv := h3 C[j] (List.getElem_mem hj2)
  refine ⟨b, off, C[j], e, hb, ?_, hc 1 _ rfl, ?_, ?_⟩
  · rw [e1]; exact hc 0 _ rfl
  · rw [e1]; exact hv.len.1
  · rw [e1]; exact hv
def awK : SchemaL := ⟨[([103, 105, 118, 101, 110], 1)], [], [], []⟩
def awRobert : List UInt8 := [114, 111, 98, 101, 114, 116]
def awRupert : List UInt8 := [114, 117, 112, 101, 114, 116]
def awR : List RecL := [⟨1, 1, [awRobert]⟩, ⟨4, 1, [awRupert]⟩, ⟨5, 1, [[]]⟩]
theorem awK_check : checkS awK = 0 := by kernel_rfl
theorem awK_keys : KeysOk awK.fields [[(0, 2)]] := ⟨by decide, fun K hK => by
  simp at hK; subst hK
  exact ⟨by decide, by decide, fun c hc => by simp at hc; subst hc; exact ⟨by decide, by decide, by kernel_rfl⟩, fun i hi => by simp at hi⟩⟩
theorem awR_ok : RecsOk awK awR := ⟨by kernel_rfl, fun r hr x hx => by
  simp [awR] at hr
  rcases hr with rfl | rfl | rfl <;> (simp at hx; subst hx; decide)⟩
theorem awR_ascii : ascii awRobert := by unfold ascii; decide
theorem awK_parts : [((0 : Int), (2 : Int))].map (compN [awRobert]) = [[114, 49, 54, 51]] ∧ [((0 : Int), (2 : Int))].map (compN [awRupert]) = [[114, 49, 54, 51]] ∧ [((0 : Int), (2 : Int))].map (compN [[]]) = [[]] := ⟨by decide +kernel, by decide +kernel, by decide +kernel⟩
theorem awK_blocks : ∃ h : Int, blocksN (0, 0) 0 [(0, 2)] awR = [(h, [1, 4])] ∧ bhashN (0, 0) 0 ([((0 : Int), (2 : Int))].map (compN [awRobert])) = (h, true) := by
  obtain ⟨p1, p2, p3⟩ := awK_parts
  refine ⟨(bhashN (0, 0) 0 [[114, 49, 54, 51]]).1, ?_, ?_⟩
  · have e : ∀ h : Int × Bool, h.2 = true → addAll [] [(h, 1), (h, 4), ((0, false), 5)] = [(h.1, [1, 4])] := by
      rintro ⟨h, b⟩ hb
      have hb' : b = true := hb
      subst hb'
      simp [addAll, addB]
    rw [← e (bhashN (0, 0) 0 [[114, 49, 54, 51]]) (by unfold bhashN; rw [if_neg (by decide)])]
    unfold blocksN
    refine congrArg (addAll []) ?_
    show [blkPair (0, 0) 0 [(0, 2)] ⟨1, 1, [awRobert]⟩, blkPair (0, 0) 0 [(0, 2)] ⟨4, 1, [awRupert]⟩, blkPair (0, 0) 0 [(0, 2)] ⟨5, 1, [[]]⟩] = _
    unfold blkPair
    dsimp only
    rw [p1, p2, p3, show bhashN (0, 0) 0 [[]] = (0, false) by unfold bhashN; rw [if_pos (by decide)]]
  · rw [p1]
    refine Prod.ext rfl ?_
    unfold bhashN
    first | done | rw [if_neg (by decide)]
def awRV (a b c : Nat) : List RV := [⟨1, 1, some ⟨a, 0, none⟩, 1, 1, [awRobert]⟩, ⟨4, 1, some ⟨b, 0, none⟩, 1, 1, [awRupert]⟩, ⟨5, 1, some ⟨c, 0, none⟩, 1, 1, [[]]⟩]
set_option maxHeartbeats 8000000 in
theorem awake_b (w : World) : Calls Tryz.prog 7 #[] w fun e w' => e = .returned (.bool true) ∧ Below w.heap.size w w' := by
  go_enter Tryz.func7, Tryz.ntmps7
  go_wp2_with fail
  refine wp_calls_world (fun W hW => ?_)
  have hb0 : Below w.heap.size w W := by rw [hW]; exact ((((((((Below.refl w.heap.size w).alloc (Nat.le_refl _) _).alloc (by simp <;> omega) _).alloc (by simp <;> omega) _).alloc (by simp <;> omega) _).alloc (by simp <;> omega) _).alloc (by simp <;> omega) _).alloc (by simp <;> omega) _).alloc (by simp <;> omega) _
  obtain ⟨A7, hA7⟩ : ∃ A, w.heap.size + 1 + 1 + 1 + 1 + 1 + 1 + 1 = A := ⟨_, rfl⟩
  obtain ⟨A6, hA6⟩ : ∃ A, w.heap.size + 1 + 1 + 1 + 1 + 1 + 1 = A := ⟨_, rfl⟩
  obtain ⟨A5, hA5⟩ : ∃ A, w.heap.size + 1 + 1 + 1 + 1 + 1 = A := ⟨_, rfl⟩
  obtain ⟨A4, hA4⟩ : ∃ A, w.heap.size + 1 + 1 + 1 + 1 = A := ⟨_, rfl⟩
  obtain ⟨A3, hA3⟩ : ∃ A, w.heap.size + 1 + 1 + 1 = A := ⟨_, rfl⟩
  obtain ⟨A2, hA2⟩ : ∃ A, w.heap.size + 1 + 1 = A := ⟨_, rfl⟩
  obtain ⟨A1, hA1⟩ : ∃ A, w.heap.size + 1 = A := ⟨_, rfl⟩
  have hf0 : W.heap[w.heap.size]? = some (.cells #[strV [103, 105, 118, 101, 110], .int .i64 1] 66 (0, 0)) := by rw [hW]; exact blk_old (blk_old (blk_old (blk_old (blk_old (blk_old (blk_old (blk_new rfl)))))))
  have hs0 : W.heap[A1]? = some (.cells #[.slice (some ⟨w.heap.size, 0, none⟩) 1 1, .slice none 0 0, .slice none 0 0, .slice none 0 0] 33 (0, 0)) := by rw [hW, ← hA1]; exact blk_old (blk_old (blk_old (blk_old (blk_old (blk_old (blk_new (by first | rfl | (simp; done) | (simp; omega) | omega)))))))
  have hc0 : W.heap[A2]? = some (.cells ([((0 : Int), (2 : Int))].flatMap encC).toArray 48 (0, 0)) := by rw [hW, ← hA2]; exact blk_old (blk_old (blk_old (blk_old (blk_old (blk_new (by first | rfl | (simp; done) | (simp; omega) | omega))))))
  have hk0 : W.heap[A3]? = some (.cells ([(⟨some ⟨A2, 0, none⟩, 1, 1⟩ : SV)].flatMap encSV).toArray 43 (0, 0)) := by rw [hW, ← hA3, ← hA2]; exact blk_old (blk_old (blk_old (blk_old (blk_new (by first | rfl | (simp; done) | (simp; omega) | omega)))))
  have hv4 : W.heap[A4]? = some (.cells ([awRobert].flatMap encS).toArray 9 (0, 0)) := by rw [hW, ← hA4]; exact blk_old (blk_old (blk_old (blk_new (by first | rfl | (simp; done) | (simp; omega) | omega))))
  have hv5 : W.heap[A5]? = some (.cells ([awRupert].flatMap encS).toArray 9 (0, 0)) := by rw [hW, ← hA5]; exact blk_old (blk_old (blk_new (by first | rfl | (simp; done) | (simp; omega) | omega)))
  have hv6 : W.heap[A6]? = some (.cells (([[]] : List (List UInt8)).flatMap encS).toArray 9 (0, 0)) := by rw [hW, ← hA6]; exact blk_old (blk_new (by first | rfl | (simp; done) | (simp; omega) | omega))
  have hr7 : W.heap[A7]? = some (.cells ((awRV A4 A5 A6).flatMap encRV).toArray 45 (0, 0)) := by rw [hW, ← hA7, ← hA6, ← hA5, ← hA4]; exact blk_new (by first | rfl | (simp; done) | (simp; omega) | omega)
  rw [hA7, hA6, hA5, hA4, hA3, hA2, hA1]
  clear hW
  have hSA : SchemaAt W Any1 (.slice (some ⟨w.heap.size, 0, none⟩) 1 1) (.slice none 0 0) (.slice none 0 0) (.slice none 0 0) awK := ⟨vecF_one hf0, Vec.nil _ _ _ _, Vec.nil _ _ _ _, Vec.nil _ _ _ _⟩
  have hKA : KeysVec W Any1 (.slice (some ⟨A3, 0, none⟩) 1 1) [[(0, 2)]] := ⟨[⟨some ⟨A2, 0, none⟩, 1, 1⟩], blockVec (k := 1) (enc := encSV) (L := [(⟨some ⟨A2, 0, none⟩, 1, 1⟩ : SV)]) (S := Any1) (fun _ => rfl) hk0 trivial 1 rfl, rfl, fun n h1 h2 => by
    obtain rfl : n = 0 := by simp at h1; omega
    exact blockVec (k := 2) (enc := encC) (L := [(0, 2)]) (S := Any1) (fun _ => rfl) hc0 trivial 1 rfl⟩
  have hRA : RecsVec W Any1 (.slice (some ⟨A7, 0, none⟩) 3 3) awR := ⟨awRV A4 A5 A6, blockVec (k := 3) (enc := encRV) (L := awRV A4 A5 A6) (S := Any1) (fun _ => rfl) hr7 trivial 3 rfl, rfl, fun x hx => by
    simp [awRV] at hx
    rcases hx with rfl | rfl | rfl
    · exact blockVec (k := 1) (enc := encS) (L := [awRobert]) (S := Any1) (fun _ => rfl) hv4 trivial 1 rfl
    · exact blockVec (k := 1) (enc := encS) (L := [awRupert]) (S := Any1) (fun _ => rfl) hv5 trivial 1 rfl
    · exact blockVec (k := 1) (enc := encS) (L := [[]]) (S := Any1) (fun _ => rfl) hv6 trivial 1 rfl⟩
  have hV1 : Vec W Any1 1 encS (.slice (some ⟨A4, 0, none⟩) 1 1) [awRobert] := blockVec (k := 1) (enc := encS) (L := [awRobert]) (S := Any1) (fun _ => rfl) hv4 trivial 1 rfl
  obtain ⟨h, hbe, hhe⟩ := awK_blocks
  have HHE := Lib.hid hhe
  have lk2 := lt_of_blk hc0
  have g0 := (by rw [cell_of_row _ _ _ _ _ _ hk0]; rfl : W.cell? ⟨A3, 0, none⟩ = some (.slice (some ⟨A2, 0, none⟩) 1 1))
  have g1 := (by rw [cell_of_row _ _ _ _ _ _ hc0]; rfl : W.cell? ⟨A2, 0, none⟩ = some (.int .i64 0))
  have g2 := (by rw [cell_of_row _ _ _ _ _ _ hc0]; rfl : W.cell? ⟨A2, 1, none⟩ = some (.int .i64 2))
  clear hf0 hc0 hv4 hv5 hv6 hhe hA2 hA3 hA4 hA5 hA6 hA7
  have lk3 := lt_of_blk hk0; have ls1 := lt_of_blk hs0; have lr7 := lt_of_blk hr7
  obtain ⟨s0, s1, s2, s3⟩ := cellsS hs0
  have r0 := (by rw [cell_of_row _ _ _ _ _ _ hr7]; rfl : W.cell? ⟨A7, 0, none⟩ = some (.int .i64 1))
  have r1 := (by rw [cell_of_row _ _ _ _ _ _ hr7]; rfl : W.cell? ⟨A7, 1, none⟩ = some (.int .i64 1))
  have r2 := (by rw [cell_of_row _ _ _ _ _ _ hr7]; rfl : W.cell? ⟨A7, 2, none⟩ = some (.slice (some ⟨A4, 0, none⟩) 1 1))
  refine (bBlocks_yes Any1 Any1 _ _ _ _ _ _ awK (0, 0) [[(0, 2)]] 0 awR W hSA hKA hRA awR_ok (by decide) awK_keys (by decide)).mono ?_
  rw [show ([[(0, 2)]] : List (List (Int × Int))).getD 0 [] = [(0, 2)] from rfl, hbe]
  rintro e w1 ⟨vb, rfl, hvb, hb⟩
  obtain ⟨ab, cb, rfl⟩ := hvb.slice
  obtain ⟨bb, ob, x, rfl, lb, b0, b1, hxn, hvi⟩ := hvb.at 0 (by simp)
  dsimp only [List.getElem_cons_zero] at b0 hxn hvi
  rw [Nat.zero_mul, Nat.add_zero] at b0 b1
  obtain ⟨xh, xa, xn, xc, xi⟩ := x
  dsimp only at hxn
  have hxn' : xn = 2 := hxn
  subst hxn'
  obtain ⟨ib, io, exa, lib, hic⟩ := hvi.get 1 (by simp)
  cases exa
  have i1 := hic 0 _ rfl
  have i1' : w1.cell? ⟨ib, io + 1, none⟩ = some (.int .i64 4) := by simpa using i1
  have HB1 := Lib.hid (hb0.trans (hb.mono hb0.size)); have HSA1 := Lib.hid (hSA.below hb); have HKA1 := Lib.hid (hKA.below hb); have HV1 := Lib.hid (hV1.below hb)
  have t0 := (hb.cell (p := ⟨A1, 0, none⟩) ls1).trans s0; have t1 := (hb.cell (p := ⟨A1, 1, none⟩) ls1).trans s1; have t2 := (hb.cell (p := ⟨A1, 2, none⟩) ls1).trans s2; have t3 := (hb.cell (p := ⟨A1, 3, none⟩) ls1).trans s3
  have q0 := (hb.cell (p := ⟨A7, 0, none⟩) lr7).trans r0; have q1 := (hb.cell (p := ⟨A7, 1, none⟩) lr7).trans r1; have q2 := (hb.cell (p := ⟨A7, 2, none⟩) lr7).trans r2
  have k0 := (hb.cell (p := ⟨A3, 0, none⟩) lk3).trans g0; have c0 := (hb.cell (p := ⟨A2, 0, none⟩) lk2).trans g1; have c1 := (hb.cell (p := ⟨A2, 1, none⟩) lk2).trans g2
  have l3 : A3 < w1.heap.size := Nat.lt_of_lt_of_le lk3 hb.size
  have l2 : A2 < w1.heap.size := Nat.lt_of_lt_of_le lk2 hb.size
  have l1 : A1 < w1.heap.size := Nat.lt_of_lt_of_le ls1 hb.size
  have l7 : A7 < w1.heap.size := Nat.lt_of_lt_of_le lr7 hb.size
  clear hb hb0 hSA hKA hRA hV1 s0 s1 s2 s3 r0 r1 r2 hvb hvi hic i1 hs0 hk0 hr7 hxn lk3 lk2 ls1 lr7 hbe g0 g1 g2
  go_wp2_with fail
  have bD : Below w1.heap.size w1 w1.drew := (Below.refl _ _).drew
  refine wp_region_noPanic ?_
  refine wp_region_held_drew (S := (fun w' => w'.cell? ⟨A1, 0, none⟩ = some (.slice (some ⟨w.heap.size, 0, none⟩) 1 1) ∧ w'.cell? ⟨A1, 1, none⟩ = some (.slice none 0 0) ∧ w'.cell? ⟨A1, 2, none⟩ = some (.slice none 0 0) ∧ w'.cell? ⟨A1, 3, none⟩ = some (.slice none 0 0) ∧ w'.cell? ⟨A7, 0, none⟩ = some (.int .i64 1) ∧ w'.cell? ⟨A7, 1, none⟩ = some (.int .i64 1) ∧ w'.cell? ⟨A7, 2, none⟩ = some (.slice (some ⟨A4, 0, none⟩) 1 1))) (by kernel_rfl) (⟨t0, t1, t2, t3, q0, q1, q2⟩) (fun hHeld => ?_)
  refine wpAnyH_take (i := 0) (v := ?_) rfl (by kernel_rfl) (by kernel_rfl) (by kernel_rfl) (fun _ _ _ h => h) (Or.inl ⟨by rfl, ?_⟩) (by assumption) ?_
  rotate_left 1
  · (intro wS hSw; (try dsimp only at hSw); go_simp; try with_reducible rfl)
  try simp only [List.getElem_toArray, List.getElem_cons_zero, List.getElem_cons_succ, Act.put, List.setIfInBounds_toArray, List.set_cons_zero, List.set_cons_succ]
  refine wpAnyH_take (i := 1) (v := ?_) rfl (by kernel_rfl) (by kernel_rfl) (by kernel_rfl) (fun _ _ _ h => h) (Or.inl ⟨by rfl, ?_⟩) (by assumption) ?_
  rotate_left 1
  · (intro wS hSw; (try dsimp only at hSw); go_simp; try with_reducible rfl)
  try simp only [List.getElem_toArray, List.getElem_cons_zero, List.getElem_cons_succ, Act.put, List.setIfInBounds_toArray, List.set_cons_zero, List.set_cons_succ]
  refine wpAnyH_take (i := 2) (v := ?_) rfl (by kernel_rfl) (by kernel_rfl) (by kernel_rfl) (fun _ _ _ h => h) (Or.inl ⟨by rfl, ?_⟩) (by assumption) ?_
  rotate_left 1
  · (intro wS hSw; (try dsimp only at hSw); go_simp; try with_reducible rfl)
  try simp only [List.getElem_toArray, List.getElem_cons_zero, List.getElem_cons_succ, Act.put, List.setIfInBounds_toArray, List.set_cons_zero, List.set_cons_succ]
  refine wpAnyH_take (i := 3) (v := ?_) rfl (by kernel_rfl) (by kernel_rfl) (by kernel_rfl) (fun _ _ _ h => h) (Or.inl ⟨by rfl, ?_⟩) (by assumption) ?_
  rotate_left 1
  · (intro wS hSw; (try dsimp only at hSw); go_simp; try with_reducible rfl)
  try simp only [List.getElem_toArray, List.getElem_cons_zero, List.getElem_cons_succ, Act.put, List.setIfInBounds_toArray, List.set_cons_zero, List.set_cons_succ]
  refine wpAnyH_take (i := 4) (v := ?_) rfl (by kernel_rfl) (by kernel_rfl) (by kernel_rfl) (fun _ _ _ h => h) (Or.inl ⟨by rfl, ?_⟩) (by assumption) ?_
  rotate_left 1
  · (intro wS hSw; (try dsimp only at hSw); go_simp; try with_reducible rfl)
  try simp only [List.getElem_toArray, List.getElem_cons_zero, List.getElem_cons_succ, Act.put, List.setIfInBounds_toArray, List.set_cons_zero, List.set_cons_succ]
  refine wpAnyH_take (i := 5) (v := ?_) rfl (by kernel_rfl) (by kernel_rfl) (by kernel_rfl) (fun _ _ _ h => h) (Or.inl ⟨by rfl, ?_⟩) (by assumption) ?_
  rotate_left 1
  · (intro wS hSw; (try dsimp only at hSw); go_simp; try with_reducible rfl)
  try simp only [List.getElem_toArray, List.getElem_cons_zero, List.getElem_cons_succ, Act.put, List.setIfInBounds_toArray, List.set_cons_zero, List.set_cons_succ]
  refine wpAnyH_ready (rs := [6]) (by kernel_rfl) (by simp) ?_
  refine AllReadyH.cons rfl (fun K hK => ?_) AllReadyH.nil
  go_simp
  refine (bHash_yes Any1 Any1 _ _ _ _ _ awK (0, 0) [[(0, 2)]] 0 ⟨1, 1, [awRobert]⟩ _ _ (HSA1.out.below bD) (HKA1.out.below bD) (HV1.out.below bD) (by kernel_rfl) (by decide) (by decide) awK_keys (by decide)).mono ?_; rw [show ([[(0, 2)]] : List (List (Int × Int))).getD 0 [] = [(0, 2)] from rfl, HHE.out]; rintro e w2 ⟨rfl, hb⟩; have b2 := bD.trans hb; clear hb
  refine hK.out _ _ (⟨(b2.cell (p := ⟨A1, 0, none⟩) l1).trans t0, (b2.cell (p := ⟨A1, 1, none⟩) l1).trans t1, (b2.cell (p := ⟨A1, 2, none⟩) l1).trans t2, (b2.cell (p := ⟨A1, 3, none⟩) l1).trans t3, (b2.cell (p := ⟨A7, 0, none⟩) l7).trans q0, (b2.cell (p := ⟨A7, 1, none⟩) l7).trans q1, (b2.cell (p := ⟨A7, 2, none⟩) l7).trans q2⟩) (fun hHeld => ?_)
  clear hK K
  try simp only [List.getElem_toArray, List.getElem_cons_zero, List.getElem_cons_succ, Act.put, List.setIfInBounds_toArray, List.set_cons_zero, List.set_cons_succ]
  refine wpAnyH_take (i := 7) (v := ?_) rfl (by kernel_rfl) (by kernel_rfl) (by kernel_rfl) (fun _ _ _ h => h) (Or.inl ⟨by rfl, ?_⟩) (by assumption) ?_
  rotate_left 1
  · (intro wS hSw; (try dsimp only at hSw); go_simp; try with_reducible rfl)
  try simp only [List.getElem_toArray, List.getElem_cons_zero, List.getElem_cons_succ, Act.put, List.setIfInBounds_toArray, List.set_cons_zero, List.set_cons_succ]
  refine wpAnyH_take (i := 8) (v := ?_) rfl (by kernel_rfl) (by kernel_rfl) (by kernel_rfl) (fun _ _ _ h => h) (Or.inl ⟨by rfl, ?_⟩) (by assumption) ?_
  rotate_left 1
  · (intro wS hSw; (try dsimp only at hSw); go_simp; try with_reducible rfl)
  try simp only [List.getElem_toArray, List.getElem_cons_zero, List.getElem_cons_succ, Act.put, List.setIfInBounds_toArray, List.set_cons_zero, List.set_cons_succ]
  refine wpAnyH_take (i := 9) (v := ?_) rfl (by kernel_rfl) (by kernel_rfl) (by kernel_rfl) (fun _ _ _ h => h) (Or.inl ⟨by rfl, ?_⟩) (by assumption) ?_
  rotate_left 1
  · (intro wS hSw; (try dsimp only at hSw); go_simp; try with_reducible rfl)
  try simp only [List.getElem_toArray, List.getElem_cons_zero, List.getElem_cons_succ, Act.put, List.setIfInBounds_toArray, List.set_cons_zero, List.set_cons_succ]
  refine wpAnyH_take (i := 10) (v := ?_) rfl (by kernel_rfl) (by kernel_rfl) (by kernel_rfl) (fun _ _ _ h => h) (Or.inl ⟨by rfl, ?_⟩) (by assumption) ?_
  rotate_left 1
  · (intro wS hSw; (try dsimp only at hSw); go_simp; try with_reducible rfl)
  try simp only [List.getElem_toArray, List.getElem_cons_zero, List.getElem_cons_succ, Act.put, List.setIfInBounds_toArray, List.set_cons_zero, List.set_cons_succ]
  refine wpAnyH_take (i := 11) (v := ?_) rfl (by kernel_rfl) (by kernel_rfl) (by kernel_rfl) (fun _ _ _ h => h) (Or.inl ⟨by rfl, ?_⟩) (by assumption) ?_
  rotate_left 1
  · (intro wS hSw; (try dsimp only at hSw); go_simp; try with_reducible rfl)
  try simp only [List.getElem_toArray, List.getElem_cons_zero, List.getElem_cons_succ, Act.put, List.setIfInBounds_toArray, List.set_cons_zero, List.set_cons_succ]
  refine wpAnyH_take (i := 12) (v := ?_) rfl (by kernel_rfl) (by kernel_rfl) (by kernel_rfl) (fun _ _ _ h => h) (Or.inl ⟨by rfl, ?_⟩) (by assumption) ?_
  rotate_left 1
  · (intro wS hSw; (try dsimp only at hSw); go_simp; try with_reducible rfl)
  try simp only [List.getElem_toArray, List.getElem_cons_zero, List.getElem_cons_succ, Act.put, List.setIfInBounds_toArray, List.set_cons_zero, List.set_cons_succ]
  refine wpAnyH_take (i := 13) (v := ?_) rfl (by kernel_rfl) (by kernel_rfl) (by kernel_rfl) (fun _ _ _ h => h) (Or.inl ⟨by rfl, ?_⟩) (by assumption) ?_
  rotate_left 1
  · (intro wS hSw; (try dsimp only at hSw); go_simp; try with_reducible rfl)
  try simp only [List.getElem_toArray, List.getElem_cons_zero, List.getElem_cons_succ, Act.put, List.setIfInBounds_toArray, List.set_cons_zero, List.set_cons_succ]
  refine wpAnyH_done (by kernel_rfl) ?_ _
  refine NoPanic.normal ?_
  have HB2 := Lib.hid (HB1.out.trans (b2.mono HB1.out.size)); have HSA2 := Lib.hid (HSA1.out.below b2); have HKA2 := Lib.hid (HKA1.out.below b2); have HV2 := Lib.hid (HV1.out.below b2)
  have hAll : (fun w' : World => w'.cell? ⟨A1, 0, none⟩ = some (.slice (some ⟨w.heap.size, 0, none⟩) 1 1) ∧ w'.cell? ⟨A1, 1, none⟩ = some (.slice none 0 0) ∧ w'.cell? ⟨A1, 2, none⟩ = some (.slice none 0 0) ∧ w'.cell? ⟨A1, 3, none⟩ = some (.slice none 0 0) ∧ w'.cell? ⟨A7, 0, none⟩ = some (.int .i64 1) ∧ w'.cell? ⟨A7, 1, none⟩ = some (.int .i64 1) ∧ w'.cell? ⟨A7, 2, none⟩ = some (.slice (some ⟨A4, 0, none⟩) 1 1) ∧ w'.cell? ⟨bb, ob, none⟩ = some (.int .u64 h) ∧ w'.cell? ⟨bb, ob + 1, none⟩ = some (.slice (some ⟨ib, io, none⟩) 2 xc) ∧ w'.cell? ⟨ib, io + 1, none⟩ = some (.int .i64 4) ∧ w'.cell? ⟨A3, 0, none⟩ = some (.slice (some ⟨A2, 0, none⟩) 1 1) ∧ w'.cell? ⟨A2, 0, none⟩ = some (.int .i64 0) ∧ w'.cell? ⟨A2, 1, none⟩ = some (.int .i64 2)) w2 := ⟨(b2.cell (p := ⟨A1, 0, none⟩) l1).trans t0, (b2.cell (p := ⟨A1, 1, none⟩) l1).trans t1, (b2.cell (p := ⟨A1, 2, none⟩) l1).trans t2, (b2.cell (p := ⟨A1, 3, none⟩) l1).trans t3, (b2.cell (p := ⟨A7, 0, none⟩) l7).trans q0, (b2.cell (p := ⟨A7, 1, none⟩) l7).trans q1, (b2.cell (p := ⟨A7, 2, none⟩) l7).trans q2, (b2.cell (p := ⟨bb, ob, none⟩) lb).trans b0, (b2.cell (p := ⟨bb, ob + 1, none⟩) lb).trans b1, (b2.cell (p := ⟨ib, io + 1, none⟩) lib).trans i1', (b2.cell (p := ⟨A3, 0, none⟩) l3).trans k0, (b2.cell (p := ⟨A2, 0, none⟩) l2).trans c0, (b2.cell (p := ⟨A2, 1, none⟩) l2).trans c1⟩
  have m1 := Nat.lt_of_lt_of_le l1 b2.size; have m2 := Nat.lt_of_lt_of_le l2 b2.size; have m3 := Nat.lt_of_lt_of_le l3 b2.size; have m7 := Nat.lt_of_lt_of_le l7 b2.size; have mb := Nat.lt_of_lt_of_le lb b2.size; have mi := Nat.lt_of_lt_of_le lib b2.size
  have HP := Lib.hid (show compN [awRobert] (0, 2) = [114, 49, 54, 51] by decide +kernel)
  clear hHeld bD b2 HB1 HSA1 HKA1 HV1 t0 t1 t2 t3 q0 q1 q2 b0 b1 i1' k0 c0 c1 l1 l2 l3 l7 lb lib HHE
  dsimp only at hAll
  obtain ⟨t0, t1, t2, t3, q0, q1, q2, b0, b1, i1', k0, c0, c1⟩ := hAll
  go_wp2_with fail
  have bD : Below w2.heap.size w2 w2.drew := (Below.refl _ _).drew
  refine wp_region_noPanic ?_
  refine wp_region_held_drew (S := (fun w' => w'.cell? ⟨A1, 0, none⟩ = some (.slice (some ⟨w.heap.size, 0, none⟩) 1 1) ∧ w'.cell? ⟨A1, 1, none⟩ = some (.slice none 0 0) ∧ w'.cell? ⟨A1, 2, none⟩ = some (.slice none 0 0) ∧ w'.cell? ⟨A1, 3, none⟩ = some (.slice none 0 0) ∧ w'.cell? ⟨A7, 0, none⟩ = some (.int .i64 1) ∧ w'.cell? ⟨A7, 1, none⟩ = some (.int .i64 1) ∧ w'.cell? ⟨A7, 2, none⟩ = some (.slice (some ⟨A4, 0, none⟩) 1 1) ∧ w'.cell? ⟨bb, ob, none⟩ = some (.int .u64 h) ∧ w'.cell? ⟨bb, ob + 1, none⟩ = some (.slice (some ⟨ib, io, none⟩) 2 xc) ∧ w'.cell? ⟨ib, io + 1, none⟩ = some (.int .i64 4) ∧ w'.cell? ⟨A3, 0, none⟩ = some (.slice (some ⟨A2, 0, none⟩) 1 1) ∧ w'.cell? ⟨A2, 0, none⟩ = some (.int .i64 0) ∧ w'.cell? ⟨A2, 1, none⟩ = some (.int .i64 2))) (by kernel_rfl) (⟨t0, t1, t2, t3, q0, q1, q2, b0, b1, i1', k0, c0, c1⟩) (fun hHeld => ?_)
  refine wpAnyH_take (i := 0) (v := ?_) rfl (by kernel_rfl) (by kernel_rfl) (by kernel_rfl) (fun _ _ _ h => h) (Or.inl ⟨by rfl, ?_⟩) (by assumption) ?_
  rotate_left 1
  · (intro wS hSw; (try dsimp only at hSw); go_simp; try with_reducible rfl)
  try simp only [List.getElem_toArray, List.getElem_cons_zero, List.getElem_cons_succ, Act.put, List.setIfInBounds_toArray, List.set_cons_zero, List.set_cons_succ]
  refine wpAnyH_take (i := 1) (v := ?_) rfl (by kernel_rfl) (by kernel_rfl) (by kernel_rfl) (fun _ _ _ h => h) (Or.inl ⟨by rfl, ?_⟩) (by assumption) ?_
  rotate_left 1
  · (intro wS hSw; (try dsimp only at hSw); go_simp; try with_reducible rfl)
  try simp only [List.getElem_toArray, List.getElem_cons_zero, List.getElem_cons_succ, Act.put, List.setIfInBounds_toArray, List.set_cons_zero, List.set_cons_succ]
  refine wpAnyH_take (i := 2) (v := ?_) rfl (by kernel_rfl) (by kernel_rfl) (by kernel_rfl) (fun _ _ _ h => h) (Or.inl ⟨by rfl, ?_⟩) (by assumption) ?_
  rotate_left 1
  · (intro wS hSw; (try dsimp only at hSw); go_simp; try with_reducible rfl)
  try simp only [List.getElem_toArray, List.getElem_cons_zero, List.getElem_cons_succ, Act.put, List.setIfInBounds_toArray, List.set_cons_zero, List.set_cons_succ]
  refine wpAnyH_take (i := 3) (v := ?_) rfl (by kernel_rfl) (by kernel_rfl) (by kernel_rfl) (fun _ _ _ h => h) (Or.inl ⟨by rfl, ?_⟩) (by assumption) ?_
  rotate_left 1
  · (intro wS hSw; (try dsimp only at hSw); go_simp; try with_reducible rfl)
  try simp only [List.getElem_toArray, List.getElem_cons_zero, List.getElem_cons_succ, Act.put, List.setIfInBounds_toArray, List.set_cons_zero, List.set_cons_succ]
  refine wpAnyH_take (i := 4) (v := ?_) rfl (by kernel_rfl) (by kernel_rfl) (by kernel_rfl) (fun _ _ _ h => h) (Or.inl ⟨by rfl, ?_⟩) (by assumption) ?_
  rotate_left 1
  · (intro wS hSw; (try dsimp only at hSw); go_simp; try with_reducible rfl)
  try simp only [List.getElem_toArray, List.getElem_cons_zero, List.getElem_cons_succ, Act.put, List.setIfInBounds_toArray, List.set_cons_zero, List.set_cons_succ]
  refine wpAnyH_take (i := 5) (v := ?_) rfl (by kernel_rfl) (by kernel_rfl) (by kernel_rfl) (fun _ _ _ h => h) (Or.inl ⟨by rfl, ?_⟩) (by assumption) ?_
  rotate_left 1
  · (intro wS hSw; (try dsimp only at hSw); go_simp; try with_reducible rfl)
  try simp only [List.getElem_toArray, List.getElem_cons_zero, List.getElem_cons_succ, Act.put, List.setIfInBounds_toArray, List.set_cons_zero, List.set_cons_succ]
  refine wpAnyH_take (i := 6) (v := ?_) rfl (by kernel_rfl) (by kernel_rfl) (by kernel_rfl) (fun _ _ _ h => h) (Or.inl ⟨by rfl, ?_⟩) (by assumption) ?_
  rotate_left 1
  · (intro wS hSw; (try dsimp only at hSw); go_simp; try with_reducible rfl)
  try simp only [List.getElem_toArray, List.getElem_cons_zero, List.getElem_cons_succ, Act.put, List.setIfInBounds_toArray, List.set_cons_zero, List.set_cons_succ]
  refine wpAnyH_take (i := 7) (v := ?_) rfl (by kernel_rfl) (by kernel_rfl) (by kernel_rfl) (fun _ _ _ h => h) (Or.inl ⟨by rfl, ?_⟩) (by assumption) ?_
  rotate_left 1
  · (intro wS hSw; (try dsimp only at hSw); go_simp; try with_reducible rfl)
  try simp only [List.getElem_toArray, List.getElem_cons_zero, List.getElem_cons_succ, Act.put, List.setIfInBounds_toArray, List.set_cons_zero, List.set_cons_succ]
  refine wpAnyH_take (i := 8) (v := ?_) rfl (by kernel_rfl) (by kernel_rfl) (by kernel_rfl) (fun _ _ _ h => h) (Or.inl ⟨by rfl, ?_⟩) (by assumption) ?_
  rotate_left 1
  · (intro wS hSw; (try dsimp only at hSw); go_simp; try with_reducible rfl)
  try simp only [List.getElem_toArray, List.getElem_cons_zero, List.getElem_cons_succ, Act.put, List.setIfInBounds_toArray, List.set_cons_zero, List.set_cons_succ]
  refine wpAnyH_take (i := 9) (v := ?_) rfl (by kernel_rfl) (by kernel_rfl) (by kernel_rfl) (fun _ _ _ h => h) (Or.inl ⟨by rfl, ?_⟩) (by assumption) ?_
  rotate_left 1
  · (intro wS hSw; (try dsimp only at hSw); go_simp; try with_reducible rfl)
  try simp only [List.getElem_toArray, List.getElem_cons_zero, List.getElem_cons_succ, Act.put, List.setIfInBounds_toArray, List.set_cons_zero, List.set_cons_succ]
  refine wpAnyH_take (i := 10) (v := ?_) rfl (by kernel_rfl) (by kernel_rfl) (by kernel_rfl) (fun _ _ _ h => h) (Or.inl ⟨by rfl, ?_⟩) (by assumption) ?_
  rotate_left 1
  · (intro wS hSw; (try dsimp only at hSw); go_simp; try with_reducible rfl)
  try simp only [List.getElem_toArray, List.getElem_cons_zero, List.getElem_cons_succ, Act.put, List.setIfInBounds_toArray, List.set_cons_zero, List.set_cons_succ]
  refine wpAnyH_take (i := 11) (v := ?_) rfl (by kernel_rfl) (by kernel_rfl) (by kernel_rfl) (fun _ _ _ h => h) (Or.inl ⟨by rfl, ?_⟩) (by assumption) ?_
  rotate_left 1
  · (intro wS hSw; (try dsimp only at hSw); go_simp; try with_reducible rfl)
  try simp only [List.getElem_toArray, List.getElem_cons_zero, List.getElem_cons_succ, Act.put, List.setIfInBounds_toArray, List.set_cons_zero, List.set_cons_succ]
  refine wpAnyH_take (i := 12) (v := ?_) rfl (by kernel_rfl) (by kernel_rfl) (by kernel_rfl) (fun _ _ _ h => h) (Or.inl ⟨by rfl, ?_⟩) (by assumption) ?_
  rotate_left 1
  · (intro wS hSw; (try dsimp only at hSw); go_simp; try with_reducible rfl)
  try simp only [List.getElem_toArray, List.getElem_cons_zero, List.getElem_cons_succ, Act.put, List.setIfInBounds_toArray, List.set_cons_zero, List.set_cons_succ]
  refine wpAnyH_take (i := 13) (v := ?_) rfl (by kernel_rfl) (by kernel_rfl) (by kernel_rfl) (fun _ _ _ h => h) (Or.inl ⟨by rfl, ?_⟩) (by assumption) ?_
  rotate_left 1
  · (intro wS hSw; (try dsimp only at hSw); go_simp; try with_reducible rfl)
  try simp only [List.getElem_toArray, List.getElem_cons_zero, List.getElem_cons_succ, Act.put, List.setIfInBounds_toArray, List.set_cons_zero, List.set_cons_succ]
  refine wpAnyH_take (i := 14) (v := ?_) rfl (by kernel_rfl) (by kernel_rfl) (by kernel_rfl) (fun _ _ _ h => h) (Or.inl ⟨by rfl, ?_⟩) (by assumption) ?_
  rotate_left 1
  · (intro wS hSw; (try dsimp only at hSw); go_simp; try with_reducible rfl)
  try simp only [List.getElem_toArray, List.getElem_cons_zero, List.getElem_cons_succ, Act.put, List.setIfInBounds_toArray, List.set_cons_zero, List.set_cons_succ]
  refine wpAnyH_take (i := 15) (v := ?_) rfl (by kernel_rfl) (by kernel_rfl) (by kernel_rfl) (fun _ _ _ h => h) (Or.inl ⟨by rfl, ?_⟩) (by assumption) ?_
  rotate_left 1
  · (intro wS hSw; (try dsimp only at hSw); go_simp; try with_reducible rfl)
  try simp only [List.getElem_toArray, List.getElem_cons_zero, List.getElem_cons_succ, Act.put, List.setIfInBounds_toArray, List.set_cons_zero, List.set_cons_succ]
  refine wpAnyH_take (i := 16) (v := ?_) rfl (by kernel_rfl) (by kernel_rfl) (by kernel_rfl) (fun _ _ _ h => h) (Or.inl ⟨by rfl, ?_⟩) (by assumption) ?_
  rotate_left 1
  · (intro wS hSw; (try dsimp only at hSw); go_simp; try with_reducible rfl)
  try simp only [List.getElem_toArray, List.getElem_cons_zero, List.getElem_cons_succ, Act.put, List.setIfInBounds_toArray, List.set_cons_zero, List.set_cons_succ]
  refine wpAnyH_take (i := 17) (v := ?_) rfl (by kernel_rfl) (by kernel_rfl) (by kernel_rfl) (fun _ _ _ h => h) (Or.inl ⟨by rfl, ?_⟩) (by assumption) ?_
  rotate_left 1
  · (intro wS hSw; (try dsimp only at hSw); go_simp; try with_reducible rfl)
  try simp only [List.getElem_toArray, List.getElem_cons_zero, List.getElem_cons_succ, Act.put, List.setIfInBounds_toArray, List.set_cons_zero, List.set_cons_succ]
  refine wpAnyH_take (i := 18) (v := ?_) rfl (by kernel_rfl) (by kernel_rfl) (by kernel_rfl) (fun _ _ _ h => h) (Or.inl ⟨by rfl, ?_⟩) (by assumption) ?_
  rotate_left 1
  · (intro wS hSw; (try dsimp only at hSw); go_simp; try with_reducible rfl)
  try simp only [List.getElem_toArray, List.getElem_cons_zero, List.getElem_cons_succ, Act.put, List.setIfInBounds_toArray, List.set_cons_zero, List.set_cons_succ]
  refine wpAnyH_take (i := 19) (v := ?_) rfl (by kernel_rfl) (by kernel_rfl) (by kernel_rfl) (fun _ _ _ h => h) (Or.inl ⟨by rfl, ?_⟩) (by assumption) ?_
  rotate_left 1
  · (intro wS hSw; (try dsimp only at hSw); go_simp; try with_reducible rfl)
  try simp only [List.getElem_toArray, List.getElem_cons_zero, List.getElem_cons_succ, Act.put, List.setIfInBounds_toArray, List.set_cons_zero, List.set_cons_succ]
  refine wpAnyH_take (i := 20) (v := ?_) rfl (by kernel_rfl) (by kernel_rfl) (by kernel_rfl) (fun _ _ _ h => h) (Or.inl ⟨by rfl, ?_⟩) (by assumption) ?_
  rotate_left 1
  · (intro wS hSw; (try dsimp only at hSw); go_simp; try with_reducible rfl)
  try simp only [List.getElem_toArray, List.getElem_cons_zero, List.getElem_cons_succ, Act.put, List.setIfInBounds_toArray, List.set_cons_zero, List.set_cons_succ]
  refine wpAnyH_take (i := 21) (v := ?_) rfl (by kernel_rfl) (by kernel_rfl) (by kernel_rfl) (fun _ _ _ h => h) (Or.inl ⟨by rfl, ?_⟩) (by assumption) ?_
  rotate_left 1
  · (intro wS hSw; (try dsimp only at hSw); go_simp; try with_reducible rfl)
  try simp only [List.getElem_toArray, List.getElem_cons_zero, List.getElem_cons_succ, Act.put, List.setIfInBounds_toArray, List.set_cons_zero, List.set_cons_succ]
  refine wpAnyH_take (i := 22) (v := ?_) rfl (by kernel_rfl) (by kernel_rfl) (by kernel_rfl) (fun _ _ _ h => h) (Or.inl ⟨by rfl, ?_⟩) (by assumption) ?_
  rotate_left 1
  · (intro wS hSw; (try dsimp only at hSw); go_simp; try with_reducible rfl)
  try simp only [List.getElem_toArray, List.getElem_cons_zero, List.getElem_cons_succ, Act.put, List.setIfInBounds_toArray, List.set_cons_zero, List.set_cons_succ]
  refine wpAnyH_take (i := 23) (v := ?_) rfl (by kernel_rfl) (by kernel_rfl) (by kernel_rfl) (fun _ _ _ h => h) (Or.inl ⟨by rfl, ?_⟩) (by assumption) ?_
  rotate_left 1
  · (intro wS hSw; (try dsimp only at hSw); go_simp; try with_reducible rfl)
  try simp only [List.getElem_toArray, List.getElem_cons_zero, List.getElem_cons_succ, Act.put, List.setIfInBounds_toArray, List.set_cons_zero, List.set_cons_succ]
  refine wpAnyH_take (i := 24) (v := ?_) rfl (by kernel_rfl) (by kernel_rfl) (by kernel_rfl) (fun _ _ _ h => h) (Or.inl ⟨by rfl, ?_⟩) (by assumption) ?_
  rotate_left 1
  · (intro wS hSw; (try dsimp only at hSw); go_simp; try with_reducible rfl)
  try simp only [List.getElem_toArray, List.getElem_cons_zero, List.getElem_cons_succ, Act.put, List.setIfInBounds_toArray, List.set_cons_zero, List.set_cons_succ]
  refine wpAnyH_take (i := 25) (v := ?_) rfl (by kernel_rfl) (by kernel_rfl) (by kernel_rfl) (fun _ _ _ h => h) (Or.inl ⟨by rfl, ?_⟩) (by assumption) ?_
  rotate_left 1
  · (intro wS hSw; (try dsimp only at hSw); go_simp; try with_reducible rfl)
  try simp only [List.getElem_toArray, List.getElem_cons_zero, List.getElem_cons_succ, Act.put, List.setIfInBounds_toArray, List.set_cons_zero, List.set_cons_succ]
  refine wpAnyH_take (i := 26) (v := ?_) rfl (by kernel_rfl) (by kernel_rfl) (by kernel_rfl) (fun _ _ _ h => h) (Or.inl ⟨by rfl, ?_⟩) (by assumption) ?_
  rotate_left 1
  · (intro wS hSw; (try dsimp only at hSw); go_simp; try with_reducible rfl)
  try simp only [List.getElem_toArray, List.getElem_cons_zero, List.getElem_cons_succ, Act.put, List.setIfInBounds_toArray, List.set_cons_zero, List.set_cons_succ]
  refine wpAnyH_take (i := 27) (v := ?_) rfl (by kernel_rfl) (by kernel_rfl) (by kernel_rfl) (fun _ _ _ h => h) (Or.inl ⟨by rfl, ?_⟩) (by assumption) ?_
  rotate_left 1
  · (intro wS hSw; (try dsimp only at hSw); go_simp; try with_reducible rfl)
  try simp only [List.getElem_toArray, List.getElem_cons_zero, List.getElem_cons_succ, Act.put, List.setIfInBounds_toArray, List.set_cons_zero, List.set_cons_succ]
  refine wpAnyH_take (i := 28) (v := ?_) rfl (by kernel_rfl) (by kernel_rfl) (by kernel_rfl) (fun _ _ _ h => h) (Or.inl ⟨by rfl, ?_⟩) (by assumption) ?_
  rotate_left 1
  · (intro wS hSw; (try dsimp only at hSw); go_simp; try with_reducible rfl)
  try simp only [List.getElem_toArray, List.getElem_cons_zero, List.getElem_cons_succ, Act.put, List.setIfInBounds_toArray, List.set_cons_zero, List.set_cons_succ]
  refine wpAnyH_take (i := 29) (v := ?_) rfl (by kernel_rfl) (by kernel_rfl) (by kernel_rfl) (fun _ _ _ h => h) (Or.inl ⟨by rfl, ?_⟩) (by assumption) ?_
  rotate_left 1
  · (intro wS hSw; (try dsimp only at hSw); go_simp; try with_reducible rfl)
  try simp only [List.getElem_toArray, List.getElem_cons_zero, List.getElem_cons_succ, Act.put, List.setIfInBounds_toArray, List.set_cons_zero, List.set_cons_succ]
  refine wpAnyH_take (i := 30) (v := ?_) rfl (by kernel_rfl) (by kernel_rfl) (by kernel_rfl) (fun _ _ _ h => h) (Or.inl ⟨by rfl, ?_⟩) (by assumption) ?_
  rotate_left 1
  · (intro wS hSw; (try dsimp only at hSw); go_simp; try with_reducible rfl)
  try simp only [List.getElem_toArray, List.getElem_cons_zero, List.getElem_cons_succ, Act.put, List.setIfInBounds_toArray, List.set_cons_zero, List.set_cons_succ]
  refine wpAnyH_take (i := 31) (v := ?_) rfl (by kernel_rfl) (by kernel_rfl) (by kernel_rfl) (fun _ _ _ h => h) (Or.inl ⟨by rfl, ?_⟩) (by assumption) ?_
  rotate_left 1
  · (intro wS hSw; (try dsimp only at hSw); go_simp; try with_reducible rfl)
  try simp only [List.getElem_toArray, List.getElem_cons_zero, List.getElem_cons_succ, Act.put, List.setIfInBounds_toArray, List.set_cons_zero, List.set_cons_succ]
  refine wpAnyH_take (i := 32) (v := ?_) rfl (by kernel_rfl) (by kernel_rfl) (by kernel_rfl) (fun _ _ _ h => h) (Or.inl ⟨by rfl, ?_⟩) (by assumption) ?_
  rotate_left 1
  · (intro wS hSw; (try dsimp only at hSw); go_simp; try with_reducible rfl)
  try simp only [List.getElem_toArray, List.getElem_cons_zero, List.getElem_cons_succ, Act.put, List.setIfInBounds_toArray, List.set_cons_zero, List.set_cons_succ]
  refine wpAnyH_take (i := 33) (v := ?_) rfl (by kernel_rfl) (by kernel_rfl) (by kernel_rfl) (fun _ _ _ h => h) (Or.inl ⟨by rfl, ?_⟩) (by assumption) ?_
  rotate_left 1
  · (intro wS hSw; (try dsimp only at hSw); go_simp; try with_reducible rfl)
  try simp only [List.getElem_toArray, List.getElem_cons_zero, List.getElem_cons_succ, Act.put, List.setIfInBounds_toArray, List.set_cons_zero, List.set_cons_succ]
  refine wpAnyH_take (i := 34) (v := ?_) rfl (by kernel_rfl) (by kernel_rfl) (by kernel_rfl) (fun _ _ _ h => h) (Or.inl ⟨by rfl, ?_⟩) (by assumption) ?_
  rotate_left 1
  · (intro wS hSw; (try dsimp only at hSw); go_simp; try with_reducible rfl)
  try simp only [List.getElem_toArray, List.getElem_cons_zero, List.getElem_cons_succ, Act.put, List.setIfInBounds_toArray, List.set_cons_zero, List.set_cons_succ]
  refine wpAnyH_take (i := 35) (v := ?_) rfl (by kernel_rfl) (by kernel_rfl) (by kernel_rfl) (fun _ _ _ h => h) (Or.inl ⟨by rfl, ?_⟩) (by assumption) ?_
  rotate_left 1
  · (intro wS hSw; (try dsimp only at hSw); go_simp; try with_reducible rfl)
  try simp only [List.getElem_toArray, List.getElem_cons_zero, List.getElem_cons_succ, Act.put, List.setIfInBounds_toArray, List.set_cons_zero, List.set_cons_succ]
  refine wpAnyH_take (i := 36) (v := ?_) rfl (by kernel_rfl) (by kernel_rfl) (by kernel_rfl) (fun _ _ _ h => h) (Or.inl ⟨by rfl, ?_⟩) (by assumption) ?_
  rotate_left 1
  · (intro wS hSw; (try dsimp only at hSw); go_simp; try with_reducible rfl)
  try simp only [List.getElem_toArray, List.getElem_cons_zero, List.getElem_cons_succ, Act.put, List.setIfInBounds_toArray, List.set_cons_zero, List.set_cons_succ]
  refine wpAnyH_take (i := 37) (v := ?_) rfl (by kernel_rfl) (by kernel_rfl) (by kernel_rfl) (fun _ _ _ h => h) (Or.inl ⟨by rfl, ?_⟩) (by assumption) ?_
  rotate_left 1
  · (intro wS hSw; (try dsimp only at hSw); go_simp; try with_reducible rfl)
  try simp only [List.getElem_toArray, List.getElem_cons_zero, List.getElem_cons_succ, Act.put, List.setIfInBounds_toArray, List.set_cons_zero, List.set_cons_succ]
  refine wpAnyH_take (i := 38) (v := ?_) rfl (by kernel_rfl) (by kernel_rfl) (by kernel_rfl) (fun _ _ _ h => h) (Or.inl ⟨by rfl, ?_⟩) (by assumption) ?_
  rotate_left 1
  · (intro wS hSw; (try dsimp only at hSw); go_simp; try with_reducible rfl)
  try simp only [List.getElem_toArray, List.getElem_cons_zero, List.getElem_cons_succ, Act.put, List.setIfInBounds_toArray, List.set_cons_zero, List.set_cons_succ]
  refine wpAnyH_take (i := 39) (v := ?_) rfl (by kernel_rfl) (by kernel_rfl) (by kernel_rfl) (fun _ _ _ h => h) (Or.inl ⟨by rfl, ?_⟩) (by assumption) ?_
  rotate_left 1
  · (intro wS hSw; (try dsimp only at hSw); go_simp; try with_reducible rfl)
  try simp only [List.getElem_toArray, List.getElem_cons_zero, List.getElem_cons_succ, Act.put, List.setIfInBounds_toArray, List.set_cons_zero, List.set_cons_succ]
  refine wpAnyH_take (i := 40) (v := ?_) rfl (by kernel_rfl) (by kernel_rfl) (by kernel_rfl) (fun _ _ _ h => h) (Or.inl ⟨by rfl, ?_⟩) (by assumption) ?_
  rotate_left 1
  · (intro wS hSw; (try dsimp only at hSw); go_simp; try with_reducible rfl)
  try simp only [List.getElem_toArray, List.getElem_cons_zero, List.getElem_cons_succ, Act.put, List.setIfInBounds_toArray, List.set_cons_zero, List.set_cons_succ]
  refine wpAnyH_take (i := 41) (v := ?_) rfl (by kernel_rfl) (by kernel_rfl) (by kernel_rfl) (fun _ _ _ h => h) (Or.inl ⟨by rfl, ?_⟩) (by assumption) ?_
  rotate_left 1
  · (intro wS hSw; (try dsimp only at hSw); go_simp; try with_reducible rfl)
  try simp only [List.getElem_toArray, List.getElem_cons_zero, List.getElem_cons_succ, Act.put, List.setIfInBounds_toArray, List.set_cons_zero, List.set_cons_succ]
  refine wpAnyH_ready (rs := [42]) (by kernel_rfl) (by simp) ?_
  refine AllReadyH.cons rfl (fun K hK => ?_) AllReadyH.nil
  go_simp
  refine (bchk_yes Any1 Any1 _ _ _ _ _ awK [[(0, 2)]] _ (HSA2.out.below bD) (HKA2.out.below bD) awK_check (by decide) awK_keys).mono ?_; rintro e w3 ⟨rfl, hb⟩; have b3 := bD.trans hb; clear hb
  refine hK.out _ _ (⟨(b3.cell (p := ⟨A1, 0, none⟩) m1).trans t0, (b3.cell (p := ⟨A1, 1, none⟩) m1).trans t1, (b3.cell (p := ⟨A1, 2, none⟩) m1).trans t2, (b3.cell (p := ⟨A1, 3, none⟩) m1).trans t3, (b3.cell (p := ⟨A7, 0, none⟩) m7).trans q0, (b3.cell (p := ⟨A7, 1, none⟩) m7).trans q1, (b3.cell (p := ⟨A7, 2, none⟩) m7).trans q2, (b3.cell (p := ⟨bb, ob, none⟩) mb).trans b0, (b3.cell (p := ⟨bb, ob + 1, none⟩) mb).trans b1, (b3.cell (p := ⟨ib, io + 1, none⟩) mi).trans i1', (b3.cell (p := ⟨A3, 0, none⟩) m3).trans k0, (b3.cell (p := ⟨A2, 0, none⟩) m2).trans c0, (b3.cell (p := ⟨A2, 1, none⟩) m2).trans c1⟩) (fun hHeld => ?_)
  clear hK K
  try simp only [List.getElem_toArray, List.getElem_cons_zero, List.getElem_cons_succ, Act.put, List.setIfInBounds_toArray, List.set_cons_zero, List.set_cons_succ]
  refine wpAnyH_take (i := 43) (v := ?_) rfl (by kernel_rfl) (by kernel_rfl) (by kernel_rfl) (fun _ _ _ h => h) (Or.inl ⟨by rfl, ?_⟩) (by assumption) ?_
  rotate_left 1
  · (intro wS hSw; (try dsimp only at hSw); go_simp; try with_reducible rfl)
  try simp only [List.getElem_toArray, List.getElem_cons_zero, List.getElem_cons_succ, Act.put, List.setIfInBounds_toArray, List.set_cons_zero, List.set_cons_succ]
  refine wpAnyH_take (i := 44) (v := ?_) rfl (by kernel_rfl) (by kernel_rfl) (by kernel_rfl) (fun _ _ _ h => h) (Or.inl ⟨by rfl, ?_⟩) (by assumption) ?_
  rotate_left 1
  · (intro wS hSw; (try dsimp only at hSw); go_simp; try with_reducible rfl)
  try simp only [List.getElem_toArray, List.getElem_cons_zero, List.getElem_cons_succ, Act.put, List.setIfInBounds_toArray, List.set_cons_zero, List.set_cons_succ]
  refine wpAnyH_take (i := 45) (v := ?_) rfl (by kernel_rfl) (by kernel_rfl) (by kernel_rfl) (fun _ _ _ h => h) (Or.inl ⟨by rfl, ?_⟩) (by assumption) ?_
  rotate_left 1
  · (intro wS hSw; (try dsimp only at hSw); go_simp; try with_reducible rfl)
  try simp only [List.getElem_toArray, List.getElem_cons_zero, List.getElem_cons_succ, Act.put, List.setIfInBounds_toArray, List.set_cons_zero, List.set_cons_succ]
  refine wpAnyH_take (i := 46) (v := ?_) rfl (by kernel_rfl) (by kernel_rfl) (by kernel_rfl) (fun _ _ _ h => h) (Or.inl ⟨by rfl, ?_⟩) (by assumption) ?_
  rotate_left 1
  · (intro wS hSw; (try dsimp only at hSw); go_simp; try with_reducible rfl)
  try simp only [List.getElem_toArray, List.getElem_cons_zero, List.getElem_cons_succ, Act.put, List.setIfInBounds_toArray, List.set_cons_zero, List.set_cons_succ]
  refine wpAnyH_take (i := 47) (v := ?_) rfl (by kernel_rfl) (by kernel_rfl) (by kernel_rfl) (fun _ _ _ h => h) (Or.inl ⟨by rfl, ?_⟩) (by assumption) ?_
  rotate_left 1
  · (intro wS hSw; (try dsimp only at hSw); go_simp; try with_reducible rfl)
  try simp only [List.getElem_toArray, List.getElem_cons_zero, List.getElem_cons_succ, Act.put, List.setIfInBounds_toArray, List.set_cons_zero, List.set_cons_succ]
  refine wpAnyH_take (i := 48) (v := ?_) rfl (by kernel_rfl) (by kernel_rfl) (by kernel_rfl) (fun _ _ _ h => h) (Or.inl ⟨by rfl, ?_⟩) (by assumption) ?_
  rotate_left 1
  · (intro wS hSw; (try dsimp only at hSw); go_simp; try with_reducible rfl)
  try simp only [List.getElem_toArray, List.getElem_cons_zero, List.getElem_cons_succ, Act.put, List.setIfInBounds_toArray, List.set_cons_zero, List.set_cons_succ]
  refine wpAnyH_take (i := 49) (v := ?_) rfl (by kernel_rfl) (by kernel_rfl) (by kernel_rfl) (fun _ _ _ h => h) (Or.inl ⟨by rfl, ?_⟩) (by assumption) ?_
  rotate_left 1
  · (intro wS hSw; (try dsimp only at hSw); go_simp; try with_reducible rfl)
  try simp only [List.getElem_toArray, List.getElem_cons_zero, List.getElem_cons_succ, Act.put, List.setIfInBounds_toArray, List.set_cons_zero, List.set_cons_succ]
  refine wpAnyH_take (i := 50) (v := ?_) rfl (by kernel_rfl) (by kernel_rfl) (by kernel_rfl) (fun _ _ _ h => h) (Or.inl ⟨by rfl, ?_⟩) (by assumption) ?_
  rotate_left 1
  · (intro wS hSw; (try dsimp only at hSw); go_simp; try with_reducible rfl)
  try simp only [List.getElem_toArray, List.getElem_cons_zero, List.getElem_cons_succ, Act.put, List.setIfInBounds_toArray, List.set_cons_zero, List.set_cons_succ]
  refine wpAnyH_take (i := 51) (v := ?_) rfl (by kernel_rfl) (by kernel_rfl) (by kernel_rfl) (fun _ _ _ h => h) (Or.inl ⟨by rfl, ?_⟩) (by assumption) ?_
  rotate_left 1
  · (intro wS hSw; (try dsimp only at hSw); go_simp; try with_reducible rfl)
  try simp only [List.getElem_toArray, List.getElem_cons_zero, List.getElem_cons_succ, Act.put, List.setIfInBounds_toArray, List.set_cons_zero, List.set_cons_succ]
  refine wpAnyH_take (i := 52) (v := ?_) rfl (by kernel_rfl) (by kernel_rfl) (by kernel_rfl) (fun _ _ _ h => h) (Or.inl ⟨by rfl, ?_⟩) (by assumption) ?_
  rotate_left 1
  · (intro wS hSw; (try dsimp only at hSw); go_simp; try with_reducible rfl)
  try simp only [List.getElem_toArray, List.getElem_cons_zero, List.getElem_cons_succ, Act.put, List.setIfInBounds_toArray, List.set_cons_zero, List.set_cons_succ]
  refine wpAnyH_take (i := 53) (v := ?_) rfl (by kernel_rfl) (by kernel_rfl) (by kernel_rfl) (fun _ _ _ h => h) (Or.inl ⟨by rfl, ?_⟩) (by assumption) ?_
  rotate_left 1
  · (intro wS hSw; (try dsimp only at hSw); go_simp; try with_reducible rfl)
  try simp only [List.getElem_toArray, List.getElem_cons_zero, List.getElem_cons_succ, Act.put, List.setIfInBounds_toArray, List.set_cons_zero, List.set_cons_succ]
  refine wpAnyH_take (i := 54) (v := ?_) rfl (by kernel_rfl) (by kernel_rfl) (by kernel_rfl) (fun _ _ _ h => h) (Or.inl ⟨by rfl, ?_⟩) (by assumption) ?_
  rotate_left 1
  · (intro wS hSw; (try dsimp only at hSw); go_simp; try with_reducible rfl)
  try simp only [List.getElem_toArray, List.getElem_cons_zero, List.getElem_cons_succ, Act.put, List.setIfInBounds_toArray, List.set_cons_zero, List.set_cons_succ]
  refine wpAnyH_take (i := 55) (v := ?_) rfl (by kernel_rfl) (by kernel_rfl) (by kernel_rfl) (fun _ _ _ h => h) (Or.inl ⟨by rfl, ?_⟩) (by assumption) ?_
  rotate_left 1
  · (intro wS hSw; (try dsimp only at hSw); go_simp; try with_reducible rfl)
  try simp only [List.getElem_toArray, List.getElem_cons_zero, List.getElem_cons_succ, Act.put, List.setIfInBounds_toArray, List.set_cons_zero, List.set_cons_succ]
  refine wpAnyH_ready (rs := [56]) (by kernel_rfl) (by simp) ?_
  refine AllReadyH.cons rfl (fun K hK => ?_) AllReadyH.nil
  go_simp
  refine (bpart_yes Any1 _ _ _ _ awK (0, 2) ⟨1, 1, [awRobert]⟩ _ _ (HSA2.out.below b3) (HV2.out.below b3) (by kernel_rfl) (by decide) (by decide) (by decide) (by decide) (by kernel_rfl) (by decide) (by decide) (fun _ => awR_ascii)).mono ?_; rw [HP.out]; rintro e w4 ⟨rfl, hb⟩; have b4 := b3.trans (hb.mono b3.size); clear hb
  refine hK.out _ _ (⟨(b4.cell (p := ⟨A1, 0, none⟩) m1).trans t0, (b4.cell (p := ⟨A1, 1, none⟩) m1).trans t1, (b4.cell (p := ⟨A1, 2, none⟩) m1).trans t2, (b4.cell (p := ⟨A1, 3, none⟩) m1).trans t3, (b4.cell (p := ⟨A7, 0, none⟩) m7).trans q0, (b4.cell (p := ⟨A7, 1, none⟩) m7).trans q1, (b4.cell (p := ⟨A7, 2, none⟩) m7).trans q2, (b4.cell (p := ⟨bb, ob, none⟩) mb).trans b0, (b4.cell (p := ⟨bb, ob + 1, none⟩) mb).trans b1, (b4.cell (p := ⟨ib, io + 1, none⟩) mi).trans i1', (b4.cell (p := ⟨A3, 0, none⟩) m3).trans k0, (b4.cell (p := ⟨A2, 0, none⟩) m2).trans c0, (b4.cell (p := ⟨A2, 1, none⟩) m2).trans c1⟩) (fun hHeld => ?_)
  clear hK K
  try simp only [List.getElem_toArray, List.getElem_cons_zero, List.getElem_cons_succ, Act.put, List.setIfInBounds_toArray, List.set_cons_zero, List.set_cons_succ]
  refine wpAnyH_take (i := 57) (v := ?_) rfl (by kernel_rfl) (by kernel_rfl) (by kernel_rfl) (fun _ _ _ h => h) (Or.inl ⟨by rfl, ?_⟩) (by assumption) ?_
  rotate_left 1
  · (intro wS hSw; (try dsimp only at hSw); go_simp; try with_reducible rfl)
  try simp only [List.getElem_toArray, List.getElem_cons_zero, List.getElem_cons_succ, Act.put, List.setIfInBounds_toArray, List.set_cons_zero, List.set_cons_succ]
  refine wpAnyH_take (i := 58) (v := ?_) rfl (by kernel_rfl) (by kernel_rfl) (by kernel_rfl) (fun _ _ _ h => h) (Or.inl ⟨by rfl, ?_⟩) (by assumption) ?_
  rotate_left 1
  · (intro wS hSw; (try dsimp only at hSw); go_simp; try with_reducible rfl)
  try simp only [List.getElem_toArray, List.getElem_cons_zero, List.getElem_cons_succ, Act.put, List.setIfInBounds_toArray, List.set_cons_zero, List.set_cons_succ]
  refine wpAnyH_take (i := 59) (v := ?_) rfl (by kernel_rfl) (by kernel_rfl) (by kernel_rfl) (fun _ _ _ h => h) (Or.inl ⟨by rfl, ?_⟩) (by assumption) ?_
  rotate_left 1
  · (intro wS hSw; (try dsimp only at hSw); go_simp; try with_reducible rfl)
  try simp only [List.getElem_toArray, List.getElem_cons_zero, List.getElem_cons_succ, Act.put, List.setIfInBounds_toArray, List.set_cons_zero, List.set_cons_succ]
  refine wpAnyH_done (by kernel_rfl) ?_ _
  refine NoPanic.normal ?_
  go_wp2_with fail
  go_ret
  exact ⟨rfl, HB2.out.trans (b4.mono HB2.out.size)⟩
end Go.Proofs.YtdckkggmmakfiaaGreatDoor
end
section
/- recordlinkmake: Key, Parameters: some key; some parameters that are valid. -/
set_option linter.unusedSimpArgs false
set_option linter.unusedVariables false
set_option maxRecDepth 100000
namespace Go.Proofs.YtdckkggmmakfiaaGreatDoor
open Go.RowKit
def KeyPost (D : Nat) (w : World) (e : Ending) (w' : World) : Prop := ∃ k : Int × Int, e = .returned (.agg #[.int .u64 k.1, .int .u64 k.2]) ∧ Moved D w w'
set_option maxHeartbeats 1000000 in
theorem key_deal (D : Nat) (w : World) (h : DeckAt w D) :
    Calls Tryz.prog 12 #[.pointer (some ⟨D, 0, none⟩)] w (KeyPost D w) := by
  have zD := h.lt
  have M0 := Lib.hid (Moved.start h); clear h
  go_enter Tryz.func12, Tryz.ntmps12
  go_wp2_with fail
  refine (word_any D _ (M0.out.alloc _).deck).mono ?_
  rintro e w1 ⟨a, rfl, a0, a1, mv⟩
  have M1 := Lib.hid ((M0.out.alloc _).trans mv)
  have HZ1 := Lib.hid (mv.blk (k := w.heap.size) (by omega) (blk_new rfl))
  clear mv
  go_wp2_with fail
  refine (word_any D _ M1.out.deck).mono ?_
  rintro e w2 ⟨b, rfl, b0, b1, mv⟩
  have M2 := Lib.hid (M1.out.trans mv)
  have hz2 := mv.blk (k := w.heap.size) (by omega) HZ1.out
  have HZ2 := Lib.hid hz2
  obtain ⟨z0, z1⟩ := cells2K hz2
  have f0 := frozen_of_row _ _ 0 _ _ hz2; have f1 := frozen_of_row _ _ 1 _ _ hz2
  have y1 := lt_of_blk hz2
  clear mv hz2 HZ1 M1
  go_wp2_with fail
  exact bodyPost_row1 rfl rfl (blk_set (i := 1) (v := .int .u64 b) (blk_set (i := 0) (v := .int .u64 a) HZ2.out)) Tryz.underlying39 rfl (by kernel_rfl)
    ⟨(a, b), rfl, (M2.out.set (a := ⟨w.heap.size, 0, none⟩) (Nat.le_refl _) _).set (a := ⟨w.heap.size, 1, none⟩) (Nat.le_refl _) _⟩
theorem one_encPar : ∀ (x : ParL), ∀ u ∈ encPar x, u.oneCell' = true := by
  intro x u hu; simp at hu; rcases hu with rfl | rfl | rfl <;> rfl
/-- parameters that are dealt for n fields, the first j of them -/
structure ParsD (n j : Nat) (P : List ParL) : Prop where
  len : P.length = j
  par : ∀ i, i < j → ParOk (P.getD i default) ∧ (P.getD i default).salt < n ∧ (P.getD i default).salt ≠ i
theorem ParsD.nil (n : Nat) : ParsD n 0 [] := ⟨rfl, fun i hi => by omega⟩
theorem ParsD.snoc {n j : Nat} {P : List ParL} {p : ParL} (h : ParsD n j P) (hp : ParOk p) (h1 : p.salt < n) (h2 : p.salt ≠ j) : ParsD n (j + 1) (P ++ [p]) := by
  refine ⟨by simp [h.len], fun i hi => ?_⟩
  by_cases hij : i < j
  · have e : (P ++ [p]).getD i default = P.getD i default := by rw [List.getD, List.getD, List.getElem?_append_left (by rw [h.len]; exact hij)]
    rw [e]; exact h.par i hij
  · have hij' : i = j := by omega
    subst hij'
    have e : (P ++ [p]).getD i default = p := by rw [List.getD, List.getElem?_append_right (by rw [h.len]; exact Nat.le_refl _), h.len, Nat.sub_self]; rfl
    rw [e]; exact ⟨hp, h1, h2⟩
def ParsPost (D n : Nat) (w : World) (e : Ending) (w' : World) : Prop := ∃ v P, e = .returned v ∧ Vec w' (fun b => w.heap.size ≤ b) 3 encPar v P ∧ ParsD n n P ∧ Moved D w w'
theorem OwnM.set2 {α : Type} {D e size : Nat} {enc : α → List Value} {wA w : World} {u : Value} {L : List α} (h : OwnM D e size enc wA u L w) {a : Addr} {v : Value} (ha : wA.heap.size ≤ a.block) (hn : ∀ g cap, u = .slice (some ⟨g, 0, none⟩) L.length cap → g < a.block) : OwnM D e size enc wA u L (w.setCell a v) := by
  refine ⟨⟨h.1.1, ?_⟩, h.2.set ha v⟩
  rcases h.1.2 with h0 | ⟨g, cap, cur, hv, hg, hh, rest⟩
  · exact .inl h0
  · exact .inr ⟨g, cap, cur, hv, hg, blk_far hh (by have := hn g cap hv; omega), rest⟩
end Go.Proofs.YtdckkggmmakfiaaGreatDoor
end
section
/- The reference of layer 1 (text): Letters, Join, Same, Tokens, Valid compute what the plain functions say. -/
set_option linter.unusedSimpArgs false
set_option linter.unusedVariables false
set_option maxRecDepth 100000
namespace Go.Proofs.YtdckkggmmakfiaaGreatDoor
open Go.RowKit
attribute [local go_sem] toList_mk mk_size bytes_append
theorem ext_one (s : ByteArray) (k : Nat) (h : k < s.size) : s.extract k (k + 1) = ⟨[s[k]].toArray⟩ := by
  have hl : s.data.toList.length = s.size := by simp
  have := ext_mk s.data.toList k (k + 1) (by omega)
  unfold mkS at this
  have e : (⟨s.data.toList.toArray⟩ : ByteArray) = s := by simp
  rw [e] at this
  rw [this]
  congr 2
  rw [take_snoc' s k h, List.drop_append_of_le_length (by rw [List.length_take]; omega), List.drop_eq_nil_of_le (by rw [List.length_take]; omega), List.nil_append]
set_option maxHeartbeats 1000000 in
theorem rletters_any (s : ByteArray) (w : World) (hs : s.size ≤ 1000000) :
    Calls Tryz.prog 94 #[.string s] w fun e w' => e = .returned (strV (lettersL s.data.toList)) ∧ w = w' := by
  have hl : s.data.toList.length = s.size := by simp
  have HL := Lib.hid hl; clear hl
  go_enter Tryz.func94, Tryz.ntmps94
  go_wp2_with fail
  go_loop [3, 4] (fun o i => ∃ k : Nat, k ≤ s.size ∧ i = .int .i64 k ∧ o = strV (lettersL (s.data.toList.take k))) (fun _ i => s.size - (intOf i).toNat)
  case atStart => exact ⟨0, by omega, rfl, rfl⟩
  case round =>
    obtain ⟨k, hk, rfl, rfl⟩ := hrel
    by_cases hlt : k < s.size
    · have hq : decide ((k : Int) < s.size) = true := by simp; omega
      have ht := Lib.hid (take_snoc' s k hlt)
      have hb := s[k].toNat_lt
      have hlen : (lettersL (s.data.toList.take k)).length ≤ 1000000 := by have := letters_len (s.data.toList.take k); have := List.length_take_le k s.data.toList; omega
      have hext := ext_one s k hlt
      cases hlo : isLow s[k]
      · have HN := Lib.hid (letters_no (s.data.toList.take k) s[k] hlo)
        have hc := hlo
        rw [low_iff, decide_eq_false_iff_not] at hc
        have hc' : (97 ≤ (s[k].toNat : Int) ∧ 122 < (s[k].toNat : Int)) ∨ (s[k].toNat : Int) < 97 := by omega
        clear hc hlo hext
        rcases hc' with ⟨g1, g2⟩ | g1
        all_goals
          go_wp2_with fail
          go_round
          case rel => exact ⟨k + 1, by omega, by go_num, by rw [ht.out, HN.out]⟩
          case measure => simp [intOf]; omega
      · have HY := Lib.hid (letters_yes (s.data.toList.take k) s[k] hlo)
        have hc := hlo
        rw [low_iff, decide_eq_true_iff] at hc
        obtain ⟨g1, g2⟩ := hc
        clear hlo
        go_wp2_with fail
        go_round
        case rel => exact ⟨k + 1, by omega, by go_num, by rw [ht.out, HY.out]⟩
        case measure => simp [intOf]; omega
    · obtain rfl : k = s.size := by omega
      have hq : decide ((s.size : Int) < s.size) = false := by simp
      have HF := Lib.hid (List.take_of_length_le (by rw [HL.out]; exact Nat.le_refl _) : s.data.toList.take s.size = s.data.toList)
      go_wp2_with fail
      go_ret
      exact ⟨by show Ending.returned (strV (lettersL (s.data.toList.take s.size))) = _; rw [HF.out], rfl⟩
theorem join_snoc (T : List (List UInt8)) (x : List UInt8) : joinL (T ++ [x]) = if T = [] then x else joinL T ++ [32] ++ x := by
  induction T with
  | nil => rfl
  | cons t T ih =>
    rw [if_neg (by simp)]
    by_cases hT : T = []
    · subst hT; simp [joinL]
    · rw [if_neg hT] at ih
      rw [List.cons_append, join_cons_ne _ _ (by simp), ih, join_cons_ne _ _ hT]; simp
theorem join_take_len (L : List (List UInt8)) : ∀ k, (joinL (L.take k)).length ≤ (joinL L).length := by
  induction L with
  | nil => intro k; simp
  | cons a L ih =>
    intro k
    cases k with
    | zero => simp [joinL]
    | succ k =>
      rw [List.take_succ_cons]
      by_cases hk : L.take k = []
      · rw [hk]
        by_cases hL : L = []
        · subst hL; simp [joinL]
        · rw [join_cons_ne _ _ hL]; simp [joinL]
      · have hL : L ≠ [] := by intro e; subst e; simp at hk
        rw [join_cons_ne _ _ hk, join_cons_ne _ _ hL]
        have := ih k; simp; omega
set_option maxHeartbeats 1000000 in
theorem rjoin_any (S : Nat → Prop) (v : Value) (L : List (List UInt8)) (w : World) (h : Vec w S 1 encS v L) (hn : L.length ≤ 1000000) (hj : (joinL L).length ≤ 1000000000) :
    Calls Tryz.prog 103 #[v] w fun e w' => e = .returned (strV (joinL L)) ∧ w = w' := by
  obtain ⟨a, cap, rfl⟩ := h.slice
  have HV := Lib.hid h; clear h
  go_enter Tryz.func103, Tryz.ntmps103
  go_wp2_with fail
  go_loop [3, 4] (fun o i => ∃ k : Nat, k ≤ L.length ∧ i = .int .i64 k ∧ o = strV (joinL (L.take k))) (fun _ i => L.length - (intOf i).toNat)
  case atStart => exact ⟨0, by omega, rfl, rfl⟩
  case round =>
    obtain ⟨k, hk, rfl, rfl⟩ := hrel
    have hlen := join_take_len L k
    by_cases hlt : k < L.length
    · have hq : decide ((k : Int) < L.length) = true := by simp; omega
      obtain ⟨b, off, rfl, _, hb, hc⟩ := vec_cell1 HV.out (by omega)
      have c1 := hc k hlt
      have htk := take_snocA L k hlt
      rw [show (default : List UInt8) = [] from rfl] at htk
      have hxl := join_take_len L (k + 1)
      have hsn := join_snoc (L.take k) (L.getD k [])
      rw [← htk] at hsn
      obtain ⟨x, hx⟩ : ∃ x, L.getD k [] = x := ⟨_, rfl⟩
      rw [hx] at c1 htk hsn
      have hx1 : x.length ≤ 1000000000 := by
        rw [hsn] at hxl
        split at hxl
        · omega
        · simp at hxl; omega
      have HSn := Lib.hid hsn
      clear hc htk hsn hx hxl
      by_cases hk0 : k = 0
      · subst hk0
        have e0 : joinL ([] : List (List UInt8)) = [] := rfl
        rw [Nat.add_zero] at c1
        go_wp2_with fail
        go_round
        case rel => exact ⟨1, by omega, by go_num, by rw [HSn.out, if_pos (by simp)]⟩
        case measure => simp [intOf]; omega
      · have hq0 : decide ((0 : Int) < k) = true := by simp; omega
        have hk1 : 0 < k := by omega
        have hne : L.take k ≠ [] := by intro e; have := congrArg List.length e; rw [List.length_take, List.length_nil] at this; omega
        have HNe := Lib.hid hne
        clear hk0 hne
        go_wp2_with fail
        go_round
        case rel => exact ⟨k + 1, by omega, by go_num, by rw [HSn.out, if_neg HNe.out]; simp⟩
        case measure => simp [intOf]; omega
    · obtain rfl : k = L.length := by omega
      have hq : decide ((L.length : Int) < L.length) = false := by simp
      have HF := Lib.hid (List.take_of_length_le (Nat.le_refl _) : L.take L.length = L)
      go_wp2_with fail
      go_ret
      exact ⟨rfl, rfl⟩
end Go.Proofs.YtdckkggmmakfiaaGreatDoor
end
section
/- The reference of layer 1 (text): Same, Tokens, Valid. -/
set_option linter.unusedSimpArgs false
set_option linter.unusedVariables false
set_option maxRecDepth 100000
namespace Go.Proofs.YtdckkggmmakfiaaGreatDoor
open Go.RowKit
attribute [local go_sem] toList_mk mk_size bytes_append
theorem list_ext0 {A B : List (List UInt8)} (hl : A.length = B.length) (h : ∀ j, j < A.length → A.getD j [] = B.getD j []) : A = B := by
  refine List.ext_getElem hl fun j h1 h2 => ?_
  have := h j h1
  rwa [List.getD, List.getD, List.getElem?_eq_getElem h1, List.getElem?_eq_getElem h2] at this
set_option maxHeartbeats 2000000 in
theorem rtokens_any (s : ByteArray) (w : World) (hs : s.size ≤ 1000000) :
    Calls Tryz.prog 100 #[.string s] w fun e w' => ∃ v, e = .returned v ∧ OwnAt w v (toks s.data.toList) w' := by
  have hl : s.data.toList.length = s.size := by simp
  have HL := Lib.hid hl; clear hl
  obtain ⟨l, hl⟩ : ∃ l, s.data.toList = l := ⟨_, rfl⟩
  rw [hl] at HL
  have HLs := Lib.hid hl
  rw [hl]
  clear hl
  go_enter Tryz.func100, Tryz.ntmps100
  go_wp2_with fail
  go_loopw [3, 4, 5] (fun v t i wr => ∃ (k : Nat) (C : List (List UInt8)) (p : List UInt8), k ≤ s.size + 1 ∧ i = .int .i64 k ∧ t = strV p ∧ OwnAt w v C wr ∧ p.length ≤ k ∧ C.length ≤ k ∧ (k = s.size + 1 → p = []) ∧ Hid (toks l = C ++ toksA p (l.drop k))) (fun _ _ i _ => s.size + 1 - (intOf i).toNat)
  case atStart => exact ⟨0, [], [], by omega, rfl, rfl, OwnAt.start w, by simp, by simp, by omega, Lib.hid rfl⟩
  case round =>
    obtain ⟨k, C, p, hk, rfl, rfl, ho, hp, hC, hpe, HT⟩ := hrel
    have HO := Lib.hid ho; have HPe := Lib.hid hpe
    clear ho hpe
    by_cases hlt : k < s.size
    · have hq : decide ((k : Int) ≤ s.size) = true := by simp; omega
      have hq2 : decide ((k : Int) < s.size) = true := by simp; omega
      have hdr := drop_one s k hlt
      rw [HLs.out] at hdr
      by_cases hsp : s[k] = 32
      · have e1 : ((s[k].toNat : Int) != 32) = false := by rw [hsp]; rfl
        rw [hsp] at hdr
        have HD := Lib.hid hdr
        clear hsp hdr
        by_cases hp0 : p = []
        · subst hp0
          go_wp2_with fail
          go_roundw
          case rel => exact ⟨k + 1, C, [], by omega, by go_num, rfl, HO.out, by simp, by omega, fun _ => rfl, Lib.hid (by rw [HT.out, HD.out, toksA_sp0])⟩
          case measure => simp [intOf]; try omega
        · have f1 : (p == []) = false := by simpa using hp0
          have f2 : p.isEmpty = false := by simpa using hp0
          have f3 : (p != []) = true := by simpa using hp0
          have HP0 := Lib.hid hp0; clear hp0
          have hone : ∀ u ∈ (#[strV p] : Array Value).toList, u.oneCell' = true := by intro u hu; simp at hu; subst hu; rfl
          go_wp2_with (at_builtin; refine wpList_append_new rfl _ _ 28 rfl w.heap.size 9 1 16 (.string ⟨#[]⟩) Tryz.underlying28 infoS rfl (by decide) (by decide) _ _ _ rfl HO.out.1 #[strV p] 1 rfl rfl hone (by omega) HO.out.2.size ?_; intro v2 w8 ho8 hw8)
          go_roundw
          case rel => exact ⟨k + 1, C ++ [p], [], by omega, by go_num, rfl, ⟨by rw [List.length_append, flat_snoc]; exact ho8, hw8 _ HO.out.2⟩, by simp, by rw [List.length_append, List.length_singleton]; omega, fun _ => rfl, Lib.hid (by rw [HT.out, HD.out, toksA_sp _ _ HP0.out]; simp)⟩
          case measure => simp [intOf]; try omega
      · have e1 : ((s[k].toNat : Int) != 32) = true := by
          simp only [bne_iff_ne, ne_eq]; intro e; apply hsp; rw [← UInt8.toNat_inj]; simp; omega
        have hext := ext_one s k hlt
        have HD := Lib.hid hdr; have HSp := Lib.hid hsp
        clear hsp hdr
        go_wp2_with fail
        go_roundw
        case rel => exact ⟨k + 1, C, p ++ [s[k]], by omega, by go_num, rfl, HO.out, by simp; omega, by omega, fun h => by omega, Lib.hid (by rw [HT.out, HD.out, toksA_ch _ _ _ HSp.out])⟩
        case measure => simp [intOf]; omega
    · by_cases hke : k = s.size
      · subst hke
        have hq : decide ((s.size : Int) ≤ s.size) = true := by simp
        have hq2 : decide ((s.size : Int) < s.size) = false := by simp
        have hdr : l.drop s.size = [] := List.drop_eq_nil_of_le (by rw [HL.out]; exact Nat.le_refl _)
        have hdr2 : l.drop (s.size + 1) = [] := List.drop_eq_nil_of_le (by rw [HL.out]; omega)
        have HD := Lib.hid hdr; have HD2 := Lib.hid hdr2
        clear hdr hdr2
        by_cases hp0 : p = []
        · subst hp0
          go_wp2_with fail
          go_roundw
          case rel => exact ⟨s.size + 1, C, [], by omega, by go_num, rfl, HO.out, by simp, by omega, fun _ => rfl, Lib.hid (by rw [HT.out, HD.out, HD2.out])⟩
          case measure => simp [intOf]; try omega
        · have f1 : (p == []) = false := by simpa using hp0
          have f2 : p.isEmpty = false := by simpa using hp0
          have f3 : (p != []) = true := by simpa using hp0
          have HP0 := Lib.hid hp0; clear hp0
          have hone : ∀ u ∈ (#[strV p] : Array Value).toList, u.oneCell' = true := by intro u hu; simp at hu; subst hu; rfl
          go_wp2_with (at_builtin; refine wpList_append_new rfl _ _ 28 rfl w.heap.size 9 1 16 (.string ⟨#[]⟩) Tryz.underlying28 infoS rfl (by decide) (by decide) _ _ _ rfl HO.out.1 #[strV p] 1 rfl rfl hone (by omega) HO.out.2.size ?_; intro v2 w8 ho8 hw8)
          go_roundw
          case rel => exact ⟨s.size + 1, C ++ [p], [], by omega, by go_num, rfl, ⟨by rw [List.length_append, flat_snoc]; exact ho8, hw8 _ HO.out.2⟩, by simp, by rw [List.length_append, List.length_singleton]; omega, fun _ => rfl, Lib.hid (by rw [HT.out, HD.out, HD2.out, toksA_end _ HP0.out]; simp [toksA])⟩
          case measure => simp [intOf]; try omega
      · have hq : decide ((k : Int) ≤ s.size) = false := by simp; omega
        obtain rfl : k = s.size + 1 := by omega
        obtain rfl : p = [] := HPe.out rfl
        have hdr2 : l.drop (s.size + 1) = [] := List.drop_eq_nil_of_le (by rw [HL.out]; omega)
        have hT := HT.out
        rw [hdr2] at hT
        have hT' : toks l = C := by rw [hT]; simp [toksA]
        rw [← hT'] at HO
        clear hT hT' hdr2 hke
        go_wp2_with fail
        go_ret
        exact ⟨_, rfl, HO.out⟩
end Go.Proofs.YtdckkggmmakfiaaGreatDoor
end
section
/- Plain law: folding, byte after byte. -/
set_option linter.unusedSimpArgs false
set_option linter.unusedVariables false
set_option maxRecDepth 100000
namespace Go.Proofs.YtdckkggmmakfiaaGreatDoor
open Go.RowKit
/-- does a text end with a space -/
def endsSp : List UInt8 → Bool
  | [] => false
  | [c] => c == 32
  | _ :: d :: r => endsSp (d :: r)
theorem ends_cons (c : UInt8) {R : List UInt8} (h : R ≠ []) : endsSp (c :: R) = endsSp R := by
  cases R with
  | nil => exact absurd rfl h
  | cons d r => rfl
theorem ends_snoc (R : List UInt8) (c : UInt8) : endsSp (R ++ [c]) = (c == 32) := by
  induction R with
  | nil => rfl
  | cons d R ih => rw [List.cons_append, ends_cons _ (by simp), ih]
theorem ends_app (R : List UInt8) {x : List UInt8} (h : x ≠ []) (h2 : ∀ b ∈ x, b ≠ 32) : endsSp (R ++ x) = false := by
  obtain ⟨y, c, rfl⟩ : ∃ y c, x = y ++ [c] := ⟨_, _, (List.dropLast_concat_getLast h).symm⟩
  rw [← List.append_assoc, ends_snoc]
  simpa using h2 c (by simp)
theorem toksA_only (x : List UInt8) (h2 : ∀ b ∈ x, b ≠ 32) : ∀ p, p ++ x ≠ [] → toksA p x = [p ++ x] := by
  induction x with
  | nil => intro p h; rw [List.append_nil] at h; rw [toksA_end _ h, List.append_nil]
  | cons c x ih =>
    intro p _
    rw [toksA_ch _ _ _ (h2 c List.mem_cons_self), ih (fun b hb => h2 b (List.mem_cons_of_mem _ hb)) _ (by simp)]
    simp
theorem join_nil {T : List (List UInt8)} (h : ∀ t ∈ T, t ≠ []) (e : joinL T = []) : T = [] := by
  cases T with
  | nil => rfl
  | cons t T =>
    exfalso
    by_cases hT : T = []
    · subst hT; exact h t List.mem_cons_self (by simpa [joinL] using e)
    · rw [join_cons_ne _ _ hT] at e; simp at e
theorem spaces_end (R : List UInt8) : toksA [] R = [] → endsSp (32 :: R) = true := by
  induction R with
  | nil => intro _; rfl
  | cons c R ih =>
    intro h
    rw [ends_cons _ (by simp)]
    by_cases hc : c = 32
    · subst hc
      rw [toksA_sp0] at h
      exact ih h
    · exfalso
      rw [toksA_ch _ _ _ hc] at h
      have := (toksA_len R ([] ++ [c])).2
      have h3 : ∀ (R : List UInt8) p, p ≠ [] → toksA p R ≠ [] := by
        intro R
        induction R with
        | nil => intro p hp; rw [toksA_end _ hp]; simp
        | cons d R ih2 =>
          intro p hp
          by_cases hd : d = 32
          · subst hd; rw [toksA_sp _ _ hp]; simp
          · rw [toksA_ch _ _ _ hd]; exact ih2 _ (by simp)
      exact h3 R _ (by simp) h
theorem toksA_some (R : List UInt8) : ∀ p, p ≠ [] → toksA p R ≠ [] := by
  induction R with
  | nil => intro p hp; rw [toksA_end _ hp]; simp
  | cons d R ih2 =>
    intro p hp
    by_cases hd : d = 32
    · subst hd; rw [toksA_sp _ _ hp]; simp
    · rw [toksA_ch _ _ _ hd]; exact ih2 _ (by simp)
theorem toksA_more (R : List UInt8) {x : List UInt8} (h : x ≠ []) (h2 : ∀ b ∈ x, b ≠ 32) : ∀ p, toksA p (R ++ x) ≠ [] := by
  induction R with
  | nil => intro p; rw [List.nil_append, toksA_only x h2 p (by simp [h])]; simp
  | cons c R ih =>
    intro p
    rw [List.cons_append]
    by_cases hc : c = 32
    · subst hc
      by_cases hp : p = []
      · subst hp; rw [toksA_sp0]; exact ih []
      · rw [toksA_sp _ _ hp]; simp
    · rw [toksA_ch _ _ _ hc]; exact ih _
/-- a text goes on with bytes that are no spaces -/
theorem join_more {x : List UInt8} (h : x ≠ []) (h2 : ∀ b ∈ x, b ≠ 32) (R : List UInt8) : ∀ p, joinL (toksA p (R ++ x)) = joinL (toksA p R) ++ (if endsSp R = true ∧ joinL (toksA p R) ≠ [] then [32] else []) ++ x := by
  induction R with
  | nil =>
    intro p
    rw [List.nil_append, toksA_only x h2 p (by simp [h]), if_neg (by simp [endsSp])]
    by_cases hp : p = []
    · subst hp; simp [toksA, joinL]
    · rw [toksA_end _ hp]; simp [joinL]
  | cons c R ih =>
    intro p
    rw [List.cons_append]
    by_cases hc : c = 32
    · subst hc
      by_cases hp : p = []
      · subst hp
        rw [toksA_sp0, toksA_sp0, ih []]
        by_cases hR : R = []
        · subst hR; simp [endsSp, toksA, joinL]
        · rw [ends_cons _ hR]
      · rw [toksA_sp _ _ hp, toksA_sp _ _ hp, join_cons_ne _ _ (toksA_more R h h2 []), ih []]
        by_cases hT : toksA [] R = []
        · rw [hT]
          have he := spaces_end R hT
          rw [if_neg (by simp [joinL]), if_pos ⟨he, by simpa [joinL] using hp⟩]
          simp [joinL]
        · have hR : R ≠ [] := by intro e; subst e; exact hT rfl
          have hj : joinL (toksA [] R) ≠ [] := fun e => hT (join_nil (toksA_ne R []) e)
          rw [join_cons_ne _ _ hT, ends_cons _ hR]
          by_cases he : endsSp R = true
          · rw [if_pos ⟨he, hj⟩, if_pos ⟨he, by simp⟩]; simp
          · rw [if_neg (fun h => he h.1), if_neg (fun h => he h.1)]; simp
    · rw [toksA_ch _ _ _ hc, toksA_ch _ _ _ hc, ih]
      by_cases hR : R = []
      · subst hR
        rw [if_neg (by simp [endsSp]), if_neg (by simp [endsSp, hc])]
      · rw [ends_cons _ hR]
theorem fold_more {x : List UInt8} (h : x ≠ []) (h2 : ∀ b ∈ x, b ≠ 32) (R : List UInt8) : joinL (toks (R ++ x)) = joinL (toks R) ++ (if endsSp R = true ∧ joinL (toks R) ≠ [] then [32] else []) ++ x := join_more h h2 R []
theorem fold_space (R : List UInt8) : toks (R ++ [32]) = toks R := toksA_last R []
end Go.Proofs.YtdckkggmmakfiaaGreatDoor
end
section
/- The reference of layer 1 (text): Valid, the replacements, Fold. -/
set_option linter.unusedSimpArgs false
set_option linter.unusedVariables false
set_option maxRecDepth 100000
namespace Go.Proofs.YtdckkggmmakfiaaGreatDoor
open Go.RowKit
attribute [local go_sem] toList_mk mk_size bytes_append
theorem ok_not_pair (s : ByteArray) (k : Nat) (hk : k < s.size) (h : okByte s[k] = true) : pairAt (s.data.toList.drop k) = false := by
  by_cases h2 : k + 1 < s.size
  · rw [drop_two s k h2]; exact byte_pair h
  · rw [drop_last s k (by omega)]; rfl
theorem pair_facts2 (s : ByteArray) (k : Nat) (h2 : k + 1 < s.size) (h : pairAt (s.data.toList.drop k) = true) : s[k] = 195 ∧ 128 ≤ (s[k + 1].toNat : Int) ∧ (s[k + 1].toNat : Int) ≤ 191 := by
  rw [drop_two s k h2] at h
  have h' : isPair s[k] s[k + 1] = true := h
  rw [pair_iff, decide_eq_true_iff] at h'
  exact ⟨by rw [← UInt8.toNat_inj]; simp; omega, h'.2⟩
set_option maxHeartbeats 2000000 in
theorem rvalid_text (s : ByteArray) (w : World) (hs : s.size ≤ 9223372036854775000) :
    Calls Tryz.prog 125 #[.string s] w fun e w' => e = .returned (.bool (foldV s.data.toList)) ∧ w = w' := by
  have hl : s.data.toList.length = s.size := by simp
  have HL := Lib.hid hl; clear hl
  unfold foldV
  by_cases h64 : s.size ≤ 64
  · have d1 : decide ((64 : Int) < s.size) = false := by simp; omega
    go_enter Tryz.func125, Tryz.ntmps125
    go_wp2_with fail
    clear d1
    go_loop [3] (fun i => ∃ k : Nat, k ≤ s.size ∧ i = .int .i64 k ∧ Hid (validL s.data.toList = validL (s.data.toList.drop k))) (fun i => s.size - (intOf i).toNat)
    case atStart => exact ⟨0, by omega, rfl, Lib.hid rfl⟩
    case round =>
      obtain ⟨k, hk, rfl, HV⟩ := hrel
      by_cases hlt : k < s.size
      · have hq : decide ((k : Int) < s.size) = true := by simp; omega
        have hb := s[k].toNat_lt
        cases hok : okByte s[k]
        · cases hp : pairAt (s.data.toList.drop k)
          · have hv := Lib.hid (valid_one s k hlt hp)
            have HOk := Lib.hid hok
            rw [ok_iff, decide_eq_false_iff_not] at hok
            have hc : (s[k].toNat : Int) < 32 ∨ (32 ≤ (s[k].toNat : Int) ∧ 126 < (s[k].toNat : Int)) := by omega
            clear hok
            have hfalse : validL s.data.toList = false := by rw [HV.out, hv.out, HOk.out]; rfl
            have HF := Lib.hid hfalse
            clear hfalse
            by_cases h195 : s[k] = 195
            · have e1 : ((s[k].toNat : Int) != 195) = false := by rw [h195]; rfl
              by_cases h2 : k + 1 < s.size
              · have e2 : ((k : Int) + 1 == (s.size : Int)) = false := by simp only [beq_eq_false_iff_ne, ne_eq]; omega
                rw [drop_two s k h2] at hp
                have hp' : isPair s[k] s[k + 1] = false := hp
                rw [pair_iff, decide_eq_false_iff_not] at hp'
                have h195' : (s[k].toNat : Int) = 195 := by rw [h195]; rfl
                have hc2 : (s[k + 1].toNat : Int) < 128 ∨ (128 ≤ (s[k + 1].toNat : Int) ∧ 191 < (s[k + 1].toNat : Int)) := by omega
                clear hp hp' h195 h195'
                rcases hc with g1 | ⟨g1, g2⟩ <;> rcases hc2 with g3 | ⟨g3, g4⟩
                all_goals
                  go_wp2_with fail
                  go_ret
                  exact ⟨ret_bool (by rw [HF.out]; try rfl), rfl⟩
              · have e2 : ((k : Int) + 1 == (s.size : Int)) = true := by simp only [beq_iff_eq]; omega
                clear hp h195
                rcases hc with g1 | ⟨g1, g2⟩
                all_goals
                  go_wp2_with fail
                  go_ret
                  exact ⟨ret_bool (by rw [HF.out]; try rfl), rfl⟩
            · have e1 : ((s[k].toNat : Int) != 195) = true := by
                simp only [bne_iff_ne, ne_eq]; intro e; apply h195; rw [← UInt8.toNat_inj]; simp; omega
              clear hp h195
              rcases hc with g1 | ⟨g1, g2⟩
              all_goals
                go_wp2_with fail
                go_ret
                exact ⟨ret_bool (by rw [HF.out]; try rfl), rfl⟩
          · have h2 := pairAt_lt s k hlt hp
            have hv := Lib.hid (valid_two s k hlt hp)
            obtain ⟨g0, g3, g4⟩ := pair_facts2 s k h2 hp
            have e1 : ((s[k].toNat : Int) != 195) = false := by rw [g0]; rfl
            have e2 : ((k : Int) + 1 == (s.size : Int)) = false := by simp only [beq_eq_false_iff_ne, ne_eq]; omega
            have g1 : 32 ≤ (s[k].toNat : Int) := by rw [g0]; decide
            have g2 : 126 < (s[k].toNat : Int) := by rw [g0]; decide
            clear hok hp g0
            go_wp2_with fail
            go_round
            case rel => exact ⟨k + 2, by omega, by go_num, Lib.hid (HV.out.trans hv.out)⟩
            case measure => simp [intOf]; omega
        · have hp := ok_not_pair s k hlt hok
          have hv := Lib.hid (valid_one s k hlt hp)
          have HOk := Lib.hid hok
          rw [ok_iff, decide_eq_true_iff] at hok
          obtain ⟨g1, g2⟩ := hok
          clear hp
          go_wp2_with fail
          go_round
          case rel => exact ⟨k + 1, by omega, by go_num, Lib.hid (HV.out.trans (by rw [hv.out, HOk.out]; rfl))⟩
          case measure => simp [intOf]; omega
      · have hq : decide ((k : Int) < s.size) = false := by simp; omega
        have hd : s.data.toList.drop k = [] := List.drop_eq_nil_of_le (by rw [HL.out]; omega)
        have HD := Lib.hid hd; clear hd
        go_wp2_with fail
        go_ret
        refine ⟨ret_bool ?_, rfl⟩
        rw [HV.out, HD.out]
        first | rfl | (rw [HL.out, decide_eq_true (by omega)]; rfl)
  · have d1 : decide ((64 : Int) < s.size) = true := by simp; omega
    go_enter Tryz.func125, Tryz.ntmps125
    go_wp2_with fail
    go_ret
    exact ⟨ret_bool (by rw [HL.out, decide_eq_false (by omega)]; simp), rfl⟩
end Go.Proofs.YtdckkggmmakfiaaGreatDoor
end
section
/- The reference of layer 1 (text): the replacements, Fold. -/
set_option linter.unusedSimpArgs false
set_option linter.unusedVariables false
set_option maxRecDepth 100000
namespace Go.Proofs.YtdckkggmmakfiaaGreatDoor
open Go.RowKit
attribute [local go_sem] toList_mk mk_size bytes_append
def tabR : List UInt8 := [97, 97, 97, 97, 97, 97, 63, 63, 101, 101, 101, 101, 105, 105, 105, 105, 100, 110, 111, 111, 111, 111, 111, 63, 111, 117, 117, 117, 117, 121, 63, 63]
def replR (n : Nat) : List UInt8 := if n % 32 = 6 then [97, 101] else if n % 32 = 7 then [99] else if n % 32 = 23 then [] else if n % 32 = 30 then [116, 104] else if n = 31 then [115, 115] else if n = 63 then [121] else [tabR.getD (n % 32) 0]
theorem replB_is : ∀ n : Fin 64, replB (UInt8.ofNat (128 + n)) = replR n := by decide
theorem and_31 : ((List.range 64).all fun n => bits .and .u8 ((128 + n : Nat) : Int) 31 == ((n % 32 : Nat) : Int)) = true := by kernel_rfl
theorem tab_ext (r : Nat) (h : r < 32) : (⟨#[97, 97, 97, 97, 97, 97, 63, 63, 101, 101, 101, 101, 105, 105, 105, 105, 100, 110, 111, 111, 111, 111, 111, 63, 111, 117, 117, 117, 117, 121, 63, 63]⟩ : ByteArray).extract r (r + 1) = ⟨[tabR.getD r 0].toArray⟩ := by
  have h' : r < (⟨tabR.toArray⟩ : ByteArray).size := h
  have := ext_one ⟨tabR.toArray⟩ r h'
  refine this.trans ?_
  congr 3
  rw [List.getD, List.getElem?_eq_getElem (show r < tabR.length from h)]; rfl
set_option maxHeartbeats 2000000 in
theorem rrepl_any (x : UInt8) (w : World) (h1 : 128 ≤ (x.toNat : Int)) (h2 : (x.toNat : Int) ≤ 191) :
    Calls Tryz.prog 126 #[.int .u8 x.toNat] w fun e w' => e = .returned (strV (replB x)) ∧ w = w' := by
  obtain ⟨n, hn⟩ : ∃ n : Nat, x.toNat = 128 + n := ⟨x.toNat - 128, by omega⟩
  have hn64 : n < 64 := by omega
  have hx : x = UInt8.ofNat (128 + n) := by rw [← hn]; simp
  have hR : replB x = replR n := by rw [hx]; exact replB_is ⟨n, hn64⟩
  have hand : bits .and .u8 (x.toNat : Int) 31 = ((n % 32 : Nat) : Int) := by
    have := List.all_eq_true.1 and_31 n (List.mem_range.2 hn64)
    rw [hn]; simpa using this
  obtain ⟨r, hr⟩ : ∃ r, n % 32 = r := ⟨_, rfl⟩
  have hr32 : r < 32 := by omega
  have hRr : replR n = if r = 6 then [97, 101] else if r = 7 then [99] else if r = 23 then [] else if r = 30 then [116, 104] else if n = 31 then [115, 115] else if n = 63 then [121] else [tabR.getD r 0] := by unfold replR; rw [hr]
  rw [hR, hRr]
  rw [hr] at hand
  have hn1 : (x.toNat : Int) = 128 + (n : Int) := by omega
  have hb := x.toNat_lt
  have HR := Lib.hid hr; have HN := Lib.hid hn1
  clear hx hR hRr hr hn hn1
  by_cases c6 : r = 6
  · subst c6
    go_enter Tryz.func126, Tryz.ntmps126
    go_wp2_with fail
    go_ret
    exact ⟨rfl, rfl⟩
  · have e6 : ((r : Int) == 6) = false := by simp only [beq_eq_false_iff_ne, ne_eq]; omega
    rw [if_neg c6]
    by_cases c7 : r = 7
    · subst c7
      clear c6
      go_enter Tryz.func126, Tryz.ntmps126
      go_wp2_with fail
      go_ret
      exact ⟨rfl, rfl⟩
    · have e7 : ((r : Int) == 7) = false := by simp only [beq_eq_false_iff_ne, ne_eq]; omega
      rw [if_neg c7]
      by_cases c23 : r = 23
      · subst c23
        clear c6 c7
        go_enter Tryz.func126, Tryz.ntmps126
        go_wp2_with fail
        go_ret
        exact ⟨rfl, rfl⟩
      · have e23 : ((r : Int) == 23) = false := by simp only [beq_eq_false_iff_ne, ne_eq]; omega
        rw [if_neg c23]
        by_cases c30 : r = 30
        · subst c30
          clear c6 c7 c23
          go_enter Tryz.func126, Tryz.ntmps126
          go_wp2_with fail
          go_ret
          exact ⟨rfl, rfl⟩
        · have e30 : ((r : Int) == 30) = false := by simp only [beq_eq_false_iff_ne, ne_eq]; omega
          rw [if_neg c30]
          by_cases n31 : n = 31
          · have e31 : ((x.toNat : Int) == 159) = true := by simp only [beq_iff_eq]; rw [HN.out]; omega
            rw [if_pos n31]
            clear c6 c7 c23 c30 n31
            go_enter Tryz.func126, Tryz.ntmps126
            go_wp2_with fail
            go_ret
            exact ⟨rfl, rfl⟩
          · have e31 : ((x.toNat : Int) == 159) = false := by simp only [beq_eq_false_iff_ne, ne_eq]; rw [HN.out]; omega
            rw [if_neg n31]
            by_cases n63 : n = 63
            · have e63 : ((x.toNat : Int) == 191) = true := by simp only [beq_iff_eq]; rw [HN.out]; omega
              rw [if_pos n63]
              clear c6 c7 c23 c30 n31 n63
              go_enter Tryz.func126, Tryz.ntmps126
              go_wp2_with fail
              go_ret
              exact ⟨rfl, rfl⟩
            · have e63 : ((x.toNat : Int) == 191) = false := by simp only [beq_eq_false_iff_ne, ne_eq]; rw [HN.out]; omega
              rw [if_neg n63]
              have hext := tab_ext r hr32
              clear c6 c7 c23 c30 n31 n63
              go_enter Tryz.func126, Tryz.ntmps126
              go_wp2_with fail
              go_ret
              exact ⟨rfl, rfl⟩
end Go.Proofs.YtdckkggmmakfiaaGreatDoor
end
section
/- The reference of layer 1 (text): Fold. -/
set_option linter.unusedSimpArgs false
set_option linter.unusedVariables false
set_option maxRecDepth 100000
namespace Go.Proofs.YtdckkggmmakfiaaGreatDoor
open Go.RowKit
attribute [local go_sem] toList_mk mk_size bytes_append
/-- what one step of Fold does at place k: place k', what is added, what the raw text has there, is a separator due -/
structure FoldSt (s : ByteArray) (k : Nat) (b : Bool) (k' : Nat) (b' : Bool) (x y : List UInt8) : Prop where
  raw : rawL (s.data.toList.drop k) = y ++ rawL (s.data.toList.drop (k' + 1))
  val : validL (s.data.toList.drop (k' + 1)) = true
  lo : k ≤ k'
  hi : k' < s.size
  len : x.length ≤ 2
  way : (x = y ∧ b' = b ∧ ∀ c ∈ x, c ≠ 32) ∨ (x = [] ∧ y = [32] ∧ b' = true)
theorem replB_sp : ∀ n : Fin 64, ((replB (UInt8.ofNat (128 + n))).all fun c => c != 32) = true := by decide
theorem FoldSt.pair {s : ByteArray} {k : Nat} {b : Bool} (h2 : k + 1 < s.size) (hp : pairAt (s.data.toList.drop k) = true) (hv : validL (s.data.toList.drop k) = true) : FoldSt s k b (k + 1) b (replB s[k + 1]) (replB s[k + 1]) := by
  obtain ⟨_, g1, g2⟩ := pair_facts2 s k h2 hp
  refine ⟨raw_two s k h2 hp, by rw [← valid_two s k (by omega) hp]; exact hv, by omega, h2, (replB_ok _).2, .inl ⟨rfl, rfl, fun c hc => ?_⟩⟩
  obtain ⟨n, hn⟩ : ∃ n : Nat, s[k + 1].toNat = 128 + n := ⟨s[k + 1].toNat - 128, by omega⟩
  have hx : s[k + 1] = UInt8.ofNat (128 + n) := by rw [← hn]; simp
  have := replB_sp ⟨n, by omega⟩
  rw [hx] at hc
  simpa using List.all_eq_true.1 this c hc
theorem FoldSt.one {s : ByteArray} {k : Nat} {b : Bool} (hk : k < s.size) (hp : pairAt (s.data.toList.drop k) = false) (hv : validL (s.data.toList.drop k) = true) {x : List UInt8} (hx : plainB s[k] = x) (h32 : ∀ c ∈ x, c ≠ 32) : FoldSt s k b k b x x := by
  have h1 := valid_one s k hk hp
  rw [h1, Bool.and_eq_true] at hv
  exact ⟨by rw [raw_one s k hk hp, hx], hv.2, Nat.le_refl _, hk, by rw [← hx]; have := (plainB_ok s[k]).2; omega, .inl ⟨rfl, rfl, h32⟩⟩
theorem FoldSt.sep {s : ByteArray} {k : Nat} {b : Bool} (hk : k < s.size) (hp : pairAt (s.data.toList.drop k) = false) (hv : validL (s.data.toList.drop k) = true) (hx : plainB s[k] = [32]) : FoldSt s k b k true [] [32] := by
  have h1 := valid_one s k hk hp
  rw [h1, Bool.and_eq_true] at hv
  exact ⟨by rw [raw_one s k hk hp, hx], hv.2, Nat.le_refl _, hk, by simp, .inr ⟨rfl, rfl, rfl⟩⟩
theorem plain_no32 {c : UInt8} (h : isUp c = true ∨ isLow c = true ∨ isDgt c = true) : ∀ d ∈ plainB c, d ≠ 32 := by
  intro d hd
  unfold plainB at hd
  split at hd
  · rename_i hu
    simp at hd; subst hd
    rw [up_iff, decide_eq_true_iff] at hu
    intro e
    have : (c + 32).toNat = 32 := by rw [e]; rfl
    rw [UInt8.toNat_add] at this
    simp at this; omega
  · split at hd
    · rename_i h1 h2
      simp at hd; subst hd
      simp only [Bool.or_eq_true] at h2
      intro e; subst e
      rcases h2 with h2 | h2
      · rw [low_iff] at h2; simp at h2
      · rw [dig_iff] at h2; simp at h2
    · rename_i h1 h2
      exfalso
      rcases h with h | h | h
      · exact h1 h
      · exact h2 (by simp [h])
      · exact h2 (by simp [h])
/-- what the loop of Fold holds -/
structure FoldIn (s : ByteArray) (w : World) (k : Nat) (R : List UInt8) (b : Bool) (wr : World) : Prop where
  raw : R ++ rawL (s.data.toList.drop k) = rawL s.data.toList
  sep : b = endsSp R
  val : validL (s.data.toList.drop k) = true
  bel : Below w.heap.size w wr
theorem FoldIn.len {s : ByteArray} {w : World} {k : Nat} {R : List UInt8} {b : Bool} {wr : World} (h : FoldIn s w k R b wr) (hs : s.size ≤ 64) : (joinL (toks R)).length ≤ 64 := by
  have h1 := congrArg List.length h.raw
  have h2 := (raw_ok s.data.toList).2
  have h3 := (toksA_len R []).1
  have hl : s.data.toList.length = s.size := by simp
  unfold toks
  simp at h1 h3; omega
set_option maxHeartbeats 8000000 in
theorem rfold_yes (s : ByteArray) (w : World) (hv : foldV s.data.toList = true) :
    Calls Tryz.prog 99 #[.string s] w fun e w' => e = .returned (.tuple #[strV (foldL s.data.toList), .int .i64 0]) ∧ Below w.heap.size w w' := by
  have hl : s.data.toList.length = s.size := by simp
  have hv' := hv
  unfold foldV at hv'
  rw [Bool.and_eq_true, decide_eq_true_iff, hl] at hv'
  obtain ⟨hval, hs⟩ := hv'
  have HL := Lib.hid hl; have HV := Lib.hid hv
  have K0 := Lib.hid (show FoldIn s w 0 [] false w from ⟨rfl, rfl, hval, Below.refl _ _⟩)
  clear hl hv hval
  go_enter Tryz.func99, Tryz.ntmps99
  go_wp2_with fail
  refine (rvalid_text s _ (by omega)).mono ?_
  rw [HV.out]
  rintro e w' ⟨rfl, rfl⟩
  go_wp2_with fail
  go_loopw [4, 5, 6] (fun o t i wr => ∃ (k : Nat) (R : List UInt8) (b : Bool), k ≤ s.size ∧ o = strV (joinL (toks R)) ∧ t = .bool b ∧ i = .int .i64 k ∧ FoldIn s w k R b wr) (fun _ _ i _ => s.size - (intOf i).toNat)
  case atStart => exact ⟨0, [], false, by omega, rfl, rfl, rfl, K0.out⟩
  case round =>
    obtain ⟨k, R, b, hk, rfl, rfl, rfl, hin⟩ := hrel
    have hO := hin.len hs
    have HI := Lib.hid hin
    clear hin K0
    obtain ⟨O, hOe⟩ : ∃ O, joinL (toks R) = O := ⟨_, rfl⟩
    have HOe := Lib.hid hOe
    rw [hOe] at hO ⊢
    clear hOe
    by_cases hlt : k < s.size
    · have hq : decide ((k : Int) < s.size) = true := by simp; omega
      have hb := s[k].toNat_lt
      go_upto_block 2 with (fail)
      go_cut [5, 6, 8] (fun s5 s6 s8 wx => ∃ (k' : Nat) (b' : Bool) (x y : List UInt8), s5 = .bool b' ∧ s6 = .int .i64 k' ∧ s8 = strV x ∧ FoldSt s k b k' b' x y ∧ Below w.heap.size w wx)
      case first =>
        cases hp : pairAt (s.data.toList.drop k)
        · have hval := HI.out.val
          have hval2 := hval
          rw [valid_one s k hlt hp, Bool.and_eq_true] at hval2
          have hok := hval2.1
          rw [ok_iff, decide_eq_true_iff] at hok
          have e195 : ((s[k].toNat : Int) == 195) = false := by simp only [beq_eq_false_iff_ne, ne_eq]; omega
          have HP := Lib.hid hp; have HVl := Lib.hid hval
          clear hp hval hval2
          cases hu : isUp s[k]
          · have hu' := hu
            rw [up_iff, decide_eq_false_iff_not] at hu'
            have hcu : (65 ≤ (s[k].toNat : Int) ∧ 90 < (s[k].toNat : Int)) ∨ (s[k].toNat : Int) < 65 := by omega
            cases hlo : isLow s[k]
            · have hlo' := hlo
              rw [low_iff, decide_eq_false_iff_not] at hlo'
              have hcl : (97 ≤ (s[k].toNat : Int) ∧ 122 < (s[k].toNat : Int)) ∨ (s[k].toNat : Int) < 97 := by omega
              cases hdi : isDgt s[k]
              · have hdi' := hdi
                rw [dig_iff, decide_eq_false_iff_not] at hdi'
                have hcd : (48 ≤ (s[k].toNat : Int) ∧ 57 < (s[k].toNat : Int)) ∨ (s[k].toNat : Int) < 48 := by omega
                cases ha : ((s[k].toNat : Int) == 39)
                · have this : (s[k] == 39) = false := by simp at ha ⊢; intro h; rw [h] at ha; simp at ha
                  have hpl : plainB s[k] = [32] := by simp [plainB, hu, hlo, hdi, this]
                  have ha2 : ((s[k].toNat : Int) != 39) = true := by simpa using ha
                  have HS := Lib.hid (FoldSt.sep (b := b) hlt HP.out HVl.out hpl)
                  clear hu hu' hlo hlo' hdi hdi' this hpl hok
                  rcases hcu with ⟨g1, g2⟩ | g1 <;> rcases hcl with ⟨g3, g4⟩ | g3 <;> rcases hcd with ⟨g5, g6⟩ | g5
                  all_goals first
                    | (exfalso; omega)
                    | (go_wp2_with fail; go_meet; exact ⟨k, true, [], [32], rfl, rfl, rfl, HS.out, HI.out.bel⟩)
                · have this : (s[k] == 39) = true := by simp [← UInt8.toNat_inj] at ha ⊢; omega
                  have hpl : plainB s[k] = [] := by simp [plainB, hu, hlo, hdi, this]
                  have ha2 : ((s[k].toNat : Int) != 39) = false := by simpa using ha
                  have HS := Lib.hid (FoldSt.one (b := b) hlt HP.out HVl.out hpl (by simp))
                  clear hu hu' hlo hlo' hdi hdi' this hpl hok
                  rcases hcu with ⟨g1, g2⟩ | g1 <;> rcases hcl with ⟨g3, g4⟩ | g3 <;> rcases hcd with ⟨g5, g6⟩ | g5
                  all_goals first
                    | (exfalso; simp at ha; omega)
                    | (go_wp2_with fail; go_meet; exact ⟨k, b, [], [], rfl, rfl, rfl, HS.out, HI.out.bel⟩)
              · have hdi' := hdi
                rw [dig_iff, decide_eq_true_iff] at hdi'
                obtain ⟨g5, g6⟩ := hdi'
                have hpl : plainB s[k] = [s[k]] := by simp [plainB, hu, hlo, hdi]
                have HS := Lib.hid (FoldSt.one (b := b) hlt HP.out HVl.out hpl (by rw [← hpl]; exact plain_no32 (.inr (.inr hdi))))
                have hcv := one_byte wr s[k]
                have g1 : (s[k].toNat : Int) < 65 := by omega
                have g3 : (s[k].toNat : Int) < 97 := by omega
                clear hu hu' hlo hlo' hdi hpl hok hcu hcl
                go_wp2_with fail
                go_meet
                exact ⟨k, b, [s[k]], [s[k]], rfl, rfl, rfl, HS.out, HI.out.bel.alloc HI.out.bel.size _⟩
            · have hlo' := hlo
              rw [low_iff, decide_eq_true_iff] at hlo'
              obtain ⟨g3, g4⟩ := hlo'
              have hpl : plainB s[k] = [s[k]] := by simp [plainB, hu, hlo]
              have HS := Lib.hid (FoldSt.one (b := b) hlt HP.out HVl.out hpl (by rw [← hpl]; exact plain_no32 (.inr (.inl hlo))))
              have hcv := one_byte wr s[k]
              have g1 : 65 ≤ (s[k].toNat : Int) := by omega
              have g2 : 90 < (s[k].toNat : Int) := by omega
              clear hu hu' hlo hpl hok hcu
              go_wp2_with fail
              go_meet
              exact ⟨k, b, [s[k]], [s[k]], rfl, rfl, rfl, HS.out, HI.out.bel.alloc HI.out.bel.size _⟩
          · have hu' := hu
            rw [up_iff, decide_eq_true_iff] at hu'
            obtain ⟨g1, g2⟩ := hu'
            have hpl : plainB s[k] = [s[k] + 32] := by simp [plainB, hu]
            have HS := Lib.hid (FoldSt.one (b := b) hlt HP.out HVl.out hpl (by rw [← hpl]; exact plain_no32 (.inl hu)))
            have hcv := one_byte wr (s[k] + 32)
            have e2 : ((s[k] + 32).toNat : Int) = (s[k].toNat : Int) + 32 := by rw [UInt8.toNat_add]; simp; omega
            rw [e2] at hcv
            clear hu hpl hok e2
            go_wp2_with fail
            go_meet
            exact ⟨k, b, [s[k] + 32], [s[k] + 32], rfl, rfl, rfl, HS.out, HI.out.bel.alloc HI.out.bel.size _⟩
        · have h2 := pairAt_lt s k hlt hp
          obtain ⟨g0, g1, g2⟩ := pair_facts2 s k h2 hp
          have HS := Lib.hid (FoldSt.pair (b := b) h2 hp HI.out.val)
          have e195 : ((s[k].toNat : Int) == 195) = true := by rw [g0]; rfl
          clear hp g0
          go_wp2_with fail
          refine (rrepl_any s[k + 1] _ g1 g2).mono ?_
          rintro e w' ⟨rfl, rfl⟩
          go_wp2_with fail
          go_meet
          exact ⟨k + 1, b, replB s[k + 1], replB s[k + 1], rfl, by go_num, rfl, HS.out, HI.out.bel⟩
      case rest =>
        obtain ⟨k', b', x, y, rfl, rfl, rfl, hst, hbl⟩ := hcut
        have HS := Lib.hid hst; have HB := Lib.hid hbl
        have hk1 := hst.lo
        have hk2 := hst.hi
        have hxl := hst.len
        clear hst hbl
        by_cases hx : x = []
        · subst hx
          have KN : ∃ R', FoldIn s w (k' + 1) R' b' wc ∧ joinL (toks R') = O := by
            have hi := HI.out
            have hst := HS.out
            rcases hst.way with ⟨h1, h2, _⟩ | ⟨_, h1, h2⟩
            · subst h1; subst h2
              exact ⟨R, ⟨by have := hst.raw; simp only [List.nil_append] at this; rw [← this]; exact hi.raw, hi.sep, hst.val, HB.out⟩, HOe.out⟩
            · subst h1; subst h2
              exact ⟨R ++ [32], ⟨by rw [List.append_assoc, ← hst.raw]; exact hi.raw, (ends_snoc R 32).symm, hst.val, HB.out⟩, by rw [fold_space, HOe.out]⟩
          obtain ⟨R', hR1, hR2⟩ := KN
          have HR1 := Lib.hid hR1; have HR2 := Lib.hid hR2
          clear hR1 hR2
          go_wp2_with fail
          go_roundw
          case rel => exact ⟨k' + 1, R', b', by omega, by rw [HR2.out], rfl, by go_num, HR1.out⟩
          case measure => simp [intOf]; omega
        · have f1 : (x == []) = false := by simpa using hx
          have f2 : x.isEmpty = false := by simpa using hx
          have hst := HS.out
          obtain ⟨h1, h2, h3⟩ := hst.way.resolve_right (fun h => hx h.1)
          subst h1 h2
          have hmore := fold_more hx h3 R
          have hends := ends_app R hx h3
          have KN := Lib.hid (show FoldIn s w (k' + 1) (R ++ x) false wc from ⟨by rw [List.append_assoc, ← hst.raw]; exact HI.out.raw, hends.symm, hst.val, HB.out⟩)
          rw [← HI.out.sep, HOe.out] at hmore
          have HMore := Lib.hid hmore
          clear hst hmore hends h3 hx
          cases b'
          · go_wp2_with fail
            go_roundw
            case rel => exact ⟨k' + 1, R ++ x, false, by omega, by rw [HMore.out]; simp, rfl, by go_num, KN.out⟩
            case measure => simp [intOf]; omega
          · by_cases hO0 : O = []
            · have f3 : (O == []) = true := by rw [hO0]; rfl
              have f4 : (O != []) = false := by rw [hO0]; rfl
              have HO0 := Lib.hid hO0
              clear hO0
              go_wp2_with fail
              go_roundw
              case rel => exact ⟨k' + 1, R ++ x, false, by omega, by rw [HMore.out, HO0.out]; simp, rfl, by go_num, KN.out⟩
              case measure => simp [intOf]; omega
            · have f3 : (O == []) = false := by simpa using hO0
              have f4 : (O != []) = true := by simpa using hO0
              have f5 : O.isEmpty = false := by simpa using hO0
              have HO0 := Lib.hid hO0
              clear hO0
              go_wp2_with fail
              go_roundw
              case rel => exact ⟨k' + 1, R ++ x, false, by omega, by rw [HMore.out, if_pos ⟨rfl, HO0.out⟩]; simp, rfl, by go_num, KN.out⟩
              case measure => simp [intOf]; omega
    · have hq : decide ((k : Int) < s.size) = false := by simp; omega
      have hfin : foldL s.data.toList = O := by
        have hi := HI.out
        have hd : s.data.toList.drop k = [] := List.drop_eq_nil_of_le (by rw [HL.out]; omega)
        have hr := hi.raw
        rw [hd, show rawL [] = [] from rfl, List.append_nil] at hr
        unfold foldL
        rw [← hr]; exact HOe.out
      have HF := Lib.hid hfin
      clear hfin
      go_wp2_with fail
      go_ret2
      exact ⟨by show Ending.returned (.tuple #[strV O, .int .i64 0]) = _; rw [HF.out], HI.out.bel⟩
set_option maxHeartbeats 400000 in
theorem rfold_no (s : ByteArray) (w : World) (hs : s.size ≤ 9223372036854775000) (hv : foldV s.data.toList = false) :
    Calls Tryz.prog 99 #[.string s] w fun e w' => e = .returned (.tuple #[strV [], .int .i64 3]) ∧ Below w.heap.size w w' := by
  have HV := Lib.hid hv; clear hv
  go_enter Tryz.func99, Tryz.ntmps99
  go_wp2_with fail
  refine (rvalid_text s _ hs).mono ?_; rw [HV.out]; rintro e w' ⟨rfl, rfl⟩
  go_wp2_with fail
  go_ret2
  exact ⟨rfl, Below.refl _ _⟩
theorem rfold_any (s : ByteArray) (w : World) (hs : s.size ≤ 9223372036854775000) :
    Calls Tryz.prog 99 #[.string s] w fun e w' => e = .returned (foldRes s.data.toList) ∧ Below w.heap.size w w' := by
  unfold foldRes
  cases hv : foldV s.data.toList with
  | false => exact rfold_no s w hs hv
  | true => exact rfold_yes s w hv
end Go.Proofs.YtdckkggmmakfiaaGreatDoor
end
section
/- The reference of layer 2 (name): token, ascending, has, Replace, Canonical, Dropped. -/
set_option linter.unusedSimpArgs false
set_option linter.unusedVariables false
set_option maxRecDepth 100000
namespace Go.Proofs.YtdckkggmmakfiaaGreatDoor
open Go.RowKit
attribute [local go_sem] toList_mk mk_size bytes_append
set_option maxHeartbeats 400000 in
theorem rtoken_any (l : List UInt8) (w : World) :
    Calls Tryz.prog 95 #[strV l] w fun e w' => e = .returned (.bool (tokenB l)) ∧ w = w' := by
  unfold tokenB
  by_cases h0 : l = []
  · subst h0
    go_enter Tryz.func95, Tryz.ntmps95
    go_wp2
    go_ret
    exact ⟨rfl, rfl⟩
  · have h1 : l.isEmpty = false := by simpa using h0
    have h2 : (l == []) = false := by simpa using h0
    have h2' : (l != []) = true := by simpa using h0
    rw [h1]
    by_cases h3 : l.length ≤ 64
    · have h4 : decide (l.length ≤ 64) = true := by simpa using h3
      have h5 : decide ((l.length : Int) ≤ 64) = true := by simp; omega
      rw [h4]
      clear h0 h4
      go_enter Tryz.func95, Tryz.ntmps95
      go_wp2_with fail
      refine (rletters_any ⟨l.toArray⟩ _ (by rw [mk_size]; omega)).mono ?_
      rw [show (⟨l.toArray⟩ : ByteArray).data.toList = l by simp]
      rintro e w1 ⟨rfl, rfl⟩
      go_wp2_with fail
      go_ret
      exact ⟨rfl, rfl⟩
    · have h4 : decide (l.length ≤ 64) = false := by simpa using h3
      have h5 : decide ((l.length : Int) ≤ 64) = false := by simp; omega
      rw [h4]
      clear h0 h4
      go_enter Tryz.func95, Tryz.ntmps95
      go_wp2_with fail
      go_ret
      exact ⟨rfl, rfl⟩
/-- each entry is greater than the one before -/
def ascAt (L : List (List UInt8)) (j : Nat) : Bool := decide (j = 0) || ltB (L.getD (j - 1) []) (L.getD j [])
def ascL (L : List (List UInt8)) : Bool := (List.range L.length).all (ascAt L)
theorem leq_less (x y : List UInt8) : (Op.bytesLess x y || x == y) = !Op.bytesLess y x := by
  rw [bytesLess_eq, bytesLess_eq, Bool.eq_iff_iff]
  simp only [Bool.or_eq_true, decide_eq_true_eq, beq_iff_eq, Bool.not_eq_true', decide_eq_false_iff_not]
  exact List.le_iff_lt_or_eq.symm
set_option maxHeartbeats 1000000 in
theorem rasc_any (S : Nat → Prop) (v : Value) (L : List (List UInt8)) (w : World) (h : Vec w S 1 encS v L) (hn : L.length ≤ 1000000) :
    Calls Tryz.prog 96 #[v] w fun e w' => e = .returned (.bool (ascL L)) ∧ Below w.heap.size w w' := by
  obtain ⟨a, cap, rfl⟩ := h.slice
  have HV := Lib.hid h; clear h
  go_enter Tryz.func96, Tryz.ntmps96
  go_wp2_with fail
  go_loopw [3] (fun i wr => ∃ m : Nat, i = .int .i64 (m + 1) ∧ m ≤ L.length ∧ Below w.heap.size w wr ∧ Hid (∀ j, j < m + 1 → j < L.length → ascAt L j = true)) (fun i _ => L.length + 1 - (intOf i).toNat)
  case atStart => exact ⟨0, rfl, by omega, Below.refl _ _, Lib.hid fun j hj _ => by (obtain rfl : j = 0 := by omega); rfl⟩
  case round =>
    obtain ⟨m, rfl, hm, hbw, HA⟩ := hrel
    have HW := Lib.hid hbw
    by_cases hlt : m + 1 < L.length
    · have hq : decide ((m : Int) + 1 < L.length) = true := by simp; omega
      obtain ⟨b, off, rfl, _, hb, hc⟩ := vec_cell1 HV.out (by omega)
      have c1 := (hbw.cell (p := ⟨b, off + (m + 1), none⟩) hb).trans (hc (m + 1) hlt)
      have c2 := (hbw.cell (p := ⟨b, off + m, none⟩) hb).trans (hc m (by omega))
      have hat : ascAt L (m + 1) = Op.bytesLess (L.getD m []) (L.getD (m + 1) []) := by simp [ascAt, ltB]
      obtain ⟨x, hx⟩ : ∃ x, L.getD (m + 1) [] = x := ⟨_, rfl⟩
      obtain ⟨y, hy⟩ : ∃ y, L.getD m [] = y := ⟨_, rfl⟩
      rw [hx] at c1 hat
      rw [hy] at c2 hat
      have hi1 : (m : Int) + 1 < (L.length : Int) := by omega
      have hi2 : (m : Int) < (L.length : Int) := by omega
      have hi3 : (0 : Int) ≤ (m : Int) + 1 := by omega
      have hleq := leq_less x y
      clear hc hx hy hbw
      cases hl : Op.bytesLess y x
      · rw [hl] at hat hleq
        have HAt := Lib.hid hat; clear hat hl
        have hleq' : (Op.bytesLess x y || x == y) = true := hleq
        clear hleq
        go_wp2_with fail
        go_quiet (fail)
        go_wp2_with fail
        go_ret
        exact ⟨ret_bool (by rw [ascL, all_false hlt HAt.out]), below_drewN HW.out _⟩
      · rw [hl] at hat hleq
        have HAt := Lib.hid hat; clear hat hl
        have hleq' : (Op.bytesLess x y || x == y) = false := hleq
        have g1 : Op.bytesLess x y = false := (Bool.or_eq_false_iff.1 hleq').1
        have g2 : (x == y) = false := (Bool.or_eq_false_iff.1 hleq').2
        clear hleq hleq'
        go_wp2_with fail
        go_quiet (fail)
        go_wp2_with fail
        go_roundw
        case rel => exact ⟨m + 1, by go_num, by omega, below_drewN HW.out _, Lib.hid fun j hj hjl => by
          by_cases e : j = m + 1
          · subst e; exact HAt.out
          · exact HA.out j (by omega) hjl⟩
        case measure => simp [intOf]; omega
    · have hq : decide ((m : Int) + 1 < L.length) = false := by simp; omega
      go_wp2_with fail
      go_ret
      exact ⟨ret_bool (by rw [ascL, all_true fun j hj => HA.out j (by omega) hj]), HW.out⟩
set_option maxHeartbeats 1000000 in
theorem rhas_any (S : Nat → Prop) (v : Value) (L : List (List UInt8)) (x : List UInt8) (w : World) (h : Vec w S 1 encS v L) (hn : L.length ≤ 1000000) :
    Calls Tryz.prog 98 #[v, strV x] w fun e w' => e = .returned (.bool (hasB L x)) ∧ w = w' := by
  obtain ⟨a, cap, rfl⟩ := h.slice
  have HV := Lib.hid h; clear h
  go_enter Tryz.func98, Tryz.ntmps98
  go_wp2_with fail
  go_loop [5] (fun i => ∃ k : Nat, k ≤ L.length ∧ i = .int .i64 k ∧ Hid (∀ j, j < k → L.getD j [] ≠ x)) (fun i => L.length - (intOf i).toNat)
  case atStart => exact ⟨0, by omega, rfl, Lib.hid fun j hj => by omega⟩
  case round =>
    obtain ⟨k, hk, rfl, HA⟩ := hrel
    by_cases hlt : k < L.length
    · have hq : decide ((k : Int) < L.length) = true := by simp; omega
      obtain ⟨b, off, rfl, _, hb, hc⟩ := vec_cell1 HV.out (by omega)
      have c1 := hc k hlt
      have hm : L.getD k [] ∈ L := by rw [List.getD, List.getElem?_eq_getElem hlt]; exact List.getElem_mem hlt
      obtain ⟨y, hy⟩ : ∃ y, L.getD k [] = y := ⟨_, rfl⟩
      rw [hy] at c1 hm
      have HY := Lib.hid hy; have HM := Lib.hid hm
      clear hc hy hm
      by_cases he : y = x
      · subst he
        go_wp2_with fail
        go_ret
        exact ⟨ret_bool (by unfold hasB; rw [List.any_eq_true.2 ⟨y, HM.out, by simp⟩]), rfl⟩
      · have e1 : (y == x) = false := by simpa using he
        have HE := Lib.hid he; clear he
        go_wp2_with fail
        go_round
        case rel => exact ⟨k + 1, by omega, by go_num, Lib.hid fun j hj => by
          by_cases e : j = k
          · subst e; rw [HY.out]; exact HE.out
          · exact HA.out j (by omega)⟩
        case measure => simp [intOf]; omega
    · have hq : decide ((k : Int) < L.length) = false := by simp; omega
      go_wp2_with fail
      go_ret
      refine ⟨ret_bool ?_, rfl⟩
      symm
      unfold hasB
      rw [List.any_eq_false]
      intro y hy
      obtain ⟨j, hj, rfl⟩ := List.getElem_of_mem hy
      have := HA.out j (by omega)
      rw [List.getD, List.getElem?_eq_getElem hj] at this
      simpa using this
end Go.Proofs.YtdckkggmmakfiaaGreatDoor
end
section
/- The reference of layer 2 (name): Replace, Canonical, Dropped, pairs. -/
set_option linter.unusedSimpArgs false
set_option linter.unusedVariables false
set_option maxRecDepth 100000
namespace Go.Proofs.YtdckkggmmakfiaaGreatDoor
open Go.RowKit
attribute [local go_sem] toList_mk mk_size bytes_append
theorem canon_drop {L : List P2} {s : List UInt8} (k : Nat) (hk : k < L.length) : canonL (L.drop k) s = if (L.getD k default).1 = s then (L.getD k default).2 else canonL (L.drop (k + 1)) s := by
  rw [List.drop_eq_getElem_cons hk, List.getD, List.getElem?_eq_getElem hk]
  simp only [Option.getD_some, canonL, beq_iff_eq]
set_option maxHeartbeats 1000000 in
theorem rreplace_any (S : Nat → Prop) (v : Value) (L : List P2) (x : List UInt8) (w : World) (h : Vec w S 2 encP v L) (hn : L.length ≤ 1000000) :
    Calls Tryz.prog 105 #[v, strV x] w fun e w' => e = .returned (strV (canonL L x)) ∧ w = w' := by
  obtain ⟨a, cap, rfl⟩ := h.slice
  have HV := Lib.hid h; clear h
  go_enter Tryz.func105, Tryz.ntmps105
  go_wp2_with fail
  go_loop [5] (fun i => ∃ k : Nat, k ≤ L.length ∧ i = .int .i64 k ∧ Hid (canonL L x = canonL (L.drop k) x)) (fun i => L.length - (intOf i).toNat)
  case atStart => exact ⟨0, by omega, rfl, Lib.hid rfl⟩
  case round =>
    obtain ⟨k, hk, rfl, HA⟩ := hrel
    by_cases hlt : k < L.length
    · have hq : decide ((k : Int) < L.length) = true := by simp; omega
      obtain ⟨b, off, rfl, _, hb, hc⟩ := vec_cell2 HV.out (by omega)
      have c0 := hc k hlt 0 _ rfl
      have c1 := hc k hlt 1 _ rfl
      rw [Nat.add_zero] at c0
      have hd := canon_drop (s := x) k hlt
      obtain ⟨⟨y, z⟩, hy⟩ : ∃ y, L.getD k default = y := ⟨_, rfl⟩
      rw [hy] at c0 c1 hd
      dsimp only at c0 c1 hd
      have HD := Lib.hid hd
      clear hc hy hd
      by_cases he : y = x
      · subst he
        go_wp2_with fail
        go_ret
        exact ⟨by show Ending.returned (strV z) = .returned (strV (canonL L y)); rw [HA.out, HD.out]; simp, rfl⟩
      · have e1 : (y == x) = false := by simpa using he
        have HE := Lib.hid he; clear he
        go_wp2_with fail
        go_round
        case rel => exact ⟨k + 1, by omega, by go_num, Lib.hid (by rw [HA.out, HD.out, if_neg HE.out])⟩
        case measure => simp [intOf]; omega
    · have hq : decide ((k : Int) < L.length) = false := by simp; omega
      have hfin : canonL L x = x := by rw [HA.out, List.drop_eq_nil_of_le (by omega)]; rfl
      have HF := Lib.hid hfin; clear hfin
      go_wp2_with fail
      go_ret
      exact ⟨by show Ending.returned (strV x) = .returned (strV (canonL L x)); rw [HF.out], rfl⟩
set_option maxHeartbeats 400000 in
theorem rcanonical_any (S : Nat → Prop) (vt vn vs : Value) (L : List P2) (x : List UInt8) (w : World) (h : Vec w S 2 encP vn L) (hn : L.length ≤ 1000000) :
    Calls Tryz.prog 102 #[.agg #[vt, vn, vs], strV x] w fun e w' => e = .returned (strV (canonL L x)) ∧ Below w.heap.size w w' := by
  have HV := Lib.hid h; clear h
  go_enter Tryz.func102, Tryz.ntmps102
  go_wp2_with fail
  refine (rreplace_any S vn L x _ (HV.out.below ((Below.refl _ _).alloc (Nat.le_refl _) _)) hn).mono ?_
  rintro e w' ⟨rfl, rfl⟩
  go_wp2_with fail
  go_ret
  exact ⟨rfl, (Below.refl _ _).alloc (Nat.le_refl _) _⟩
set_option maxHeartbeats 400000 in
theorem rdropped_any (S : Nat → Prop) (vt vn vs : Value) (L : List (List UInt8)) (x : List UInt8) (w : World) (h : Vec w S 1 encS vt L) (hn : L.length ≤ 1000000) :
    Calls Tryz.prog 101 #[.agg #[vt, vn, vs], strV x] w fun e w' => e = .returned (.bool (hasB L x)) ∧ Below w.heap.size w w' := by
  have HV := Lib.hid h; clear h
  go_enter Tryz.func101, Tryz.ntmps101
  go_wp2_with fail
  refine (rhas_any S vt L x _ (HV.out.below ((Below.refl _ _).alloc (Nat.le_refl _) _)) hn).mono ?_
  rintro e w' ⟨rfl, rfl⟩
  go_wp2_with fail
  go_ret
  exact ⟨rfl, (Below.refl _ _).alloc (Nat.le_refl _) _⟩
theorem find_has_from (s : List UInt8) : ∀ (L : List P2) (i : Nat), decide (Lib.idxByFrom (fun _ (y : P2) => y.1 == s) default L i < 0) = !hasB (L.map (·.1)) s := by
  intro L
  induction L with
  | nil => intro i; simp [Lib.idxByFrom, hasB]
  | cons p L ih =>
    intro i
    have e : hasB ((p :: L).map (·.1)) s = (p.1 == s || hasB (L.map (·.1)) s) := by simp [hasB]
    rw [e]
    cases h : p.1 == s
    · simp only [Lib.idxByFrom, h, Bool.false_eq_true, if_false, Bool.false_or]
      exact ih (i + 1)
    · simp only [Lib.idxByFrom, h, if_true, Bool.true_or, Bool.not_true]
      simp
theorem find_has (L : List P2) (s : List UInt8) : decide (findI L s < 0) = !hasB (L.map (·.1)) s := find_has_from s L 0
theorem map_getD (L : List P2) (j : Nat) (h : j < L.length) : (L.map (·.1)).getD j [] = (L.getD j default).1 := by
  rw [List.getD, List.getD, List.getElem?_map, List.getElem?_eq_getElem h]; rfl
theorem pairAt_is (L : List P2) (j : Nat) (h : j < L.length) : pairAtB L j = (tokenB (L.getD j default).1 && tokenB (L.getD j default).2 && ascAt (L.map (·.1)) j && !hasB (L.map (·.1)) (L.getD j default).2) := by
  unfold pairAtB ascAt
  rw [find_has, map_getD L j h]
  by_cases h0 : j = 0
  · subst h0; simp
  · rw [map_getD L (j - 1) (by omega)]
theorem pairs_no_tok {L : List P2} {j : Nat} (h : j < L.length) (ht : (tokenB (L.getD j default).1 && tokenB (L.getD j default).2) = false) : pairsB L = false := by
  unfold pairsB
  exact all_false h (by rw [pairAt_is L j h, ht]; simp)
theorem pairs_no_has {L : List P2} {j : Nat} (h : j < L.length) (ht : hasB (L.map (·.1)) (L.getD j default).2 = true) : pairsB L = false := by
  unfold pairsB
  exact all_false h (by rw [pairAt_is L j h, ht]; simp)
theorem pairs_asc {L : List P2} (h1 : ∀ j, j < L.length → (tokenB (L.getD j default).1 && tokenB (L.getD j default).2) = true) (h2 : ∀ j, j < L.length → hasB (L.map (·.1)) (L.getD j default).2 = false) : pairsB L = ascL (L.map (·.1)) := by
  unfold pairsB ascL
  rw [List.length_map]
  refine Bool.eq_iff_iff.2 ⟨fun h => ?_, fun h => ?_⟩
  · refine List.all_eq_true.2 fun j hj => ?_
    have := List.all_eq_true.1 h j hj
    rw [pairAt_is L j (List.mem_range.1 hj)] at this
    simp only [Bool.and_eq_true] at this
    exact this.1.2
  · refine List.all_eq_true.2 fun j hj => ?_
    have := List.all_eq_true.1 h j hj
    have hj' := List.mem_range.1 hj
    rw [pairAt_is L j hj', h1 j hj', h2 j hj', this]; rfl
theorem flat_fst_snoc (L : List P2) (k : Nat) (h : k < L.length) : (L.take (k + 1)).map (·.1) = (L.take k).map (·.1) ++ [(L.getD k default).1] := by
  rw [take_snocA L k h, List.map_append]; rfl
set_option maxHeartbeats 2000000 in
theorem rpairs_any (S : Nat → Prop) (v : Value) (L : List P2) (w : World) (h : Vec w S 2 encP v L) (hn : L.length ≤ 1000000) :
    Calls Tryz.prog 97 #[v] w fun e w' => e = .returned (.bool (pairsB L)) ∧ Below w.heap.size w w' := by
  obtain ⟨a, cap, rfl⟩ := h.slice
  have HV := Lib.hid h; clear h
  go_enter Tryz.func97, Tryz.ntmps97
  go_wp2_with fail
  go_loopw [3, 4] (fun f i wr => ∃ k : Nat, k ≤ L.length ∧ i = .int .i64 k ∧ OwnAt w f ((L.take k).map (·.1)) wr ∧ Hid (∀ j, j < k → (tokenB (L.getD j default).1 && tokenB (L.getD j default).2) = true)) (fun _ i _ => L.length - (intOf i).toNat)
  case atStart => exact ⟨0, by omega, rfl, OwnAt.start w, Lib.hid fun j hj => by omega⟩
  case round =>
    obtain ⟨k, hk, rfl, ho, HA⟩ := hrel
    have HO := Lib.hid ho; clear ho
    by_cases hlt : k < L.length
    · have hq : decide ((k : Int) < L.length) = true := by simp; omega
      obtain ⟨b, off, rfl, _, hb, hc⟩ := vec_cell2 HV.out (by omega)
      have k0 := hc k hlt 0 _ rfl
      rw [Nat.add_zero] at k0
      have c0 := (HO.out.2.cell (p := ⟨b, off + k * 2, none⟩) hb).trans k0
      clear k0
      have c1 := (HO.out.2.cell (p := ⟨b, off + k * 2 + 1, none⟩) hb).trans (hc k hlt 1 _ rfl)
      have hfs := flat_fst_snoc L k hlt
      have hno := pairs_no_tok (L := L) (j := k) hlt
      obtain ⟨⟨y, z⟩, hy⟩ : ∃ y, L.getD k default = y := ⟨_, rfl⟩
      rw [hy] at c0 c1 hfs hno
      dsimp only at c0 c1 hfs hno
      have HFs := Lib.hid hfs; have HNo := Lib.hid hno; have HY := Lib.hid hy
      clear hc hy hfs hno
      go_wp2_with fail
      refine (rtoken_any y _).mono ?_
      cases ht : tokenB y
      · rintro e w' ⟨rfl, rfl⟩
        have HT := Lib.hid ht; clear ht
        go_wp2_with fail
        go_ret
        exact ⟨ret_bool (by rw [HNo.out (by rw [HT.out]; rfl)]), HO.out.2⟩
      · rintro e w' ⟨rfl, rfl⟩
        have HT := Lib.hid ht; clear ht
        go_wp2_with fail
        refine (rtoken_any z _).mono ?_
        cases ht2 : tokenB z
        · rintro e w' ⟨rfl, rfl⟩
          have HT2 := Lib.hid ht2; clear ht2
          go_wp2_with fail
          go_ret
          exact ⟨ret_bool (by rw [HNo.out (by rw [HT.out, HT2.out]; rfl)]), HO.out.2⟩
        · rintro e w' ⟨rfl, rfl⟩
          have HT2 := Lib.hid ht2; clear ht2
          have hlen : ((L.take k).map (·.1)).length < 1099511627776 := by have := List.length_take_le k L; rw [List.length_map]; omega
          have hone : ∀ u ∈ (#[strV y] : Array Value).toList, u.oneCell' = true := by intro u hu; simp at hu; subst hu; rfl
          go_wp2_with (at_builtin; refine wpList_append_new rfl _ _ 28 rfl w.heap.size 9 1 16 (.string ⟨#[]⟩) Tryz.underlying28 infoS rfl (by decide) (by decide) _ _ _ rfl HO.out.1 #[strV y] 1 rfl rfl hone hlen HO.out.2.size ?_; intro v2 w8 ho8 hw8)
          go_roundw
          case rel => exact ⟨k + 1, by omega, by go_num, ⟨by rw [HFs.out, List.length_append, flat_snoc]; exact ho8, hw8 _ HO.out.2⟩, Lib.hid fun j hj => by
            by_cases e : j = k
            · subst e; rw [HY.out, HT.out, HT2.out]; rfl
            · exact HA.out j (by omega)⟩
          case measure => simp [intOf]; omega
    · have hq : decide ((k : Int) < L.length) = false := by simp; omega
      obtain rfl : k = L.length := by omega
      rw [List.take_of_length_le (Nat.le_refl _)] at HO
      have HF := Lib.hid (Vec.owns (S := Any1) (k := 1) (enc := encS) (fun _ => rfl) HO.out.1 (fun _ _ _ => trivial))
      have hml : (L.map (·.1)).length ≤ 1000000 := by rw [List.length_map]; exact hn
      obtain ⟨wo, rfl⟩ : ∃ wo : World, wo = wr := ⟨_, rfl⟩
      go_wp2_with fail
      go_loopw [5] (fun i wr => ∃ k : Nat, k ≤ L.length ∧ i = .int .i64 k ∧ wr = wo ∧ Hid (∀ j, j < k → hasB (L.map (·.1)) (L.getD j default).2 = false)) (fun i _ => L.length - (intOf i).toNat)
      case atStart => exact ⟨0, by omega, rfl, rfl, Lib.hid fun j hj => by omega⟩
      case round =>
        obtain ⟨k, hk2, rfl, rfl, HB⟩ := hrel
        by_cases hlt2 : k < L.length
        · have hq2 : decide ((k : Int) < L.length) = true := by simp; omega
          obtain ⟨b, off, rfl, _, hb, hc⟩ := vec_cell2 HV.out (by omega)
          have c1 := (HO.out.2.cell (p := ⟨b, off + k * 2 + 1, none⟩) hb).trans (hc k hlt2 1 _ rfl)
          have hno := pairs_no_has (L := L) (j := k) hlt2
          obtain ⟨⟨y, z⟩, hy⟩ : ∃ y, L.getD k default = y := ⟨_, rfl⟩
          rw [hy] at c1 hno
          dsimp only at c1 hno
          have HNo := Lib.hid hno; have HY := Lib.hid hy
          clear hc hy hno
          go_wp2_with fail
          refine (rhas_any Any1 _ (L.map (·.1)) z _ HF.out hml).mono ?_
          cases ht : hasB (L.map (·.1)) z
          · rintro e w' ⟨rfl, rfl⟩
            have HT := Lib.hid ht; clear ht
            go_wp2_with fail
            go_roundw
            case rel => exact ⟨k + 1, by omega, by go_num, by trivial, Lib.hid fun j hj => by
              by_cases e : j = k
              · subst e; rw [HY.out]; exact HT.out
              · exact HB.out j (by omega)⟩
            case measure => simp [intOf]; omega
          · rintro e w' ⟨rfl, rfl⟩
            have HT := Lib.hid ht; clear ht
            go_wp2_with fail
            go_ret
            exact ⟨ret_bool (by rw [HNo.out HT.out]), HO.out.2⟩
        · have hq2 : decide ((k : Int) < L.length) = false := by simp; omega
          have hfin := pairs_asc (L := L) HA.out (fun j hj => HB.out j (by omega))
          have HFin := Lib.hid hfin; clear hfin
          go_wp2_with fail
          refine (rasc_any Any1 _ (L.map (·.1)) _ HF.out hml).mono ?_
          rintro e w2 ⟨rfl, hb2⟩
          have HB2 := Lib.hid (HO.out.2.trans (hb2.mono HO.out.2.size))
          clear hb2
          go_wp2_with fail
          go_ret
          exact ⟨ret_bool (by rw [HFin.out]), HB2.out⟩
end Go.Proofs.YtdckkggmmakfiaaGreatDoor
end
section
/- The reference of layer 2 (name): Check. -/
set_option linter.unusedSimpArgs false
set_option linter.unusedVariables false
set_option maxRecDepth 100000
namespace Go.Proofs.YtdckkggmmakfiaaGreatDoor
open Go.RowKit
attribute [local go_sem] toList_mk mk_size bytes_append
theorem titles_is {L : List (List UInt8)} (h : ∀ j, j < L.length → tokenB (L.getD j []) = true) : titlesB L = ascL L := by
  unfold titlesB ascL
  refine Bool.eq_iff_iff.2 ⟨fun g => ?_, fun g => ?_⟩
  · refine List.all_eq_true.2 fun j hj => ?_
    have := List.all_eq_true.1 g j hj
    unfold titleAt at this
    rw [Bool.and_eq_true] at this
    exact this.2
  · refine List.all_eq_true.2 fun j hj => ?_
    have := List.all_eq_true.1 g j hj
    unfold titleAt
    rw [h j (List.mem_range.1 hj)]
    exact this
theorem titles_no {L : List (List UInt8)} {j : Nat} (h : j < L.length) (ht : tokenB (L.getD j []) = false) : titlesB L = false := by
  unfold titlesB
  exact all_false h (by unfold titleAt; rw [ht]; rfl)
set_option maxHeartbeats 8000000 in
theorem rncheck_any (S : Nat → Prop) (vt vn vs : Value) (r : RulesL) (w : World) (h : RulesAt w S vt vn vs r) :
    Calls Tryz.prog 64 #[.agg #[vt, vn, vs]] w fun e w' => e = .returned (.int .i64 (checkR r)) ∧ Below w.heap.size w w' := by
  obtain ⟨lt, ln, ls⟩ := r
  obtain ⟨h1, h2, h3⟩ := h
  dsimp only at h1 h2 h3
  obtain ⟨at1, ct, rfl⟩ := h1.slice
  obtain ⟨an, cn, rfl⟩ := h2.slice
  obtain ⟨as', cs, rfl⟩ := h3.slice
  have H1 := Lib.hid h1.any; have H2 := Lib.hid h2.any; have H3 := Lib.hid h3.any
  clear h1 h2 h3
  have hfin : ∀ n : Int, checkR ⟨lt, ln, ls⟩ = n → Ending.returned (.int .i64 n) = .returned (.int .i64 (checkR ⟨lt, ln, ls⟩)) := fun n h => by rw [h]
  have HF := Lib.hid hfin; clear hfin
  by_cases g1 : 32 < lt.length
  · have e1 : decide ((32 : Int) < lt.length) = true := by simp; omega
    go_enter Tryz.func64, Tryz.ntmps64
    go_wp2_with fail
    go_ret
    exact ⟨HF.out 1 (by unfold checkR; rw [if_pos (.inl g1)]), (Below.refl _ _).alloc (Nat.le_refl _) _⟩
  · have e1 : decide ((32 : Int) < lt.length) = false := by simp; omega
    by_cases g2 : 32 < ln.length
    · have e2 : decide ((32 : Int) < ln.length) = true := by simp; omega
      go_enter Tryz.func64, Tryz.ntmps64
      go_wp2_with fail
      go_ret
      exact ⟨HF.out 1 (by unfold checkR; rw [if_pos (.inr (.inl g2))]), (Below.refl _ _).alloc (Nat.le_refl _) _⟩
    · have e2 : decide ((32 : Int) < ln.length) = false := by simp; omega
      by_cases g3 : 32 < ls.length
      · have e3 : decide ((32 : Int) < ls.length) = true := by simp; omega
        go_enter Tryz.func64, Tryz.ntmps64
        go_wp2_with fail
        go_ret
        exact ⟨HF.out 1 (by unfold checkR; rw [if_pos (.inr (.inr g3))]), (Below.refl _ _).alloc (Nat.le_refl _) _⟩
      · have e3 : decide ((32 : Int) < ls.length) = false := by simp; omega
        have hle : ¬ (32 < lt.length ∨ 32 < ln.length ∨ 32 < ls.length) := by omega
        have HLe := Lib.hid hle; clear hle
        go_enter Tryz.func64, Tryz.ntmps64
        go_wp2_with fail
        clear e1 e2 e3
        refine wp_world (fun W hW => ?_)
        have HX := Lib.hid (show W.heap[w.heap.size]? = some (.cells #[.slice at1 lt.length ct, .slice an ln.length cn, .slice as' ls.length cs] 31 (0, 0)) from by rw [hW]; exact blk_new rfl)
        have HB := Lib.hid (show Below w.heap.size w W from by rw [hW]; exact (Below.refl _ _).alloc (Nat.le_refl _) _)
        have zW : w.heap.size < W.heap.size := lt_of_blk HX.out
        clear hW
        obtain ⟨p0, p1, p2⟩ := cells3 HX.out
        go_loop [3] (fun i => ∃ k : Nat, k ≤ lt.length ∧ i = .int .i64 k ∧ Hid (∀ j, j < k → tokenB (lt.getD j []) = true)) (fun i => lt.length - (intOf i).toNat)
        case atStart => exact ⟨0, by omega, rfl, Lib.hid fun j hj => by omega⟩
        case round =>
          obtain ⟨k, hk, rfl, HA⟩ := hrel
          by_cases hlt : k < lt.length
          · have hq : decide ((k : Int) < lt.length) = true := by simp; omega
            obtain ⟨b, off, rfl, _, hb, hc⟩ := vec_cell1 (H1.out.below HB.out) (by omega)
            have c1 := hc k hlt
            obtain ⟨x, hx⟩ : ∃ x, lt.getD k [] = x := ⟨_, rfl⟩
            rw [hx] at c1
            have HXx := Lib.hid hx
            clear hc hx
            go_wp2_with fail
            refine (rtoken_any x _).mono ?_
            cases ht : tokenB x
            · rintro e w' ⟨rfl, rfl⟩
              have HT := Lib.hid ht; clear ht
              go_wp2_with fail
              go_ret
              exact ⟨HF.out 5 (by unfold checkR; rw [if_neg HLe.out, titles_no (j := k) hlt (by rw [HXx.out]; exact HT.out)]; simp), HB.out⟩
            · rintro e w' ⟨rfl, rfl⟩
              have HT := Lib.hid ht; clear ht
              go_wp2_with fail
              go_round
              case rel => exact ⟨k + 1, by omega, by go_num, Lib.hid fun j hj => by
                by_cases e : j = k
                · subst e; rw [HXx.out]; exact HT.out
                · exact HA.out j (by omega)⟩
              case measure => simp [intOf]; omega
          · have hq : decide ((k : Int) < lt.length) = false := by simp; omega
            have hti := Lib.hid (titles_is (L := lt) (fun j hj => HA.out j (by omega)))
            go_wp2_with fail
            refine (rasc_any Any1 _ lt _ (H1.out.below HB.out) (by omega)).mono ?_
            rw [← hti.out]
            rintro e w1 ⟨rfl, hb1⟩
            have HX1 := Lib.hid (blk_below hb1 zW HX.out)
            have HB1 := Lib.hid (HB.out.trans (hb1.mono HB.out.size))
            clear hb1 p0 p1 p2
            obtain ⟨p0, p1, p2⟩ := cells3 HX1.out
            have z1 : w.heap.size < w1.heap.size := lt_of_blk HX1.out
            cases ht : titlesB lt
            · have HT := Lib.hid ht; clear ht
              go_wp2_with fail
              go_ret
              exact ⟨HF.out 5 (by unfold checkR; rw [if_neg HLe.out, HT.out]; simp), HB1.out⟩
            · have HT := Lib.hid ht; clear ht
              go_wp2_with fail
              refine (rpairs_any Any1 _ ln _ (H2.out.below HB1.out) (by omega)).mono ?_
              rintro e w2 ⟨rfl, hb2⟩
              have HX2 := Lib.hid (blk_below hb2 z1 HX1.out)
              have HB2 := Lib.hid (HB1.out.trans (hb2.mono HB1.out.size))
              clear hb2 p0 p1 p2
              obtain ⟨p0, p1, p2⟩ := cells3 HX2.out
              have z2 : w.heap.size < w2.heap.size := lt_of_blk HX2.out
              cases hp : pairsB ln
              · have HP := Lib.hid hp; clear hp
                go_wp2_with fail
                go_ret
                exact ⟨HF.out 5 (by unfold checkR; rw [if_neg HLe.out, HT.out, HP.out]; simp), HB2.out⟩
              · have HP := Lib.hid hp; clear hp
                go_wp2_with fail
                refine (rpairs_any Any1 _ ls _ (H3.out.below HB2.out) (by omega)).mono ?_
                rintro e w3 ⟨rfl, hb3⟩
                have HX3 := Lib.hid (blk_below hb3 z2 HX2.out)
                have HB3 := Lib.hid (HB2.out.trans (hb3.mono HB2.out.size))
                clear hb3 p0 p1 p2
                cases hs : pairsB ls
                · have HS := Lib.hid hs; clear hs
                  go_wp2_with fail
                  go_ret
                  exact ⟨HF.out 5 (by unfold checkR; rw [if_neg HLe.out, HT.out, HP.out, HS.out]; simp), HB3.out⟩
                · have HS := Lib.hid hs; clear hs
                  have hck : checkR ⟨lt, ln, ls⟩ = if (ln.any fun x => hasB lt x.2) = true then 5 else 0 := by
                    unfold checkR
                    rw [if_neg HLe.out, HT.out, HP.out, HS.out]; simp
                  have HCk := Lib.hid hck; clear hck
                  go_wp2_with fail
                  go_loopw [4] (fun i wr => ∃ k : Nat, k ≤ ln.length ∧ i = .int .i64 k ∧ Below w3.heap.size w3 wr ∧ Hid (∀ j, j < k → hasB lt (ln.getD j default).2 = false)) (fun i _ => ln.length - (intOf i).toNat)
                  case atStart => exact ⟨0, by omega, rfl, Below.refl _ _, Lib.hid fun j hj => by omega⟩
                  case round =>
                    obtain ⟨k, hk2, rfl, hbw, HH⟩ := hrel
                    have HW := Lib.hid (HB3.out.trans (hbw.mono HB3.out.size))
                    have HXw := Lib.hid (blk_below hbw (lt_of_blk HX3.out) HX3.out)
                    have HBw := Lib.hid hbw
                    clear hbw
                    have zw := lt_of_blk HXw.out
                    obtain ⟨p0, p1, p2⟩ := cells3 HXw.out
                    by_cases hlt2 : k < ln.length
                    · have hq2 : decide ((k : Int) < ln.length) = true := by simp; omega
                      have hi : (k : Int) < (ln.length : Int) := by omega
                      obtain ⟨b, off, rfl, _, hb, hc⟩ := vec_cell2 (H2.out.below HW.out) (by omega)
                      have c1 := hc k hlt2 1 _ rfl
                      obtain ⟨⟨y, z⟩, hy⟩ : ∃ y, ln.getD k default = y := ⟨_, rfl⟩
                      have hmem : ln.getD k default ∈ ln := by rw [List.getD, List.getElem?_eq_getElem hlt2]; exact List.getElem_mem hlt2
                      rw [hy] at c1 hmem
                      dsimp only at c1
                      have HY := Lib.hid hy; have HM := Lib.hid hmem
                      clear hc hy hmem
                      go_wp2_with fail
                      refine wp_region_noPanic ?_
                      refine wp_region_held_drew (S := (fun w' => w'.cell? ⟨w.heap.size, 0, none⟩ = some (.slice at1 lt.length ct) ∧ w'.cell? ⟨w.heap.size, 1, none⟩ = some (.slice (some ⟨b, off, none⟩) ln.length cn) ∧ w'.cell? ⟨b, off + k * 2 + 1, none⟩ = some (strV z))) (by kernel_rfl) (⟨p0, p1, c1⟩) (fun hHeld => ?_)
                      refine wpAnyH_take (i := 0) (v := ?_) rfl (by kernel_rfl) (by kernel_rfl) (by kernel_rfl) (fun _ _ _ h => h) (Or.inl ⟨by rfl, ?_⟩) (by assumption) ?_
                      rotate_left 1
                      · (intro wS hSw; (try dsimp only at hSw); go_simp; try with_reducible rfl)
                      try simp only [List.getElem_toArray, List.getElem_cons_zero, List.getElem_cons_succ, Act.put, List.setIfInBounds_toArray, List.set_cons_zero, List.set_cons_succ]
                      refine wpAnyH_take (i := 1) (v := ?_) rfl (by kernel_rfl) (by kernel_rfl) (by kernel_rfl) (fun _ _ _ h => h) (Or.inl ⟨by rfl, ?_⟩) (by assumption) ?_
                      rotate_left 1
                      · (intro wS hSw; (try dsimp only at hSw); go_simp; try with_reducible rfl)
                      try simp only [List.getElem_toArray, List.getElem_cons_zero, List.getElem_cons_succ, Act.put, List.setIfInBounds_toArray, List.set_cons_zero, List.set_cons_succ]
                      refine wpAnyH_take (i := 2) (v := ?_) rfl (by kernel_rfl) (by kernel_rfl) (by kernel_rfl) (fun _ _ _ h => h) (Or.inl ⟨by rfl, ?_⟩) (by assumption) ?_
                      rotate_left 1
                      · (intro wS hSw; (try dsimp only at hSw); go_simp; try with_reducible rfl)
                      try simp only [List.getElem_toArray, List.getElem_cons_zero, List.getElem_cons_succ, Act.put, List.setIfInBounds_toArray, List.set_cons_zero, List.set_cons_succ]
                      refine wpAnyH_take (i := 3) (v := ?_) rfl (by kernel_rfl) (by kernel_rfl) (by kernel_rfl) (fun _ _ _ h => h) (Or.inl ⟨by rfl, ?_⟩) (by assumption) ?_
                      rotate_left 1
                      · (intro wS hSw; (try dsimp only at hSw); go_simp; try with_reducible rfl)
                      try simp only [List.getElem_toArray, List.getElem_cons_zero, List.getElem_cons_succ, Act.put, List.setIfInBounds_toArray, List.set_cons_zero, List.set_cons_succ]
                      refine wpAnyH_take (i := 4) (v := ?_) rfl (by kernel_rfl) (by kernel_rfl) (by kernel_rfl) (fun _ _ _ h => h) (Or.inl ⟨by rfl, ?_⟩) (by assumption) ?_
                      rotate_left 1
                      · (intro wS hSw; (try dsimp only at hSw); go_simp; try with_reducible rfl)
                      try simp only [List.getElem_toArray, List.getElem_cons_zero, List.getElem_cons_succ, Act.put, List.setIfInBounds_toArray, List.set_cons_zero, List.set_cons_succ]
                      refine wpAnyH_take (i := 5) (v := ?_) rfl (by kernel_rfl) (by kernel_rfl) (by kernel_rfl) (fun _ _ _ h => h) (Or.inl ⟨by rfl, ?_⟩) (by assumption) ?_
                      rotate_left 1
                      · (intro wS hSw; (try dsimp only at hSw); go_simp; try with_reducible rfl)
                      try simp only [List.getElem_toArray, List.getElem_cons_zero, List.getElem_cons_succ, Act.put, List.setIfInBounds_toArray, List.set_cons_zero, List.set_cons_succ]
                      refine wpAnyH_take (i := 6) (v := ?_) rfl (by kernel_rfl) (by kernel_rfl) (by kernel_rfl) (fun _ _ _ h => h) (Or.inl ⟨by rfl, ?_⟩) (by assumption) ?_
                      rotate_left 1
                      · (intro wS hSw; (try dsimp only at hSw); go_simp; try with_reducible rfl)
                      try simp only [List.getElem_toArray, List.getElem_cons_zero, List.getElem_cons_succ, Act.put, List.setIfInBounds_toArray, List.set_cons_zero, List.set_cons_succ]
                      refine wpAnyH_take (i := 7) (v := ?_) rfl (by kernel_rfl) (by kernel_rfl) (by kernel_rfl) (fun _ _ _ h => h) (Or.inl ⟨by rfl, ?_⟩) (by assumption) ?_
                      rotate_left 1
                      · (intro wS hSw; (try dsimp only at hSw); go_simp; try with_reducible rfl)
                      try simp only [List.getElem_toArray, List.getElem_cons_zero, List.getElem_cons_succ, Act.put, List.setIfInBounds_toArray, List.set_cons_zero, List.set_cons_succ]
                      refine wpAnyH_ready (rs := [8]) (by kernel_rfl) (by simp) ?_
                      refine AllReadyH.cons rfl (fun K hK => ?_) AllReadyH.nil
                      go_simp
                      refine (rhas_any Any1 _ lt z _ ((H1.out.below HW.out).below (Below.refl _ _).drew) (by omega)).mono ?_; rintro e w' ⟨rfl, rfl⟩
                      refine hK.out _ _ (hHeld) (fun hHeld => ?_)
                      clear hK K
                      try simp only [List.getElem_toArray, List.getElem_cons_zero, List.getElem_cons_succ, Act.put, List.setIfInBounds_toArray, List.set_cons_zero, List.set_cons_succ]
                      refine wpAnyH_done (by kernel_rfl) ?_ _
                      refine NoPanic.normal ?_
                      cases hh : hasB lt z
                      · have HHz := Lib.hid hh; clear hh
                        go_wp2_with fail
                        go_roundw
                        case rel => exact ⟨k + 1, by omega, by go_num, HBw.out.drew, Lib.hid fun j hj => by
                          by_cases e : j = k
                          · subst e; rw [HY.out]; exact HHz.out
                          · exact HH.out j (by omega)⟩
                        case measure => simp [intOf]; omega
                      · have HHz := Lib.hid hh; clear hh
                        go_wp2_with fail
                        go_ret
                        exact ⟨HF.out 5 (by rw [HCk.out, if_pos (List.any_eq_true.2 ⟨_, HM.out, HHz.out⟩)]), HW.out.drew⟩
                    · have hq2 : decide ((k : Int) < ln.length) = false := by simp; omega
                      have hany : (ln.any fun x => hasB lt x.2) = false := by
                        rw [List.any_eq_false]
                        intro y hy
                        obtain ⟨j, hj, rfl⟩ := List.getElem_of_mem hy
                        have := HH.out j (by omega)
                        rw [List.getD, List.getElem?_eq_getElem hj] at this
                        simpa using this
                      have HAny := Lib.hid hany; clear hany
                      go_wp2_with fail
                      go_ret
                      exact ⟨HF.out 0 (by rw [HCk.out, HAny.out]; simp), HW.out⟩
end Go.Proofs.YtdckkggmmakfiaaGreatDoor
end
