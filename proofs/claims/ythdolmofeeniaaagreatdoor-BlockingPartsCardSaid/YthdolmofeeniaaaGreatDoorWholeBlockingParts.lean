/-
  For every input the law BlockingParts returns true, and its arguments read afterwards as they read before; no condition.
-/
import Derived.Test.YthdolmofeeniaaaGreatDoorPartBk7
import Derived.Test.YthdolmofeeniaaaGreatDoorRows
import Derived.ProofKit
import Derived.JoinedOf
import Derived.WalkKit
import Derived.OpenShut
import Derived.ShutString
import Derived.ChangeOld
import Derived.Below
import Derived.Lib.SmallJoins
import Derived.Test.YthdolmofeeniaaaGreatDoorCards
import Derived.Test.YthdolmofeeniaaaGreatDoorTie
import Derived.LaidMore
import Derived.Lay
import Derived.SevenTiedAt
import Derived.Stop.Joined
section
/-
  The closed facts of the row of BlockingParts, each a lemma of its own (so that the kernel gives its memory back behind each).
-/
namespace Go.Proofs.YthdolmofeeniaaaGreatDoor.blockingParts
theorem and_tt {a b : Bool} (h : a = true) (h' : b = true) : (a && b) = true := by rw [h, h']; rfl
set_option maxRecDepth 100000 in
set_option maxHeartbeats 100000000 in
theorem closed : joinedFacts Tryz.pinned.checked.prog 5 Tryz.f5 Rows.blockingPartsSpec Rows.blockingPartsRow = true := by
  unfold joinedFacts
  repeat' (with_reducible refine and_tt ?_ ?_)
  · as_aux_lemma => kernel_rfl
  · as_aux_lemma => kernel_rfl
  · as_aux_lemma => kernel_rfl
  · as_aux_lemma => kernel_rfl
  · as_aux_lemma => kernel_rfl
  · as_aux_lemma => kernel_rfl
  · as_aux_lemma => kernel_rfl
  · as_aux_lemma => kernel_rfl
  · as_aux_lemma => kernel_rfl
  · as_aux_lemma => kernel_rfl
  · as_aux_lemma => kernel_rfl
  · as_aux_lemma => kernel_rfl
  · as_aux_lemma => kernel_rfl
  · as_aux_lemma => kernel_rfl
  · as_aux_lemma => kernel_rfl
  · as_aux_lemma => kernel_rfl
  · as_aux_lemma => kernel_rfl
  · as_aux_lemma => kernel_rfl
  · as_aux_lemma => kernel_rfl
  · as_aux_lemma => kernel_rfl
  · as_aux_lemma => kernel_rfl
  · as_aux_lemma => kernel_rfl
  · as_aux_lemma => kernel_rfl
  · as_aux_lemma => kernel_rfl
  · as_aux_lemma => kernel_rfl
  · as_aux_lemma => kernel_rfl
  · as_aux_lemma => kernel_rfl
  · as_aux_lemma => kernel_rfl
  · as_aux_lemma => kernel_rfl
  · as_aux_lemma => kernel_rfl
  · as_aux_lemma => kernel_rfl
  · as_aux_lemma => kernel_rfl
end Go.Proofs.YthdolmofeeniaaaGreatDoor.blockingParts
end
section
/- The law BlockingParts, walked: for every list of numbers it returns true and leaves what was there. -/
set_option linter.unusedSimpArgs false
set_option linter.unusedVariables false
set_option maxRecDepth 100000
namespace Go.Proofs.YthdolmofeeniaaaGreatDoor
open Go.RowKit Cal
attribute [local go_sem] toList_mk mk_size bytes_append
theorem RecsVec.far {w : World} {S : Nat → Prop} {v : Value} {R : List RecL} (h : RecsVec w S v R) {a : Addr} {u : Value} (hn : ∀ b, S b → b ≠ a.block) : RecsVec (w.setCell a u) S v R :=
  h.move (by simp [World.setCell]) fun b _ hs => ⟨heap_setCell_other _ _ _ _ (hn b hs), hs⟩
theorem count_id (p : RecL → Bool) : ∀ (L : List RecL), (L.Pairwise fun x y => x.id < y.id) → ∀ r ∈ L, L.countP (fun x => p x && decide (x.id = r.id)) = if p r = true then 1 else 0
  | [], _, r, hr => by simp at hr
  | x :: L, h, r, hr => by
    obtain ⟨h1, h2⟩ := List.pairwise_cons.1 h
    rw [List.countP_cons]
    rcases List.mem_cons.1 hr with rfl | h3
    · have h0 : L.countP (fun y => p y && decide (y.id = r.id)) = 0 := by
        rw [List.countP_eq_zero]
        intro y hy
        have := h1 y hy
        simp; intro _; omega
      rw [h0]
      cases p r <;> simp
    · have hne : x.id ≠ r.id := by have := h1 r h3; omega
      rw [count_id p L h2 r h3]
      simp [hne]
theorem id_eq : ∀ {L : List RecL}, (L.Pairwise fun x y => x.id < y.id) → ∀ {r x : RecL}, r ∈ L → x ∈ L → x.id = r.id → x = r
  | [], _, r, x, hr, _, _ => by simp at hr
  | y :: L, h, r, x, hr, hx, he => by
    obtain ⟨h1, h2⟩ := List.pairwise_cons.1 h
    rcases List.mem_cons.1 hr with rfl | h3
    · rcases List.mem_cons.1 hx with rfl | h4
      · rfl
      · have := h1 x h4; omega
    · rcases List.mem_cons.1 hx with rfl | h4
      · have := h1 r h3; omega
      · exact id_eq h2 h3 h4 he
/-- a record's ID stands in just one block, if it has a hash -/
theorem blocks_cnt (k : Int × Int) (i : Nat) (K : List (Int × Int)) {R : List RecL} (h : R.Pairwise fun x y => x.id < y.id) {r : RecL} (hr : r ∈ R) : cntB r.id (blocksN k i K R) = if (bhashN k i (K.map (compN r.vals))).2 = true then 1 else 0 := by
  unfold blocksN
  rw [cntB_all, List.countP_map]
  have := count_id (fun x => (bhashN k i (K.map (compN x.vals))).2) R h r hr
  simp only [cntB, List.map_nil, List.sum_nil, Nat.zero_add]
  exact this
/-- .. and that block has its hash -/
theorem blocks_hash (k : Int × Int) (i : Nat) (K : List (Int × Int)) {R : List RecL} (h : R.Pairwise fun x y => x.id < y.id) {r : RecL} (hr : r ∈ R) {b : BkP} (hb : b ∈ blocksN k i K R) (hx : r.id ∈ b.2) : bhashN k i (K.map (compN r.vals)) = (b.1, true) := by
  rcases mem_all _ _ _ _ hb hx with ⟨p, hp, e1, e2⟩ | ⟨c, hc, _⟩
  · obtain ⟨x, hx', rfl⟩ := List.mem_map.1 hp
    have : x = r := id_eq h hr hx' e2
    subst this
    exact e1
  · simp at hc
theorem cntI_snoc (x : Int) (l : List Int) (t : Nat) (h : t < l.length) : cntI x (l.take (t + 1)) = cntI x (l.take t) + if l[t] = x then 1 else 0 := by
  unfold cntI
  rw [List.take_succ_eq_append_getElem h, List.countP_append]
  by_cases e : l[t] = x <;> simp [e]
theorem cntB_snoc (x : Int) (L : List BkP) (q : Nat) (h : q < L.length) : cntB x (L.take (q + 1)) = cntB x (L.take q) + cntI x L[q].2 := by
  unfold cntB
  rw [List.take_succ_eq_append_getElem h, List.map_append, List.sum_append]
  simp
theorem blksN_len (k : Int × Int) (Ks : List (List (Int × Int))) (R : List RecL) (j : Nat) : (blksN k Ks R j).length = j := by simp [blksN]
theorem blksN_get (k : Int × Int) (Ks : List (List (Int × Int))) (R : List RecL) (j i : Nat) (h : i < (blksN k Ks R j).length) : (blksN k Ks R j)[i] = blocksN k i (Ks.getD i []) R := by simp [blksN]
theorem cntB_append (x : Int) (A B : List BkP) : cntB x (A ++ B) = cntB x A + cntB x B := by simp [cntB]
theorem cntB_le (x : Int) (L : List BkP) (q : Nat) : cntB x (L.take q) ≤ cntB x L := by
  have e : cntB x L = cntB x (L.take q) + cntB x (L.drop q) := by rw [← cntB_append, List.take_append_drop]
  omega
theorem cntI_le (x : Int) (l : List Int) (t : Nat) : cntI x (l.take t) ≤ cntI x l := by
  have e : cntI x l = cntI x (l.take t) + cntI x (l.drop t) := by unfold cntI; rw [← List.countP_append, List.take_append_drop]
  omega
theorem addAll_len : ∀ (R : List ((Int × Bool) × Int)) (L : List BkP), (addAll L R).length ≤ L.length + R.length
  | [], L => by simp [addAll]
  | (h, x) :: R, L => by
    unfold addAll
    have h1 := addAll_len R (if h.2 = true then addB L h.1 x else L)
    have h2 := addB_len L h.1 x
    split at h1
    · next hh => rw [if_pos hh]; simp only [List.length_cons]; omega
    · next hh => rw [if_neg hh]; simp only [List.length_cons]; omega
theorem addB_ids {m : Nat} (k x : Int) : ∀ {L : List BkP}, (∀ c ∈ L, c.2.length ≤ m) → ∀ b ∈ addB L k x, b.2.length ≤ m + 1
  | [], _, b, hb => by simp [addB] at hb; subst hb; simp
  | c :: L, h, b, hb => by
    unfold addB at hb
    have hc := h c List.mem_cons_self
    split at hb
    · rcases List.mem_cons.1 hb with rfl | h1
      · omega
      · exact addB_ids k x (fun c hc => h c (List.mem_cons_of_mem _ hc)) b h1
    · split at hb
      · rcases List.mem_cons.1 hb with rfl | h1
        · simp; omega
        · have := h b (List.mem_cons_of_mem _ h1); omega
      · rcases List.mem_cons.1 hb with rfl | h1
        · simp
        · have := h b h1; omega
theorem addAll_ids : ∀ (R : List ((Int × Bool) × Int)) (L : List BkP) (m : Nat), (∀ c ∈ L, c.2.length ≤ m) → ∀ b ∈ addAll L R, b.2.length ≤ m + R.length
  | [], L, m, h, b, hb => h b hb
  | (a, x) :: R, L, m, h, b, hb => by
    unfold addAll at hb
    have := addAll_ids R _ (m + 1) (fun c hc => by
      split at hc
      · exact addB_ids a.1 x h c hc
      · exact Nat.le_succ_of_le (h c hc)) b hb
    simp only [List.length_cons]; omega
theorem blocks_small (k : Int × Int) (i : Nat) (K : List (Int × Int)) (R : List RecL) : (blocksN k i K R).length ≤ R.length ∧ ∀ b ∈ blocksN k i K R, b.2.length ≤ R.length := by
  unfold blocksN
  refine ⟨by have := addAll_len (R.map (blkPair k i K)) []; simpa using this, fun b hb => ?_⟩
  have := addAll_ids (R.map (blkPair k i K)) [] 0 (fun c hc => by simp at hc) b hb
  simpa using this
set_option maxHeartbeats 16000000 in
theorem bparts_walk (a : Option Addr) (n cap : Nat) (zs : List Int) (w : World) (hr : IsRow .i64 w a n cap zs) :
    Calls Tryz.prog 5 #[.slice a n cap] w fun e w' => e = .returned (.bool true) ∧ Below w.heap.size w w' := by
  by_cases hn : n ≤ 400
  · have hd : decide (n ≤ 400) = true := by simpa using hn
    have HR := Lib.hid hr; clear hr
    go_enter Tryz.func5, Tryz.ntmps5
    go_wp2_with fail
    refine (awake_b _).mono ?_; rintro e w1 ⟨rfl, hb1⟩
    go_wp2_with fail
    refine (few_any a n cap _).mono ?_; rintro e w' ⟨rfl, rfl⟩
    go_wp2_with fail
    refine (new_any a n cap _).mono ?_; rintro e w' ⟨rfl, rfl⟩
    have Hdk := Lib.hid (deck_law (cap := cap) hn HR.out hb1)
    have HB1 := Lib.hid (hb1.alloc hb1.size (.cells #[.slice a n cap, .int .i64 0, .int .u64 11400714819323198485] 106))
    have zB1 := hb1.size
    clear hb1 HR hd
    go_wp2_with fail
    refine (schema_deal _ _ Hdk.out).mono ?_
    rintro e w2 ⟨vf, vt, vn, vs, s, rfl, hs, hsd, mv⟩
    obtain ⟨Wd, hWd⟩ : ∃ Wd : World, w1.alloc (.cells #[.slice a n cap, .int .i64 0, .int .u64 11400714819323198485] 106) = Wd := ⟨_, rfl⟩
    rw [hWd] at mv hs HB1
    obtain ⟨D, hD⟩ : ∃ D, w1.heap.size = D := ⟨_, rfl⟩
    have zWd : Wd.heap.size = D + 1 := by rw [← hWd, ← hD]; simp
    rw [hD] at mv zB1 ⊢
    obtain ⟨af, cf, rfl⟩ := hs.1.slice
    obtain ⟨at', ct, rfl⟩ := hs.2.1.slice
    obtain ⟨an, cn, rfl⟩ := hs.2.2.1.slice
    obtain ⟨as', cs, rfl⟩ := hs.2.2.2.slice
    have zD := mv.deck.lt
    have hlen5 := (check_fields hsd.check).1.2
    have hlen1 := hsd.some
    have hlen1000 : s.fields.length ≤ 1000 := by omega
    have HL1000 := Lib.hid hlen1000
    obtain ⟨N, hN⟩ : ∃ N, s.fields.length = N := ⟨_, rfl⟩
    rw [hN] at hlen5 hlen1 hs ⊢
    have M2 := Lib.hid mv; have HS := Lib.hid hs; have HSD := Lib.hid hsd; have HNN := Lib.hid hN
    clear mv hs hsd hWd hD Hdk hN hlen1000
    go_wp2_with fail
    refine wp_calls_world (fun W3 hW3 => ?_)
    have hb3 : Below w2.heap.size w2 W3 := by rw [hW3]; exact (Below.refl w2.heap.size w2).alloc (Nat.le_refl _) _
    have hs3 : W3.heap[w2.heap.size]? = some (.cells #[.slice af N cf, .slice at' s.rules.titles.length ct, .slice an s.rules.nicks.length cn, .slice as' s.rules.streets.length cs] 33 (0, 0)) := by rw [hW3]; exact blk_new rfl
    have M3 := Lib.hid (M2.out.below hb3); have HS3 := Lib.hid hs3; have HSA := Lib.hid (HS.out.below hb3)
    have z23 := M2.out.size
    have hSne : ∀ b, Wd.heap.size ≤ b → b ≠ D := fun b h => by omega
    have HNe := Lib.hid hSne
    clear hb3 hs3 HS hW3 M2 hSne
    have hkd := keys_deal D (fun b => Wd.heap.size ≤ b) (.slice af N cf) (.slice at' s.rules.titles.length ct) (.slice an s.rules.nicks.length cn) (.slice as' s.rules.streets.length cs) s 3 W3 M3.out.deck HSA.out HNe.out HSD.out (by decide)
    refine hkd.mono ?_
    rintro e w4 ⟨kv, Ks, rfl, hkv, hK3, hKok, mv⟩
    obtain ⟨ak, ck, rfl⟩ := hkv.slice
    have HKO := Lib.hid (show KeysOk s.fields Ks from ⟨by omega, hKok⟩)
    have M4 := Lib.hid (M3.out.trans mv)
    have HS4 := Lib.hid (mv.blk (k := w2.heap.size) (by omega) HS3.out)
    have HSA4 := Lib.hid (HSA.out.moved HNe.out mv)
    have HKV4 := Lib.hid (hkv.move (T := fun b => Wd.heap.size ≤ b) (w' := w4) (Nat.le_refl _) fun b hb hs => ⟨rfl, by have h1 := M3.out.size; have hs' : W3.heap.size ≤ b := hs; show Wd.heap.size ≤ b; omega⟩)
    clear hkv hKok mv M3 HS3 HSA hkd
    have KA := Lib.hid (show LsAt D Wd w2.heap.size (fun b => Wd.heap.size ≤ b) (.slice af N cf) (.slice at' s.rules.titles.length ct) (.slice an s.rules.nicks.length cn) (.slice as' s.rules.streets.length cs) s (.slice ak Ks.length ck) Ks w4 from
      ⟨M4.out, HS4.out, HSA4.out, HKV4.out, HNe.out, by omega⟩)
    obtain ⟨p0, p1, p2, p3⟩ := cellsS KA.out.b
    have mD : Moved D w4 w4.drew := (Moved.start KA.out.m.deck).drew
    have zW4 := KA.out.m.size
    clear M4 HS4 HSA4 HKV4
    go_wp2_with fail
    go_cut [6, 7] (fun s6 s7 wx => ∃ (ka : Nat) (rv : Value) (k : Int × Int) (R : List RecL), s6 = .pointer (some ⟨ka, 0, none⟩) ∧ s7 = rv ∧ wx.heap[ka]? = some (.cells #[.int .u64 k.1, .int .u64 k.2] 39 (0, 0)) ∧ RecsVec wx (fun b => D < b ∧ b ≠ ka) rv R ∧ Hid (RecsOk s R) ∧ R.length ≤ 7 ∧ Hid (R.Pairwise fun x y => x.id < y.id) ∧ Moved D w4 wx ∧ w4.heap.size ≤ ka)
    case first =>
      have zW5 := KA.out.m.deck.lt
      refine wp_region_noPanic ?_
      refine wp_region_held_drew (S := (fun w' => w'.cell? ⟨w2.heap.size, 0, none⟩ = some (.slice af N cf) ∧ w'.cell? ⟨w2.heap.size, 1, none⟩ = some (.slice at' s.rules.titles.length ct) ∧ w'.cell? ⟨w2.heap.size, 2, none⟩ = some (.slice an s.rules.nicks.length cn) ∧ w'.cell? ⟨w2.heap.size, 3, none⟩ = some (.slice as' s.rules.streets.length cs))) (by kernel_rfl) (⟨p0, p1, p2, p3⟩) (fun hHeld => ?_)
      refine wpAnyH_take (i := 0) (v := ?_) rfl (by kernel_rfl) (by kernel_rfl) (by kernel_rfl) (fun _ _ _ h => h) (Or.inl ⟨by rfl, ?_⟩) (by assumption) ?_
      rotate_left 1
      · (intro wS hSw; (try dsimp only at hSw); go_simp; try with_reducible rfl)
      try simp only [List.getElem_toArray, List.getElem_cons_zero, List.getElem_cons_succ, Act.put, List.setIfInBounds_toArray, List.set_cons_zero, List.set_cons_succ]
      refine wpAnyH_take (i := 2) (v := ?_) rfl (by kernel_rfl) (by kernel_rfl) (by kernel_rfl) (fun _ _ _ h => h) (Or.inl ⟨by rfl, ?_⟩) (by assumption) ?_
      rotate_left 1
      · (intro wS hSw; (try dsimp only at hSw); go_simp; try with_reducible rfl)
      try simp only [List.getElem_toArray, List.getElem_cons_zero, List.getElem_cons_succ, Act.put, List.setIfInBounds_toArray, List.set_cons_zero, List.set_cons_succ]
      refine wpAnyH_take (i := 3) (v := ?_) rfl (by kernel_rfl) (by kernel_rfl) (by kernel_rfl) (fun _ _ _ h => h) (Or.inl ⟨by rfl, ?_⟩) (by assumption) ?_
      rotate_left 1
      · (intro wS hSw; (try dsimp only at hSw); go_simp; try with_reducible rfl)
      try simp only [List.getElem_toArray, List.getElem_cons_zero, List.getElem_cons_succ, Act.put, List.setIfInBounds_toArray, List.set_cons_zero, List.set_cons_succ]
      refine wpAnyH_ready (rs := [1, 5]) (by kernel_rfl) (by simp) ?_
      refine AllReadyH.cons rfl (fun K hK => ?_) (AllReadyH.cons rfl (fun K hK => ?_) (AllReadyH.nil))
      focus
        go_simp
        refine (key_deal D _ (KA.out.moved mD).m.deck).mono ?_
        rintro e V1 ⟨k, rfl, mv⟩
        have m1 := mD.trans mv
        clear mv
        refine hK.out _ _ (⟨(cellsS (KA.out.moved (m1)).b).1, (cellsS (KA.out.moved (m1)).b).2.1, (cellsS (KA.out.moved (m1)).b).2.2.1, (cellsS (KA.out.moved (m1)).b).2.2.2⟩) (fun hHeld => ?_)
        clear hK K
        try simp only [List.getElem_toArray, List.getElem_cons_zero, List.getElem_cons_succ, Act.put, List.setIfInBounds_toArray, List.set_cons_zero, List.set_cons_succ]
        refine wpAnyH_ready (rs := [4, 5]) (by kernel_rfl) (by simp) ?_
        refine AllReadyH.cons rfl (fun K hK => ?_) (AllReadyH.cons rfl (fun K hK => ?_) (AllReadyH.nil))
        focus
          go_simp
          refine (records_deal D (fun b => Wd.heap.size ≤ b) _ _ _ _ s 7 _ (KA.out.moved m1).m.deck (KA.out.moved m1).s HNe.out HSD.out (by decide)).mono ?_
          rintro e V2 ⟨rv, R, rfl, hv, hok, hRl, hasc, mv⟩
          have m2 := m1.trans mv
          have hv := hv.move (T := fun b => D < b) (w' := V2) (Nat.le_refl _) fun b hb' hs => ⟨rfl, by have h1 := m1.size; have hs' := hs; omega⟩
          have HROk := Lib.hid hok; have HAscR := Lib.hid hasc; clear hok hasc mv
          refine hK.out _ _ (⟨(cellsS (KA.out.moved (m2)).b).1, (cellsS (KA.out.moved (m2)).b).2.1, (cellsS (KA.out.moved (m2)).b).2.2.1, (cellsS (KA.out.moved (m2)).b).2.2.2⟩) (fun hHeld => ?_)
          clear hK K
          try simp only [List.getElem_toArray, List.getElem_cons_zero, List.getElem_cons_succ, Act.put, List.setIfInBounds_toArray, List.set_cons_zero, List.set_cons_succ]
          refine wpAnyH_ready (rs := [5]) (by kernel_rfl) (by simp) ?_
          refine AllReadyH.cons rfl (fun K hK => ?_) (AllReadyH.nil)
          go_simp
          refine hK.out _ _ (⟨(cellsS (KA.out.moved (m2.alloc (.cells #[.int .u64 0, .int .u64 0] 39))).b).1, (cellsS (KA.out.moved (m2.alloc (.cells #[.int .u64 0, .int .u64 0] 39))).b).2.1, (cellsS (KA.out.moved (m2.alloc (.cells #[.int .u64 0, .int .u64 0] 39))).b).2.2.1, (cellsS (KA.out.moved (m2.alloc (.cells #[.int .u64 0, .int .u64 0] 39))).b).2.2.2⟩) (fun hHeld => ?_)
          clear hK K
          try simp only [List.getElem_toArray, List.getElem_cons_zero, List.getElem_cons_succ, Act.put, List.setIfInBounds_toArray, List.set_cons_zero, List.set_cons_succ]
          refine wph_name (fun V3 hV => ?_)
          have m3 : Moved D w4 V3 := by rw [hV]; exact m2.alloc (.cells #[.int .u64 0, .int .u64 0] 39)
          have gA : V3.heap[V2.heap.size]? = some (.cells #[.int .u64 0, .int .u64 0] 39 (0, 0)) := by rw [hV]; exact blk_new rfl
          have hrA : w4.heap.size ≤ V2.heap.size := m2.size
          have hv := hv.move (T := fun b => D < b ∧ b ≠ V2.heap.size) (w' := V3) (by rw [hV]; simp) fun b hb' hs => ⟨by rw [hV]; exact heap_alloc_old _ _ hb', by have hs' := hs; omega⟩
          clear hV hHeld
          have hHeld : V3.cell? ⟨w2.heap.size, 0, none⟩ = some (.slice af N cf) ∧ V3.cell? ⟨w2.heap.size, 1, none⟩ = some (.slice at' s.rules.titles.length ct) ∧ V3.cell? ⟨w2.heap.size, 2, none⟩ = some (.slice an s.rules.nicks.length cn) ∧ V3.cell? ⟨w2.heap.size, 3, none⟩ = some (.slice as' s.rules.streets.length cs) := ⟨(cellsS (KA.out.moved (m3)).b).1, (cellsS (KA.out.moved (m3)).b).2.1, (cellsS (KA.out.moved (m3)).b).2.2.1, (cellsS (KA.out.moved (m3)).b).2.2.2⟩
        rotate_left 1
        focus
          go_simp
          refine hK.out _ _ (⟨(cellsS (KA.out.moved (m1.alloc (.cells #[.int .u64 0, .int .u64 0] 39))).b).1, (cellsS (KA.out.moved (m1.alloc (.cells #[.int .u64 0, .int .u64 0] 39))).b).2.1, (cellsS (KA.out.moved (m1.alloc (.cells #[.int .u64 0, .int .u64 0] 39))).b).2.2.1, (cellsS (KA.out.moved (m1.alloc (.cells #[.int .u64 0, .int .u64 0] 39))).b).2.2.2⟩) (fun hHeld => ?_)
          clear hK K
          try simp only [List.getElem_toArray, List.getElem_cons_zero, List.getElem_cons_succ, Act.put, List.setIfInBounds_toArray, List.set_cons_zero, List.set_cons_succ]
          refine wph_name (fun V2 hV => ?_)
          have m2 : Moved D w4 V2 := by rw [hV]; exact m1.alloc (.cells #[.int .u64 0, .int .u64 0] 39)
          have gA : V2.heap[V1.heap.size]? = some (.cells #[.int .u64 0, .int .u64 0] 39 (0, 0)) := by rw [hV]; exact blk_new rfl
          have hrA : w4.heap.size ≤ V1.heap.size := m1.size
          clear hV hHeld
          have hHeld : V2.cell? ⟨w2.heap.size, 0, none⟩ = some (.slice af N cf) ∧ V2.cell? ⟨w2.heap.size, 1, none⟩ = some (.slice at' s.rules.titles.length ct) ∧ V2.cell? ⟨w2.heap.size, 2, none⟩ = some (.slice an s.rules.nicks.length cn) ∧ V2.cell? ⟨w2.heap.size, 3, none⟩ = some (.slice as' s.rules.streets.length cs) := ⟨(cellsS (KA.out.moved (m2)).b).1, (cellsS (KA.out.moved (m2)).b).2.1, (cellsS (KA.out.moved (m2)).b).2.2.1, (cellsS (KA.out.moved (m2)).b).2.2.2⟩
          refine wpAnyH_ready (rs := [4]) (by kernel_rfl) (by simp) ?_
          refine AllReadyH.cons rfl (fun K hK => ?_) (AllReadyH.nil)
          go_simp
          refine (records_deal D (fun b => Wd.heap.size ≤ b) _ _ _ _ s 7 _ (KA.out.moved m2).m.deck (KA.out.moved m2).s HNe.out HSD.out (by decide)).mono ?_
          rintro e V3 ⟨rv, R, rfl, hv, hok, hRl, hasc, mv⟩
          have m3 := m2.trans mv
          have hltgA := lt_of_blk gA; have gA := mv.blk (by omega) gA
          have hv := hv.move (T := fun b => D < b ∧ b ≠ V1.heap.size) (w' := V3) (Nat.le_refl _) fun b hb' hs => ⟨rfl, by have h1 := m2.size; have hs' := hs; omega⟩
          have HROk := Lib.hid hok; have HAscR := Lib.hid hasc; clear hok hasc mv
          refine hK.out _ _ (⟨(cellsS (KA.out.moved (m3)).b).1, (cellsS (KA.out.moved (m3)).b).2.1, (cellsS (KA.out.moved (m3)).b).2.2.1, (cellsS (KA.out.moved (m3)).b).2.2.2⟩) (fun hHeld => ?_)
          clear hK K
          try simp only [List.getElem_toArray, List.getElem_cons_zero, List.getElem_cons_succ, Act.put, List.setIfInBounds_toArray, List.set_cons_zero, List.set_cons_succ]
      rotate_left 2
      focus
        go_simp
        refine hK.out _ _ (⟨(cellsS (KA.out.moved (mD.alloc (.cells #[.int .u64 0, .int .u64 0] 39))).b).1, (cellsS (KA.out.moved (mD.alloc (.cells #[.int .u64 0, .int .u64 0] 39))).b).2.1, (cellsS (KA.out.moved (mD.alloc (.cells #[.int .u64 0, .int .u64 0] 39))).b).2.2.1, (cellsS (KA.out.moved (mD.alloc (.cells #[.int .u64 0, .int .u64 0] 39))).b).2.2.2⟩) (fun hHeld => ?_)
        clear hK K
        try simp only [List.getElem_toArray, List.getElem_cons_zero, List.getElem_cons_succ, Act.put, List.setIfInBounds_toArray, List.set_cons_zero, List.set_cons_succ]
        refine wph_name (fun V1 hV => ?_)
        have m1 : Moved D w4 V1 := by rw [hV]; exact mD.alloc (.cells #[.int .u64 0, .int .u64 0] 39)
        have gA : V1.heap[w4.heap.size]? = some (.cells #[.int .u64 0, .int .u64 0] 39 (0, 0)) := by rw [hV]; exact blk_new rfl
        have hrA : w4.heap.size ≤ w4.heap.size := mD.size
        clear hV hHeld
        have hHeld : V1.cell? ⟨w2.heap.size, 0, none⟩ = some (.slice af N cf) ∧ V1.cell? ⟨w2.heap.size, 1, none⟩ = some (.slice at' s.rules.titles.length ct) ∧ V1.cell? ⟨w2.heap.size, 2, none⟩ = some (.slice an s.rules.nicks.length cn) ∧ V1.cell? ⟨w2.heap.size, 3, none⟩ = some (.slice as' s.rules.streets.length cs) := ⟨(cellsS (KA.out.moved (m1)).b).1, (cellsS (KA.out.moved (m1)).b).2.1, (cellsS (KA.out.moved (m1)).b).2.2.1, (cellsS (KA.out.moved (m1)).b).2.2.2⟩
        refine wpAnyH_ready (rs := [1]) (by kernel_rfl) (by simp) ?_
        refine AllReadyH.cons rfl (fun K hK => ?_) (AllReadyH.nil)
        go_simp
        refine (key_deal D _ (KA.out.moved m1).m.deck).mono ?_
        rintro e V2 ⟨k, rfl, mv⟩
        have m2 := m1.trans mv
        have hltgA := lt_of_blk gA; have gA := mv.blk (by omega) gA
        clear mv
        refine hK.out _ _ (⟨(cellsS (KA.out.moved (m2)).b).1, (cellsS (KA.out.moved (m2)).b).2.1, (cellsS (KA.out.moved (m2)).b).2.2.1, (cellsS (KA.out.moved (m2)).b).2.2.2⟩) (fun hHeld => ?_)
        clear hK K
        try simp only [List.getElem_toArray, List.getElem_cons_zero, List.getElem_cons_succ, Act.put, List.setIfInBounds_toArray, List.set_cons_zero, List.set_cons_succ]
        refine wpAnyH_ready (rs := [4]) (by kernel_rfl) (by simp) ?_
        refine AllReadyH.cons rfl (fun K hK => ?_) (AllReadyH.nil)
        go_simp
        refine (records_deal D (fun b => Wd.heap.size ≤ b) _ _ _ _ s 7 _ (KA.out.moved m2).m.deck (KA.out.moved m2).s HNe.out HSD.out (by decide)).mono ?_
        rintro e V3 ⟨rv, R, rfl, hv, hok, hRl, hasc, mv⟩
        have m3 := m2.trans mv
        have hltgA := lt_of_blk gA; have gA := mv.blk (by omega) gA
        have hv := hv.move (T := fun b => D < b ∧ b ≠ w4.heap.size) (w' := V3) (Nat.le_refl _) fun b hb' hs => ⟨rfl, by have h1 := m2.size; have hs' := hs; omega⟩
        have HROk := Lib.hid hok; have HAscR := Lib.hid hasc; clear hok hasc mv
        refine hK.out _ _ (⟨(cellsS (KA.out.moved (m3)).b).1, (cellsS (KA.out.moved (m3)).b).2.1, (cellsS (KA.out.moved (m3)).b).2.2.1, (cellsS (KA.out.moved (m3)).b).2.2.2⟩) (fun hHeld => ?_)
        clear hK K
        try simp only [List.getElem_toArray, List.getElem_cons_zero, List.getElem_cons_succ, Act.put, List.setIfInBounds_toArray, List.set_cons_zero, List.set_cons_succ]
      all_goals
        have lA := lt_of_blk gA; obtain ⟨xA0, xA1⟩ := cells2K gA; have fA0 := frozen_of_row _ _ 0 _ _ gA; have fA1 := frozen_of_row _ _ 1 _ _ gA
        have ms := (m3.set (a := ⟨_, 0, none⟩) hrA (.int .u64 k.1)).set (a := ⟨_, 1, none⟩) hrA (.int .u64 k.2)
        refine wpAnyH_ready (rs := [6]) (by kernel_rfl) (by simp) ?_
        refine AllReadyH.cons rfl (fun K hK => ?_) AllReadyH.nil
        go_simp
        refine hK.out _ _ (⟨(cellsS (KA.out.moved (ms)).b).1, (cellsS (KA.out.moved (ms)).b).2.1, (cellsS (KA.out.moved (ms)).b).2.2.1, (cellsS (KA.out.moved (ms)).b).2.2.2⟩) (fun hHeld => ?_)
        clear hK K
        try simp only [List.getElem_toArray, List.getElem_cons_zero, List.getElem_cons_succ, Act.put, List.setIfInBounds_toArray, List.set_cons_zero, List.set_cons_succ]
        refine wpAnyH_take (i := 7) (v := ?_) rfl (by kernel_rfl) (by kernel_rfl) (by kernel_rfl) (fun _ _ _ h => h) (Or.inl ⟨by rfl, ?_⟩) (by assumption) ?_
        rotate_left 1
        · (intro wS hSw; (try dsimp only at hSw); go_simp; try with_reducible rfl)
        try simp only [List.getElem_toArray, List.getElem_cons_zero, List.getElem_cons_succ, Act.put, List.setIfInBounds_toArray, List.set_cons_zero, List.set_cons_succ]
        refine wpAnyH_done (by kernel_rfl) ?_ _
        refine NoPanic.normal ?_
        go_wp2_with fail
        go_meet
        exact ⟨_, _, k, R, rfl, rfl, blk_set (blk_set gA), (hv.far (fun b hb => hb.2)).far (fun b hb => hb.2), HROk, hRl, HAscR, ms, hrA⟩
    case rest =>
      obtain ⟨wB, hwB⟩ : ∃ u, u = wc := ⟨_, rfl⟩
      subst hwB
      obtain ⟨ka, rv, k, R, rfl, rfl, gk, hrv, HROk, hR7, HAscR, mw, hka⟩ := hcut
      obtain ⟨ar, cr, rfl⟩ := hrv.slice
      have zw4 := KA.out.m.deck.lt
      have KC := Lib.hid (show LbAt D Wd w2.heap.size ka (fun b => Wd.heap.size ≤ b) (.slice af N cf) (.slice at' s.rules.titles.length ct) (.slice an s.rules.nicks.length cn) (.slice as' s.rules.streets.length cs) s (.slice ak Ks.length ck) Ks k wB from (KA.out.moved mw).key gk (by omega))
      have HRV := Lib.hid hrv.any
      obtain ⟨q0, q1, q2, q3⟩ := cellsS KC.out.b
      obtain ⟨e0, e3⟩ := cells2K KC.out.kk
      clear p0 p1 p2 p3 mD KA mw gk hrv
      go_wp2_with fail
      refine (bAll_yes (fun b => Wd.heap.size ≤ b) (fun b => Wd.heap.size ≤ b) (.slice af N cf) (.slice at' s.rules.titles.length ct) (.slice an s.rules.nicks.length cn) (.slice as' s.rules.streets.length cs) (.slice ak Ks.length ck) _ s k Ks R wB KC.out.s KC.out.ks HRV.out HROk.out HL1000.out HKO.out).mono ?_
      rintro e w7 ⟨v7, rfl, hv7, hb⟩
      obtain ⟨Ls, hLs⟩ : ∃ Ls, blksN k Ks R Ks.length = Ls := ⟨_, rfl⟩
      rw [hLs] at hv7
      have hLl : Ls.length = Ks.length := by rw [← hLs, blksN_len]
      obtain ⟨al, cl, rfl⟩ := hv7.slice
      have HV7 := Lib.hid hv7; have HLs := Lib.hid hLs; have HLl := Lib.hid hLl; have HB7 := Lib.hid hb
      have K7 := Lib.hid (KC.out.below hb); have HRV7 := Lib.hid (HRV.out.below hb)
      have dne : ((Ls.length : Int) != (Ks.length : Int)) = false := by rw [hLl]; simp
      have dz : ((0 : Int) != 0) = false := rfl
      clear hb hv7 hLs q0 q1 q2 q3 e0 e3 KC HRV hLl
      go_wp2_with fail
      go_loopw [60] (fun t wr => ∃ j : Nat, t = .int .i64 j ∧ j ≤ Ks.length ∧ Below w7.heap.size w7 wr) (fun t _ => Ks.length - (intOf t).toNat)
      case atStart => exact ⟨0, rfl, by omega, Below.refl _ _⟩
      case round =>
        obtain ⟨j, rfl, hj, hbw⟩ := hrel
        obtain ⟨wo, rfl⟩ : ∃ wo : World, wo = wr := ⟨_, rfl⟩
        have HBo := Lib.hid hbw
        by_cases hlt : j < Ks.length
        · have hq : decide ((j : Int) < (Ks.length : Int)) = true := by simp; omega
          have hji : (j : Int) < (Ks.length : Int) := by omega
          have hjl : j < Ls.length := by rw [HLl.out]; exact hlt
          have hjli : (j : Int) < (Ls.length : Int) := by omega
          obtain ⟨K, hK⟩ : ∃ K, Ks.getD j [] = K := ⟨_, rfl⟩
          have hLj : Ls[j] = blocksN k j K R := by
            have : ∀ (M : List (List BkP)) (hm : j < M.length), blksN k Ks R Ks.length = M → M[j] = blocksN k j K R := by
              rintro M hm rfl
              rw [blksN_get, hK]
            exact this Ls hjl HLs.out
          have HLj := Lib.hid hLj; have HKK := Lib.hid hK
          clear hLj hK hbw
          go_wp2_with fail
          go_loopw [65] (fun t wr => ∃ i : Nat, t = .int .i64 i ∧ i ≤ R.length ∧ Below w7.heap.size w7 wr) (fun t _ => R.length - (intOf t).toNat)
          case atStart => exact ⟨0, rfl, by omega, HBo.out⟩
          case round =>
            obtain ⟨i, rfl, hi, hbw⟩ := hrel
            obtain ⟨wu, rfl⟩ : ∃ wu : World, wu = wr := ⟨_, rfl⟩
            have HBu := Lib.hid hbw
            by_cases hil : i < R.length
            · have hq2 : decide ((i : Int) < (R.length : Int)) = true := by simp; omega
              have hii : (i : Int) < (R.length : Int) := by omega
              obtain ⟨rb, ro, rid, rver, ra, rn, rc, vals, rfl, lrb, r0, r1, r2, hRi, hvv⟩ := (HRV7.out.below hbw).at i hil
              have hmem : (⟨rid, rver, vals⟩ : RecL) ∈ R := by rw [← hRi]; exact List.getElem_mem hil
              have hck := (allN_ok HROk.out.all).2.2 _ hmem
              have hsh := HROk.out.short _ hmem
              obtain ⟨⟨h, ok⟩, hh⟩ : ∃ p, bhashN k j (K.map (compN vals)) = p := ⟨_, rfl⟩
              have hcnt := blocks_cnt k j K HAscR.out hmem
              have hP1 : ∀ b ∈ blocksN k j K R, rid ∈ b.2 → b.1 = h ∧ ok = true := fun b hb hx => by
                have := blocks_hash k j K HAscR.out hmem hb hx
                rw [hh] at this
                exact ⟨(congrArg Prod.fst this).symm, congrArg Prod.snd this⟩
              dsimp only at hcnt
              rw [hh] at hcnt
              have hsm := blocks_small k j K R
              rw [← HLj.out] at hP1 hcnt hsm
              have hvl := hvv.len.1
              subst hvl
              have KE := Lib.hid (K7.out.below hbw)
              obtain ⟨q0, q1, q2, q3⟩ := cellsS KE.out.b
              obtain ⟨e0, e3⟩ := cells2K KE.out.kk
              have ly := lt_of_blk KE.out.b; have lk := lt_of_blk KE.out.kk
              have HV := Lib.hid hvv; have HH := Lib.hid hh; have HCnt := Lib.hid hcnt; have HP1 := Lib.hid hP1; have HCk := Lib.hid hck; have HSh := Lib.hid hsh
              clear hRi hvv hmem hck hsh hh hcnt hP1 hbw
              go_wp2_with fail
              refine wp_calls_world (fun W8 hW8 => ?_)
              have hb8 : Below wu.heap.size wu W8 := by rw [hW8]; exact (Below.refl wu.heap.size wu).alloc (Nat.le_refl _) _
              have hx8 : W8.heap[wu.heap.size]? = some (.cells #[.int .i64 rid, .int .i64 rver, .slice ra vals.length rc] 42 (0, 0)) := by rw [hW8]; exact blk_new rfl
              clear hW8
              have hc := bHash_yes (fun b => Wd.heap.size ≤ b) (fun b => Wd.heap.size ≤ b) (.slice af N cf) (.slice at' s.rules.titles.length ct) (.slice an s.rules.nicks.length cn) (.slice as' s.rules.streets.length cs) (.slice ak Ks.length ck) s k Ks j ⟨rid, rver, vals⟩ (.slice ra vals.length rc) W8 (KE.out.below hb8).s (KE.out.below hb8).ks (HV.out.below hb8).any HCk.out HSh.out HL1000.out HKO.out hlt
              rw [HKK.out] at hc
              dsimp only at hc
              rw [HH.out] at hc
              refine hc.mono ?_
              rintro e w9 ⟨rfl, hb⟩
              have hb9 := HBu.out.trans ((hb8.trans (hb.mono hb8.size)).mono HBu.out.size)
              have hx9 := blk_below hb (lt_of_blk hx8) hx8
              have HB9 := Lib.hid hb9; have HX9 := Lib.hid hx9
              obtain ⟨lb, lo, c, rfl, llb, c0, hbl⟩ := (HV7.out.below hb9).at j hjl
              obtain ⟨ca, cn', cc⟩ := c
              dsimp only at c0 hbl
              obtain ⟨B, hB⟩ : ∃ B, Ls[j] = B := ⟨_, rfl⟩
              rw [hB] at hbl HCnt HP1 hsm
              have hB7 : B.length ≤ 7 := by have := hsm.1; omega
              have HSm := Lib.hid hsm.2
              clear hsm
              obtain ⟨ab', cb', eb⟩ := hbl.slice
              cases eb
              have HBL := Lib.hid hbl
              have lx9 := lt_of_blk hx9
              clear hc hb hb8 hx8 hb9 hx9 hbl hB q0 q1 q2 q3 e0 e3 r0 r1 r2 lrb KE HV HH ly lk
              go_wp2_with fail
              have hle1 : cntB rid B ≤ 1 := by rw [HCnt.out]; split <;> omega
              go_loopw [16, 84] (fun v t wr => ∃ q : Nat, v = .int .i64 ((cntB rid (B.take q) : Nat) : Int) ∧ t = .int .i64 q ∧ q ≤ B.length ∧ Below w9.heap.size w9 wr) (fun _ t _ => B.length - (intOf t).toNat)
              case atStart => exact ⟨0, rfl, rfl, by omega, Below.refl _ _⟩
              case round =>
                obtain ⟨q, rfl, rfl, hq3, hbw⟩ := hrel
                obtain ⟨wv, rfl⟩ : ∃ wv : World, wv = wr := ⟨_, rfl⟩
                have HBv := Lib.hid hbw
                by_cases hql : q < B.length
                · have hq4 : decide ((q : Int) < (B.length : Int)) = true := by simp; omega
                  have hqi : (q : Int) < (B.length : Int) := by omega
                  obtain ⟨bb, bo, xb, rfl, lbb, b0, b1, hxn, hvi⟩ := (HBL.out.below hbw).at q hql
                  obtain ⟨⟨bh, ids⟩, hBq⟩ : ∃ p, B[q] = p := ⟨_, rfl⟩
                  have hsn := cntB_snoc rid B q hql
                  have hmm : (bh, ids) ∈ B := by rw [← hBq]; exact List.getElem_mem hql
                  have hup := cntB_le rid B (q + 1)
                  rw [hBq] at b0 hxn hvi hsn
                  dsimp only at b0 hxn hvi hsn
                  obtain ⟨xh, xa, xn, xc, xi⟩ := xb
                  dsimp only at hxn
                  subst hxn
                  have hPq := HP1.out _ hmm
                  have hi7 : ids.length ≤ 7 := by have := HSm.out _ hmm; dsimp only at this; omega
                  dsimp only at hPq
                  obtain ⟨n0, hn0⟩ : ∃ n0, cntB rid (B.take q) = n0 := ⟨_, rfl⟩
                  rw [hn0] at hsn
                  rw [hn0]
                  have r0 := (hbw.cell (p := ⟨wu.heap.size, 0, none⟩) lx9).trans (cells3 HX9.out).1
                  have lxv := Nat.lt_of_lt_of_le lx9 hbw.size
                  have HVi := Lib.hid hvi; have HSn := Lib.hid hsn; have HPq := Lib.hid hPq; have HUp := Lib.hid hup
                  clear hBq hvi hsn hPq hbw hmm hn0 hup
                  go_wp2_with fail
                  refine wp_world (fun Wb hWb => ?_)
                  have hbb : Below wv.heap.size wv Wb := by rw [hWb]; exact (Below.refl wv.heap.size wv).alloc (Nat.le_refl _) _
                  have hxb : Wb.heap[wv.heap.size]? = some (.cells #[.int .u64 bh, .slice xa ids.length xc] 73 (0, 0)) := by rw [hWb]; exact blk_new rfl
                  have r1 := (hbb.cell (p := ⟨wu.heap.size, 0, none⟩) lxv).trans r0
                  have HBb := Lib.hid (HBv.out.trans (hbb.mono HBv.out.size)); have HVb := Lib.hid (HVi.out.below hbb)
                  obtain ⟨y0, y1⟩ := cells2K hxb
                  have lxb := lt_of_blk hxb
                  have lxw := Nat.lt_of_lt_of_le lxv hbb.size
                  clear hWb hbb hxb r0 b0 b1 lbb lxv HVi
                  go_wp2_with fail
                  go_loopw [16, 91] (fun v t wr => ∃ m : Nat, v = .int .i64 ((n0 + cntI rid (ids.take m) : Nat) : Int) ∧ t = .int .i64 m ∧ m ≤ ids.length ∧ Below Wb.heap.size Wb wr) (fun _ t _ => ids.length - (intOf t).toNat)
                  case atStart => exact ⟨0, rfl, rfl, by omega, Below.refl _ _⟩
                  case round =>
                    obtain ⟨m, rfl, rfl, hm, hbw⟩ := hrel
                    have HBx := Lib.hid hbw
                    by_cases hml : m < ids.length
                    · have hq5 : decide ((m : Int) < (ids.length : Int)) = true := by simp; omega
                      have hmi : (m : Int) < (ids.length : Int) := by omega
                      obtain ⟨ib, io, rfl, lib, hic⟩ := (HVb.out.below hbw).get m hml
                      have i0 := hic 0 _ rfl
                      rw [Nat.mul_one, Nat.add_zero] at i0
                      obtain ⟨idm, hidm⟩ : ∃ z, ids[m] = z := ⟨_, rfl⟩
                      have hcs := cntI_snoc rid ids m hml
                      have hcl := cntI_le rid ids (m + 1)
                      have hidin : idm ∈ ids := by rw [← hidm]; exact List.getElem_mem hml
                      rw [hidm] at i0 hcs
                      obtain ⟨n1, hn1⟩ : ∃ n1, cntI rid (ids.take m) = n1 := ⟨_, rfl⟩
                      rw [hn1] at hcs
                      rw [hn1]
                      have hsn := HSn.out; have hup := HUp.out
                      have r2 := (hbw.cell (p := ⟨wu.heap.size, 0, none⟩) lxw).trans r1
                      have y0' := (hbw.cell (p := ⟨wv.heap.size, 0, none⟩) lxb).trans y0
                      have hn2 : n0 + n1 ≤ 1 := by omega
                      clear hic hidm hn1 hbw
                      by_cases he : idm = rid
                      · have hq6 : (idm == rid) = true := by simpa using he
                        rw [if_pos he] at hcs
                        obtain ⟨hb1, hb2⟩ := HPq.out (by rw [← he]; exact hidin)
                        subst hb1 hb2
                        have HCs := Lib.hid hcs
                        clear hcs hcl hidin hsn hup he
                        go_wp2_with fail
                        go_roundw
                        case rel => exact ⟨m + 1, by rw [HCs.out]; go_num, by go_num, by omega, HBx.out⟩
                        case measure => simp [intOf]; omega
                      · have hq6 : (idm == rid) = false := by simpa using he
                        rw [if_neg he] at hcs
                        have HCs := Lib.hid hcs
                        clear hcs hcl hidin hsn hup he
                        go_wp2_with fail
                        go_roundw
                        case rel => exact ⟨m + 1, by rw [HCs.out]; go_num, by go_num, by omega, HBx.out⟩
                        case measure => simp [intOf]; omega
                    · have hq5 : decide ((m : Int) < (ids.length : Int)) = false := by simp; omega
                      obtain rfl : m = ids.length := by omega
                      rw [List.take_length]
                      go_wp2_with fail
                      go_roundw
                      case rel => exact ⟨q + 1, by rw [HSn.out], by go_num, by omega, HBb.out.trans (hbw.mono HBb.out.size)⟩
                      case measure => simp [intOf]; omega
                · have hq4 : decide ((q : Int) < (B.length : Int)) = false := by simp; omega
                  obtain rfl : q = B.length := by omega
                  rw [List.take_length, HCnt.out]
                  have hbz := HB9.out.trans (hbw.mono HB9.out.size)
                  have HBZ := Lib.hid hbz
                  clear hbz hbw HCnt
                  cases ok
                  all_goals go_wp2_with fail
                  all_goals go_roundw
                  all_goals first | exact ⟨i + 1, by go_num, by omega, HBZ.out⟩ | (simp [intOf]; omega)
            · have hq2 : decide ((i : Int) < (R.length : Int)) = false := by simp; omega
              go_wp2_with fail
              go_roundw
              case rel => exact ⟨j + 1, by go_num, by omega, hbw⟩
              case measure => simp [intOf]; omega
        · have hq : decide ((j : Int) < (Ks.length : Int)) = false := by simp; omega
          go_wp2_with fail
          go_ret
          exact ⟨rfl, (K7.out.below hbw).m.base HB1.out (by omega)⟩
  · have hd : decide (n ≤ 400) = false := by simpa using hn
    clear hr hn
    go_enter Tryz.func5, Tryz.ntmps5
    go_wp2_with fail
    refine (awake_b _).mono ?_; rintro e w1 ⟨rfl, hb1⟩
    go_wp2_with fail
    refine (few_any a n cap _).mono ?_; rintro e w' ⟨rfl, rfl⟩
    go_wp2_with fail
    refine (awake_b _).mono ?_; rintro e w2 ⟨rfl, hb2⟩
    go_wp2_with fail
    go_ret
    exact ⟨rfl, hb1.trans (hb2.mono hb1.size)⟩
end Go.Proofs.YthdolmofeeniaaaGreatDoor
end
section
namespace Go.Proofs.YthdolmofeeniaaaGreatDoor.blockingParts
open Go.ChangeShapes Go.WideShapes Go.ChangeAt Go.RowKit Go.Joins
open Go.ChangeMaps (open_string shut_string)
set_option linter.unusedVariables false

theorem own : ownKnob Tryz.prog.godebug = none := by kernel_rfl
theorem laidOut : laidOutB Tryz.prog = true := by kernel_rfl

set_option maxRecDepth 100000 in
theorem lifted (os : Os) (started : os.Started) (H : Type) (enc : TypeId × Value → H) :
    ReturnsInHanded {} Tryz.checked os 5 .any (fun w args => (Rows.blockingPartsSpec.pre enc Tryz.prog Tryz.f5 Rows.blockingPartsRow.domain false w args ∧ laidMetH Tryz.prog Rows.blockingPartsRow.laid w) ∧ sizedMet enc Tryz.prog Tryz.f5 (OpenSpec.ofChange Rows.blockingPartsSpec) false w args) (Rows.blockingPartsSpec.post enc Tryz.prog Tryz.f5 false true false false) := by
  refine returnsInHanded_of_change_and (C := Tryz.checked) (X := fun w _ => laidMetH Tryz.prog Rows.blockingPartsRow.laid w) (fun _ _ _ hh h => h.of_heap hh) own started (by kernel_rfl) Tryz.func5
    (ChangeSpec.witness_shaped (enc := enc) (C := Tryz.checked) (os := os) (X := fun w _ => laidMetH Tryz.prog Rows.blockingPartsRow.laid w) false (World.laidAll Tryz.prog os Rows.blockingPartsRow.laid) #[.slice none 0 0] 8 (World.laidAll_os _ _ _)
      (World.shaped_of_ZipB (by kernel_rfl) (by kernel_rfl)) (by kernel_rfl) (by kernel_rfl) (by kernel_rfl)
      (by rw [MakeChecks.laidMetH_plain _ _ _ (by kernel_rfl)]; exact laidMet_laidAll _ (by kernel_rfl) (by kernel_rfl))) ?_
  intro W base args ds gs before hval0 hW hcnd _ hLaid _
  have hval : ∀ (j : Nat) t v, Tryz.f5.params[j]? = some t → args[j]? = some v → Value.okWide Tryz.prog W .any base t v := hval0
  have hW' := hW
  obtain ⟨p, q, hA0, hV, rfl, hfz, hnd⟩ := hW
  have hA : DataW.TrodAll enc Tryz.prog W 0 (fun _ => true) true Tryz.f5.params.toList args.toList ds p := hA0
  rw [Tryz.params5] at hA hval
  obtain ⟨v0, vs0, d0, ds0, p0, q0, hargs, rfl, rfl, h0, r0⟩ := trodAll_cons hA
  obtain ⟨rfl, rfl, rfl⟩ := trodAll_nil r0
  obtain rfl : args = #[v0] := by cases args; simp_all
  obtain ⟨rfl, rfl⟩ := trodVars_none hV
  obtain ⟨a0, len0, cap0, rfl⟩ := okWide_slice Tryz.underlying22 (hval 0 22 v0 rfl rfl)
  have k0 := h0
  have lt0 : ∀ x ∈ p0, x.block < W.heap.size := by obtain ⟨m, hm⟩ := k0; exact DataW.trod_lt m _ _ _ hm
  obtain ⟨z0, w0⟩ : ∃ zs, IsRow .i64 W a0 len0 cap0 zs := by
    obtain ⟨fuel, hf⟩ := h0
    rcases open_ints Tryz.underlying22 Tryz.underlying3 (by kernel_rfl) hf with ⟨hcs, _⟩ | ⟨x, l, c, zs, hcs, _, hl, hm, hz, _, hcell, hwz⟩
    · simp [Value.cells] at hcs
      obtain ⟨rfl, rfl, rfl⟩ := hcs
      exact ⟨[], .inl ⟨rfl, rfl, rfl, rfl⟩⟩
    · simp [Value.cells] at hcs
      obtain ⟨rfl, rfl, rfl⟩ := hcs
      exact ⟨zs, .inr ⟨_, rfl, hl, hm, by simpa using hz, hcell, hwz⟩⟩
  clear hA0 hval0
  refine (bparts_walk a0 len0 cap0 z0 W w0).mono fun e W' ⟨he, bel⟩ => ?_
  subst he
  exact ⟨_, rfl, _, _, _, [], _, [], hW', trodAll_mk1 (shut_bool Tryz.underlying4 _), (trodAll_cons_mk (Below.trod laidOut (by kernel_rfl) (of_decide_eq_true (by kernel_rfl)) k0 bel lt0) trodAll_mk0), rfl, bel.frame _, fun h => by cases h⟩

set_option maxRecDepth 100000 in
set_option maxHeartbeats 100000000 in
theorem over : Rows.blockingPartsRow.holds Tryz.pinned (OpenSpec.ofChange Rows.blockingPartsSpec) :=
  OpenClaim.holds_of_wide 5 Tryz.f5 rfl rfl rfl rfl rfl rfl rfl ⟨rfl, rfl, rfl, rfl, rfl⟩ rfl rfl rfl rfl rfl (by as_aux_lemma => kernel_rfl) Tryz.func5 closed
    (of_decide_eq_true (by as_aux_lemma => kernel_rfl)) (by unfold Func.isWrapper; first | (rw [if_pos (by decide +kernel)]; kernel_rfl) | (rw [if_neg (by decide +kernel)]; exact ⟨rfl, rfl⟩))
    (fun os started H enc _ => lifted os started H enc)

set_option maxRecDepth 100000 in
set_option maxHeartbeats 100000000 in
/-- THE STATEMENT -/
theorem proved : Rows.BlockingPartsCardSaid :=
  Claim7.holds_tied_plain_at .later [] [.data, .data, .data, .data, .pinned] true (true, "ee02a60bc0bbaedd87ad1e8f70337cb2d1cbae18b663667a79cf4cb9bab4ee39") true
    over (fun _ h => by cases h) (by as_aux_lemma => kernel_rfl) (fun _ h => by cases h) blockingParts_row_tie rfl ⟨rfl, rfl⟩ (by as_aux_lemma => kernel_rfl) rfl
    (fun f fn hf hfn => by
      obtain rfl : f = 5 := Option.some.inj ((show Tryz.prog.funcNamed Rows.blockingPartsRow.func = some 5 by kernel_rfl).symm.trans hf) |>.symm
      obtain rfl : fn = Tryz.f5 := (Option.some.inj (Tryz.func5.symm.trans hfn)).symm
      exact ⟨by kernel_rfl, fun j t ht => by
        rw [Tryz.params5] at ht
        have hm : t ∈ [22] := by simpa using Array.mem_of_getElem? ht
        have hall : ([22].all fun u => !Tryz.prog.wantsStandIn u) = true := by kernel_rfl
        exact (show Tryz.prog.wantsStandIn t = false by simpa using List.all_eq_true.1 hall t hm)⟩)
    (by as_aux_lemma => kernel_rfl)
#print axioms proved
end Go.Proofs.YthdolmofeeniaaaGreatDoor.blockingParts
end
