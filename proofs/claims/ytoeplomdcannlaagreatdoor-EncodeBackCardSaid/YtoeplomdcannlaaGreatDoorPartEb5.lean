/- Parts of one proof: BloomB, MakeS, MakeT, Dress, DeckPlain, MakeU, BitsB, BloomC, Shelf2, MakeV, MakeX, EncA, EncB, Splice. -/
import Derived.Test.YtoeplomdcannlaaGreatDoorPartEb4
import Derived.Laws.CopyRow
set_option linter.unusedSimpArgs false
set_option linter.unusedVariables false
namespace Go.Proofs.YtoeplomdcannlaaGreatDoor
section
set_option maxRecDepth 100000
open Go.RowKit
def itN (len y : Int) : Nat → Int → Int
  | 0, x => x
  | n + 1, x => itN len y n ((x + y) % len)
theorem itN_succ (len y : Int) : ∀ n x, itN len y (n + 1) x = (itN len y n x + y) % len := by
  intro n
  induction n with
  | zero => intro x; rfl
  | succ n ih => intro x; rw [itN, ih]; rfl
theorem posN_snoc (len y : Int) : ∀ n x, posN len y (n + 1) x = posN len y n x ++ [itN len y n x] := by
  intro n
  induction n with
  | zero => intro x; rfl
  | succ n ih => intro x; rw [posN, ih]; rfl
theorem posN_len (len y : Int) : ∀ n x, (posN len y n x).length = n := by
  intro n
  induction n with
  | zero => intro x; rfl
  | succ n ih => intro x; simp [posN, ih]
theorem itN_bd (len y : Int) (hl : 0 < len) (x : Int) (h0 : 0 ≤ x) (h1 : x < len) : ∀ n, 0 ≤ itN len y n x ∧ itN len y n x < len := by
  intro n
  cases n with
  | zero => exact ⟨h0, h1⟩
  | succ n => rw [itN_succ]; exact ⟨Int.emod_nonneg _ (by omega), Int.emod_lt_of_pos _ hl⟩
theorem posN_bd (len y : Int) (hl : 0 < len) : ∀ n x, 0 ≤ x → x < len → ∀ i ∈ posN len y n x, 0 ≤ i ∧ i < len := by
  intro n
  induction n with
  | zero => intro x _ _ i hi; simp [posN] at hi
  | succ n ih =>
    intro x h0 h1 i hi
    simp only [posN, List.mem_cons] at hi
    rcases hi with rfl | hi
    · exact ⟨h0, h1⟩
    · exact ih _ (Int.emod_nonneg _ (by omega)) (Int.emod_lt_of_pos _ hl) i hi
abbrev encI (x : Int) : List Value := [.int .i64 x]
theorem made_ints (m : Nat) : madeCells #[.int .i64 0] m = ((List.replicate m (0 : Int)).flatMap encI).toArray := by
  apply Array.ext'
  have : ∀ k, (List.replicate k (0 : Int)).flatMap encI = List.replicate k (.int .i64 0) := by
    intro k; induction k with
    | zero => rfl
    | succ k ih => rw [List.replicate_succ, List.flatMap_cons, ih]; rfl
  rw [this]
  unfold madeCells
  rw [Array.toList_map, Array.toList_range]
  refine List.ext_getElem (by simp) fun i h1 h2 => ?_
  simp [Nat.mod_one]
theorem infoI : (Tryz.prog.info? 3).map (fun i => (i.zero, i.size, i.bytes)) = some (some (.int .i64 0), 1, 8) := by kernel_rfl
/-- the row of positions: j of them are there -/
theorem prow_step (len y : Int) (H j : Nat) (x : Int) (hj : j < H) : (((posN len y j x ++ List.replicate (H - j) 0).flatMap encI).toArray).setIfInBounds j (.int .i64 (itN len y j x)) = ((posN len y (j + 1) x ++ List.replicate (H - (j + 1)) 0).flatMap encI).toArray := by
  have fl : ∀ l : List Int, l.flatMap encI = l.map (Value.int .i64) := by
    intro l; induction l with
    | nil => rfl
    | cons a l ih => simp only [List.flatMap_cons, List.map_cons, ih]; rfl
  rw [fl, fl, List.setIfInBounds_toArray, show H - j = (H - (j + 1)) + 1 by omega, List.replicate_succ, posN_snoc]
  congr 1
  rw [List.map_append, List.set_append_right _ _ (by rw [List.length_map, posN_len]; exact Nat.le_refl _), List.length_map, posN_len, Nat.sub_self]
  simp
theorem row_cell (len y : Int) (H j : Nat) (x : Int) (hj : j < H) : (((posN len y j x ++ List.replicate (H - j) 0).flatMap encI).toArray)[j]? = some (.int .i64 0) := by
  have fl : ∀ l : List Int, l.flatMap encI = l.map (Value.int .i64) := by
    intro l; induction l with
    | nil => rfl
    | cons a l ih => simp only [List.flatMap_cons, List.map_cons, ih]; rfl
  rw [fl, List.getElem?_toArray, List.getElem?_map, List.getElem?_append_right (by rw [posN_len]; exact Nat.le_refl _), posN_len, Nat.sub_self, show H - j = (H - (j + 1)) + 1 by omega, List.replicate_succ]
  rfl
theorem fun_cell {w : World} {gb : Nat} {t : TypeId} {fr : Nat × Nat} {L : List Int} (hr : w.heap[gb]? = some (.cells (L.flatMap encI).toArray t fr)) {i : Nat} {x : Int} (hi : L[i]? = some x) {u : Nat} {v : Value} (hu : (encI x)[u]? = some v) : w.cell? ⟨gb, 0 + i * 1 + u, none⟩ = some v := by
  rw [cell_of_row _ _ _ _ _ _ hr, Nat.zero_add, List.getElem?_toArray]
  have hul : u < 1 := (List.getElem?_eq_some_iff.1 hu).1
  rw [flat_get (enc := encI) (fun _ => rfl) L i x hi u hul]; exact hu
theorem wph_name {P : Program} {md : Region.Mode} {ops : Array Oper} {Q : Exit → Act → World → Prop} {S : World → Prop} {fuel : Nat} {listed : Array Bool} {a : Act} {W : World} (h : ∀ w', w' = W → wpAnyH P md ops Q S fuel listed a w') : wpAnyH P md ops Q S fuel listed a W := h W rfl
def PosPost (p : ParL) (k : Int × Int) (g : List UInt8) (w : World) (e : Ending) (w' : World) : Prop :=
  ∃ v, e = .returned (.tuple #[v, .int .i64 0]) ∧ Vec w' (fun b => w.heap.size ≤ b) 1 encI v (positionsN p k g) ∧ Below w.heap.size w w'
theorem ClosAt.later {w : World} {nb yb pb xb : Nat} {p : ParL} {x y : Int} (h : ClosAt w nb yb pb xb p x y) {o : Obj} : ClosAt (w.alloc o) nb yb pb xb p x y :=
  ⟨blk_old h.n, blk_old h.y, blk_old h.p, h.x.imp fun _ hz => blk_old hz, h.ne1, h.ne2, h.ne3, h.ne4, h.ne5⟩
theorem ClosAt.set {w : World} {nb yb pb xb gb i : Nat} {p : ParL} {x y : Int} {v : Value} (h : ClosAt w nb yb pb xb p x y) (h1 : gb ≠ nb) (h2 : gb ≠ yb) (h3 : gb ≠ pb) (h4 : gb ≠ xb) : ClosAt (w.setCell ⟨gb, i, none⟩ v) nb yb pb xb p x y :=
  ⟨blk_far h.n (Ne.symm h1), blk_far h.y (Ne.symm h2), blk_far h.p (Ne.symm h3), h.x.imp fun _ hz => blk_far hz (Ne.symm h4), h.ne1, h.ne2, h.ne3, h.ne4, h.ne5⟩
set_option maxHeartbeats 4000000 in
theorem positions_yes (p : ParL) (k : Int × Int) (g : List UInt8) (w : World) (hp : ParOk p) (hg : g.length ≤ 60000) :
    Calls Tryz.prog 187 #[.agg (parC p), .agg #[.int .u64 k.1, .int .u64 k.2], strV g] w (PosPost p k g w) := by
  have hl1 := hp.len1; have hl2 := hp.len2; have hh1 := hp.h1; have hh2 := hp.h2
  obtain ⟨H, hH⟩ : ∃ H : Nat, p.hashes = H := ⟨p.hashes.toNat, by omega⟩
  have hmk := run_make_row' (P := Tryz.prog) 22 3 (.int .i64 0) 8 Tryz.underlying22 infoI rfl .i64 .i64 H (by omega) (by omega)
  rw [made_ints, ← hH] at hmk
  have F0 : 0 ≤ firstP p k g := Int.emod_nonneg _ (by omega)
  have F1 : firstP p k g < p.len := Int.emod_lt_of_pos _ (by omega)
  have Y0 : 1 ≤ stepP p k g := by have : 0 ≤ (partsP k.1 k.2 [[50], g]) % (p.len - 1) := Int.emod_nonneg _ (by omega); unfold stepP; omega
  have Y1 : stepP p k g ≤ 1000 := by have : (partsP k.1 k.2 [[50], g]) % (p.len - 1) < p.len - 1 := Int.emod_lt_of_pos _ (by omega); unfold stepP; omega
  have hHb : H ≤ 16 := by omega
  have HP := Lib.hid hp; have HH := Lib.hid hH
  clear hp hH
  go_enter Tryz.func187, Tryz.ntmps187
  go_wp2_with fail
  refine wp_calls_world (fun W hW => ?_)
  have hb0 : Below w.heap.size w W := by rw [hW]; exact ((Below.refl _ _).alloc (Nat.le_refl _) _).alloc (by simp) _
  have hp0 : W.heap[w.heap.size]? = some (.cells (parC p) 81 (0, 0)) := by rw [hW]; exact blk_old (blk_new rfl)
  have hk0 : W.heap[w.heap.size + 1]? = some (.cells #[.int .u64 k.1, .int .u64 k.2] 45 (0, 0)) := by rw [hW]; exact blk_new (by simp)
  clear hW
  refine (bcheck_yes p W HP.out).mono ?_
  rintro e w1 ⟨rfl, hb⟩
  have hp1 := blk_below hb (lt_of_blk hp0) hp0; have hk1 := blk_below hb (lt_of_blk hk0) hk0
  have hb1 := hb0.trans (hb.mono hb0.size)
  have HB1 := Lib.hid hb1; have HP1 := Lib.hid hp1; have HK1 := Lib.hid hk1
  have hpW := lt_of_blk hp1; have hkW := lt_of_blk hk1
  obtain ⟨q0, q1, q2⟩ := cells3 hp1; obtain ⟨k0, k1⟩ := cells2K hk1
  clear hb0 hp0 hk0 hb hp1 hk1 hb1
  go_wp2_with fail
  have bD : Below w1.heap.size w1 w1.drew := (Below.refl _ _).drew
  go_cut [9, 10] (fun s9 s10 wx => ∃ gb nb yb pb xb : Nat, s9 = .slice (some ⟨gb, 0, none⟩) H H ∧ s10 = .func (.func 271) #[] #[.pointer (some ⟨nb, 0, none⟩), .pointer (some ⟨yb, 0, none⟩), .pointer (some ⟨pb, 0, none⟩), .pointer (some ⟨xb, 0, none⟩)] ∧
    ClosAt wx nb yb pb xb p (firstP p k g) (stepP p k g) ∧ wx.heap[gb]? = some (.cells ((List.replicate H (0 : Int)).flatMap encI).toArray 3 (0, 0)) ∧ (gb ≠ nb ∧ gb ≠ yb ∧ gb ≠ pb ∧ gb ≠ xb) ∧ (w1.heap.size ≤ gb ∧ w1.heap.size ≤ nb ∧ w1.heap.size ≤ xb) ∧ Below w1.heap.size w1 wx)
  case first =>
    refine wp_region_noPanic ?_
    refine wp_region_held_drew (S := (fun w' => w'.cell? ⟨w.heap.size + 1, 0, none⟩ = some (.int .u64 k.1) ∧ w'.cell? ⟨w.heap.size + 1, 1, none⟩ = some (.int .u64 k.2) ∧ w'.cell? ⟨w.heap.size, 0, none⟩ = some (.int .i64 p.len) ∧ w'.cell? ⟨w.heap.size, 1, none⟩ = some (.int .i64 p.hashes) ∧ w'.cell? ⟨w.heap.size, 2, none⟩ = some (.int .i64 p.salt))) (by kernel_rfl) (⟨k0, k1, q0, q1, q2⟩) (fun hHeld => ?_)
    refine tH 0 (h := ?_)
    try simp only [List.getElem_toArray, List.getElem_cons_zero, List.getElem_cons_succ, Act.put, List.setIfInBounds_toArray, List.set_cons_zero, List.set_cons_succ]
    refine tH 1 (h := ?_)
    try simp only [List.getElem_toArray, List.getElem_cons_zero, List.getElem_cons_succ, Act.put, List.setIfInBounds_toArray, List.set_cons_zero, List.set_cons_succ]
    refine tH 3 (h := ?_)
    try simp only [List.getElem_toArray, List.getElem_cons_zero, List.getElem_cons_succ, Act.put, List.setIfInBounds_toArray, List.set_cons_zero, List.set_cons_succ]
    refine tH 4 (h := ?_)
    try simp only [List.getElem_toArray, List.getElem_cons_zero, List.getElem_cons_succ, Act.put, List.setIfInBounds_toArray, List.set_cons_zero, List.set_cons_succ]
    refine tH 5 (h := ?_)
    try simp only [List.getElem_toArray, List.getElem_cons_zero, List.getElem_cons_succ, Act.put, List.setIfInBounds_toArray, List.set_cons_zero, List.set_cons_succ]
    refine wpAnyH_ready (rs := [2, 6]) (by kernel_rfl) (by simp) ?_
    refine AllReadyH.cons rfl (fun K hK => ?_) (AllReadyH.cons rfl (fun K hK => ?_) AllReadyH.nil)
    focus
      go_simp
      refine hK.out _ _ (⟨((bD.alloc bD.size _).cell (p := ⟨w.heap.size + 1, 0, none⟩) hkW).trans k0, ((bD.alloc bD.size _).cell (p := ⟨w.heap.size + 1, 1, none⟩) hkW).trans k1, ((bD.alloc bD.size _).cell (p := ⟨w.heap.size, 0, none⟩) hpW).trans q0, ((bD.alloc bD.size _).cell (p := ⟨w.heap.size, 1, none⟩) hpW).trans q1, ((bD.alloc bD.size _).cell (p := ⟨w.heap.size, 2, none⟩) hpW).trans q2⟩) (fun hHeld => ?_)
      clear hK K
      try simp only [List.getElem_toArray, List.getElem_cons_zero, List.getElem_cons_succ, Act.put, List.setIfInBounds_toArray, List.set_cons_zero, List.set_cons_succ]
      refine wph_name (fun W1 hW1 => ?_)
      have b1 : Below w1.heap.size w1 W1 := by rw [hW1]; exact bD.alloc bD.size (.cells ((List.replicate H (0 : Int)).flatMap encI).toArray 3)
      have ga : W1.heap[w1.heap.size]? = some (.cells ((List.replicate H (0 : Int)).flatMap encI).toArray 3 (0, 0)) := by rw [hW1]; exact blk_new rfl
      have zz : W1.heap.size = w1.heap.size + 1 := by rw [hW1]; simp
      clear hW1 hHeld
      have hHeld : W1.cell? ⟨w.heap.size + 1, 0, none⟩ = some (.int .u64 k.1) ∧ W1.cell? ⟨w.heap.size + 1, 1, none⟩ = some (.int .u64 k.2) ∧ W1.cell? ⟨w.heap.size, 0, none⟩ = some (.int .i64 p.len) ∧ W1.cell? ⟨w.heap.size, 1, none⟩ = some (.int .i64 p.hashes) ∧ W1.cell? ⟨w.heap.size, 2, none⟩ = some (.int .i64 p.salt) := ⟨(b1.cell (p := ⟨w.heap.size + 1, 0, none⟩) hkW).trans k0, (b1.cell (p := ⟨w.heap.size + 1, 1, none⟩) hkW).trans k1, (b1.cell (p := ⟨w.heap.size, 0, none⟩) hpW).trans q0, (b1.cell (p := ⟨w.heap.size, 1, none⟩) hpW).trans q1, (b1.cell (p := ⟨w.heap.size, 2, none⟩) hpW).trans q2⟩
      refine wpAnyH_ready (rs := [6]) (by kernel_rfl) (by simp) ?_
      refine AllReadyH.cons rfl (fun K hK => ?_) AllReadyH.nil
      go_simp
      refine (drawn_any p k g _ HP.out hg).mono ?_; rintro e w2 ⟨nb, yb, pb, xb, rfl, hc, ⟨hn1, hx1, hy1, hp1⟩, hb2⟩; have b2 := b1.trans (hb2.mono b1.size); have ga2 := blk_below hb2 (lt_of_blk ga) ga
      refine hK.out _ _ (⟨(b2.cell (p := ⟨w.heap.size + 1, 0, none⟩) hkW).trans k0, (b2.cell (p := ⟨w.heap.size + 1, 1, none⟩) hkW).trans k1, (b2.cell (p := ⟨w.heap.size, 0, none⟩) hpW).trans q0, (b2.cell (p := ⟨w.heap.size, 1, none⟩) hpW).trans q1, (b2.cell (p := ⟨w.heap.size, 2, none⟩) hpW).trans q2⟩) (fun hHeld => ?_)
      clear hK K
      try simp only [List.getElem_toArray, List.getElem_cons_zero, List.getElem_cons_succ, Act.put, List.setIfInBounds_toArray, List.set_cons_zero, List.set_cons_succ]
      refine tH 7 (h := ?_)
      try simp only [List.getElem_toArray, List.getElem_cons_zero, List.getElem_cons_succ, Act.put, List.setIfInBounds_toArray, List.set_cons_zero, List.set_cons_succ]
      refine tH 8 (h := ?_)
      try simp only [List.getElem_toArray, List.getElem_cons_zero, List.getElem_cons_succ, Act.put, List.setIfInBounds_toArray, List.set_cons_zero, List.set_cons_succ]
      refine wpAnyH_done (by kernel_rfl) ?_ _
      refine NoPanic.normal ?_
      go_wp2_with fail
      go_meet
      exact ⟨_, nb, yb, pb, xb, rfl, rfl, hc, ga2, ⟨by omega, by omega, by omega, by omega⟩, ⟨by omega, by omega, by omega⟩, b2⟩
    rotate_left 1
    focus
      go_simp
      refine (drawn_any p k g _ HP.out hg).mono ?_
      rintro e w2 ⟨nb, yb, pb, xb, rfl, hc, ⟨hn1, hx1, hy1, hp1⟩, hb2⟩
      have b2 := bD.trans hb2
      refine hK.out _ _ (⟨(b2.cell (p := ⟨w.heap.size + 1, 0, none⟩) hkW).trans k0, (b2.cell (p := ⟨w.heap.size + 1, 1, none⟩) hkW).trans k1, (b2.cell (p := ⟨w.heap.size, 0, none⟩) hpW).trans q0, (b2.cell (p := ⟨w.heap.size, 1, none⟩) hpW).trans q1, (b2.cell (p := ⟨w.heap.size, 2, none⟩) hpW).trans q2⟩) (fun hHeld => ?_)
      clear hK K
      try simp only [List.getElem_toArray, List.getElem_cons_zero, List.getElem_cons_succ, Act.put, List.setIfInBounds_toArray, List.set_cons_zero, List.set_cons_succ]
      refine wpAnyH_ready (rs := [2]) (by kernel_rfl) (by simp) ?_
      refine AllReadyH.cons rfl (fun K hK => ?_) AllReadyH.nil
      go_simp
      refine hK.out _ _ (⟨((b2.alloc b2.size _).cell (p := ⟨w.heap.size + 1, 0, none⟩) hkW).trans k0, ((b2.alloc b2.size _).cell (p := ⟨w.heap.size + 1, 1, none⟩) hkW).trans k1, ((b2.alloc b2.size _).cell (p := ⟨w.heap.size, 0, none⟩) hpW).trans q0, ((b2.alloc b2.size _).cell (p := ⟨w.heap.size, 1, none⟩) hpW).trans q1, ((b2.alloc b2.size _).cell (p := ⟨w.heap.size, 2, none⟩) hpW).trans q2⟩) (fun hHeld => ?_)
      clear hK K
      try simp only [List.getElem_toArray, List.getElem_cons_zero, List.getElem_cons_succ, Act.put, List.setIfInBounds_toArray, List.set_cons_zero, List.set_cons_succ]
      refine tH 7 (h := ?_)
      try simp only [List.getElem_toArray, List.getElem_cons_zero, List.getElem_cons_succ, Act.put, List.setIfInBounds_toArray, List.set_cons_zero, List.set_cons_succ]
      refine tH 8 (h := ?_)
      try simp only [List.getElem_toArray, List.getElem_cons_zero, List.getElem_cons_succ, Act.put, List.setIfInBounds_toArray, List.set_cons_zero, List.set_cons_succ]
      refine wpAnyH_done (by kernel_rfl) ?_ _
      refine NoPanic.normal ?_
      have l1 := lt_of_blk hc.n; have l2 := lt_of_blk hc.y; have l3 := lt_of_blk hc.p; obtain ⟨zx, hzx⟩ := hc.x; have l4 := lt_of_blk hzx
      have hc2 := hc.later (o := (.cells ((List.replicate H (0 : Int)).flatMap encI).toArray 3))
      go_wp2_with fail
      go_meet
      exact ⟨_, nb, yb, pb, xb, rfl, rfl, hc2, blk_new rfl, ⟨by omega, by omega, by omega, by omega⟩, ⟨hb2.size, hn1, hx1⟩, b2.alloc b2.size _⟩
  case rest =>
    obtain ⟨gb, nb, yb, pb, xb, rfl, rfl, hc, hga, ⟨n1, n2, n3, n4⟩, ⟨m1, m2, m3⟩, hbc⟩ := hcut
    have HC := Lib.hid hc; have HG := Lib.hid hga; have HBC := Lib.hid hbc
    have hbz := HB1.out.size
    clear hc hga hbc bD hmk q0 q1 q2 k0 k1
    go_wp2_with fail
    go_loopw [11, 26] (fun _ i wr => ∃ j : Nat, i = .int .i64 j ∧ j ≤ H ∧ ClosAt wr nb yb pb xb p (itN p.len (stepP p k g) j (firstP p k g)) (stepP p k g) ∧ wr.heap[gb]? = some (.cells ((posN p.len (stepP p k g) j (firstP p k g) ++ List.replicate (H - j) 0).flatMap encI).toArray 3 (0, 0)) ∧ KeptBut (fun b => w1.heap.size ≤ b) w1 wr) (fun _ i _ => H - (intOf i).toNat)
    case atStart => exact ⟨0, rfl, by omega, HC.out, HG.out, .ofBelow HBC.out⟩
    case round =>
      obtain ⟨j, rfl, hj, hc, hga, hkb⟩ := hrel
      have HC2 := Lib.hid hc; have HG2 := Lib.hid hga; have HK2 := Lib.hid hkb
      clear hc hga hkb HC HG
      by_cases hlt : j < H
      · have hq : decide ((j : Int) < H) = true := by simp; omega
        have hb3 := itN_bd p.len (stepP p k g) (by omega) (firstP p k g) F0 F1 j
        obtain ⟨xj, hxj⟩ : ∃ xj, itN p.len (stepP p k g) j (firstP p k g) = xj := ⟨_, rfl⟩
        rw [hxj] at HC2 hb3
        have HXJ := Lib.hid hxj; clear hxj
        go_wp2_with fail
        refine (bnext_any nb yb pb xb p xj (stepP p k g) _ HC2.out HP.out hb3.1 hb3.2 Y0 Y1).mono ?_
        rintro e wq ⟨rfl, hcq, hkq⟩
        have hgq := hkq.blk (by intro h; omega) HG2.out
        have cq : wq.cell? ⟨gb, j, none⟩ = some (.int .i64 0) := by rw [cell_of_row _ _ _ _ _ _ hgq, row_cell _ _ _ _ _ hlt]
        have fq := frozen_of_row _ _ j _ _ hgq
        have zq := lt_of_blk hgq
        have HCQ := Lib.hid hcq; have HKQ := Lib.hid hkq; have HGQ := Lib.hid hgq
        clear hcq hkq hgq HC2 HG2
        go_wp2_with fail
        go_roundw
        case rel =>
          refine ⟨j + 1, by go_num, by omega, ?_, ?_, ?_⟩
          · rw [itN_succ, HXJ.out]; exact HCQ.out.set n1 n2 n3 n4
          · rw [← prow_step _ _ _ _ _ hlt, HXJ.out]; exact blk_set HGQ.out
          · exact (HK2.out.trans ⟨HKQ.out.os, HKQ.out.tape, HKQ.out.output, HKQ.out.size, fun i hi hn => HKQ.out.block i hi (by have hn' : i < w1.heap.size := Nat.lt_of_not_le hn; intro h; rcases h with rfl | rfl <;> omega)⟩).set (p := ⟨gb, j, none⟩) m1 _
        case measure => simp [intOf]; omega
      · have hq : decide ((j : Int) < H) = false := by simp; omega
        obtain rfl : j = H := by omega
        go_wp2_with fail
        go_ret2
        refine ⟨_, rfl, ?_, HB1.out.trans (HK2.out.below (B := w.heap.size) (fun i hi h => by have h' : w1.heap.size ≤ i := h; omega) hbz)⟩
        have hr : wr.heap[gb]? = some (.cells ((positionsN p k g).flatMap encI).toArray 3 (0, 0)) := by
          have := HG2.out
          rw [Nat.sub_self, List.replicate_zero, List.append_nil] at this
          unfold positionsN
          rw [HH.out, Int.toNat_natCast]; exact this
        have hlen : j = (positionsN p k g).length := by unfold positionsN; rw [posN_len, HH.out, Int.toNat_natCast]
        refine ⟨some ⟨gb, 0, none⟩, j, by rw [← hlen]; rfl, by rw [← hlen]; exact Nat.le_refl _, fun h0 => ⟨gb, 0, rfl, by omega, lt_of_blk hr, fun i x hi u v hu => fun_cell hr hi hu⟩⟩
end
section
set_option maxRecDepth 100000
open Go.RowKit
attribute [local go_sem] toList_mk mk_size
@[local go_sem] theorem str_append (a b : List UInt8) : (⟨a.toArray⟩ : ByteArray) ++ ⟨b.toArray⟩ = ⟨(a ++ b).toArray⟩ := by
  apply ByteArray.ext; simp
def SomeBool (D : Nat) (w : World) (e : Ending) (w' : World) : Prop := ∃ b : Bool, e = .returned (.bool b) ∧ Moved D w w'
def SomeText (D N : Nat) (w : World) (e : Ending) (w' : World) : Prop := ∃ l : List UInt8, e = .returned (strV l) ∧ l.length ≤ N ∧ Moved D w w'
set_option maxHeartbeats 400000 in
theorem one_any (D : Nat) (w : World) (k : Int) (h : DeckAt w D) (hk : 1 ≤ k) (hk2 : k ≤ 1000000000) :
    Calls Tryz.prog 46 #[.pointer (some ⟨D, 0, none⟩), .int .i64 k] w (SomeBool D w) := by
  go_enter Tryz.func46, Tryz.ntmps46
  go_wp2_with fail
  refine (next_any D _ k h hk hk2).mono ?_
  rintro e w1 ⟨r, rfl, h0, h1, h2⟩
  have H2 := Lib.hid h2; clear h2
  go_wp2_with fail
  go_ret
  exact ⟨_, rfl, H2.out⟩
theorem Vec.moved {α : Type} {D : Nat} {w w' : World} {k : Nat} {enc : α → List Value} {v : Value} {L : List α} (h : Vec w (fun b => b ≠ D) k enc v L) (m : Moved D w w') : Vec w' (fun b => b ≠ D) k enc v L :=
  h.move m.size fun b hb hD => ⟨m.grown.block b hb (by simp; omega), hD⟩
/-- one of some texts -/
def PickPost (D : Nat) (L : List (List UInt8)) (w : World) (e : Ending) (w' : World) : Prop := ∃ l : List UInt8, e = .returned (strV l) ∧ l ∈ L ∧ Moved D w w'
set_option maxHeartbeats 400000 in
theorem pick_any (D : Nat) (w : World) (v : Value) (L : List (List UInt8)) (h : DeckAt w D) (hV : Vec w (fun b => b ≠ D) 1 encS v L) (h1 : 1 ≤ L.length) (h2 : L.length ≤ 1000) :
    Calls Tryz.prog 80 #[.pointer (some ⟨D, 0, none⟩), v] w (PickPost D L w) := by
  obtain ⟨a, cap, rfl⟩ := hV.slice
  have HV := Lib.hid hV
  clear hV
  go_enter Tryz.func80, Tryz.ntmps80
  go_wp2_with fail
  refine (next_any D _ _ h (by omega) (by omega)).mono ?_
  rintro e w1 ⟨r, rfl, r0, r1, mv⟩
  have MV := Lib.hid mv; clear mv
  obtain ⟨r, rfl⟩ := Int.eq_ofNat_of_zero_le r0
  obtain ⟨b, off, rfl, _, hb, hc⟩ := vec_cell1 (HV.out.moved MV.out) (by omega)
  have hr : r < L.length := by omega
  have hc1 := hc r hr
  have hmem : L.getD r [] ∈ L := by rw [List.getD, List.getElem?_eq_getElem hr]; exact List.getElem_mem hr
  obtain ⟨x, hx⟩ : ∃ x, L.getD r [] = x := ⟨_, rfl⟩
  rw [hx] at hc1 hmem
  have HMem := Lib.hid hmem
  clear hc hmem hx
  go_wp2_with fail
  go_ret
  exact ⟨x, rfl, HMem.out, MV.out⟩
end
section
set_option maxRecDepth 100000
open Go.RowKit
attribute [local go_sem] toList_mk mk_size str_append
theorem one_byte (w : World) (a : UInt8) : (convert 55 9 (.slice (some ⟨w.heap.size, 0, none⟩) 1 1)).run Tryz.prog (w.alloc (.cells #[.int .u8 a.toNat] 5)) = .ok (strV [a]) (w.alloc (.cells #[.int .u8 a.toNat] 5)) := by
  have ho : (w.alloc (.cells (([a] : List UInt8).map byteV).toArray 5)).ownsRow 0 5 1 (.slice (some ⟨w.heap.size, 0, none⟩) 1 1) 1 (([a] : List UInt8).map byteV) :=
    ⟨by simp, .inr ⟨_, _, _, rfl, Nat.zero_le _, blk_new rfl, Nat.le_refl _, size_le_maxLen (by omega), by simp, by simp⟩⟩
  exact run_convert_owned [a] ho Tryz.underlying55 Tryz.underlying5 Tryz.underlying9
end
section
set_option maxRecDepth 100000
open Go.RowKit
/-- two beginnings of a text that any rest continues to the same tokens -/
def EqL (a b : List UInt8) : Prop := ∀ r, toksA [] (a ++ r) = toksA [] (b ++ r)
theorem EqL.refl (a : List UInt8) : EqL a a := fun _ => rfl
theorem EqL.app {a b : List UInt8} (h : EqL a b) (c : List UInt8) : EqL (a ++ c) (b ++ c) := fun r => by rw [List.append_assoc, List.append_assoc]; exact h _
theorem EqL.trans {a b c : List UInt8} (h : EqL a b) (h' : EqL b c) : EqL a c := fun r => (h r).trans (h' r)
theorem EqL.lead : EqL [32] [] := fun r => toksA_sp0 r
theorem toksA_two (l : List UInt8) : ∀ p r, toksA p (l ++ 32 :: 32 :: r) = toksA p (l ++ 32 :: r) := by
  induction l with
  | nil =>
    intro p r
    simp only [List.nil_append]
    by_cases hp : p = []
    · subst hp; rw [toksA_sp0]
    · rw [toksA_sp _ _ hp, toksA_sp _ _ hp, toksA_sp0]
  | cons c l ih =>
    intro p r
    simp only [List.cons_append]
    by_cases hc : c = 32
    · subst hc
      by_cases hp : p = []
      · subst hp; rw [toksA_sp0, toksA_sp0, ih]
      · rw [toksA_sp _ _ hp, toksA_sp _ _ hp, ih]
    · rw [toksA_ch _ _ _ hc, toksA_ch _ _ _ hc, ih]
theorem EqL.two (a : List UInt8) : EqL (a ++ [32, 32]) (a ++ [32]) := fun r => by
  rw [List.append_assoc, List.append_assoc]; exact toksA_two a [] r
theorem toksA_last (l : List UInt8) : ∀ p, toksA p (l ++ [32]) = toksA p l := by
  induction l with
  | nil =>
    intro p
    simp only [List.nil_append]
    by_cases hp : p = []
    · subst hp; rw [toksA_sp0]
    · rw [toksA_sp _ _ hp, toksA_end _ hp]; rfl
  | cons c l ih =>
    intro p
    simp only [List.cons_append]
    by_cases hc : c = 32
    · subst hc
      by_cases hp : p = []
      · subst hp; rw [toksA_sp0, toksA_sp0, ih]
      · rw [toksA_sp _ _ hp, toksA_sp _ _ hp, ih]
    · rw [toksA_ch _ _ _ hc, toksA_ch _ _ _ hc, ih]
def allOk (l : List UInt8) : Prop := ∀ b ∈ l, okByte b = true
theorem allOk.app {a b : List UInt8} (h : allOk a) (h' : allOk b) : allOk (a ++ b) := fun c hc => (List.mem_append.1 hc).elim (h c) (h' c)
def plainL (l : List UInt8) : List UInt8 := l.flatMap plainB
theorem plainL_app (a b : List UInt8) : plainL (a ++ b) = plainL a ++ plainL b := List.flatMap_append
theorem byte_pair {a b : UInt8} (h : okByte a = true) : isPair a b = false := by
  rw [ok_iff, decide_eq_true_iff] at h
  rw [pair_iff]; simp; omega
theorem raw_flat (l : List UInt8) (h : allOk l) : rawL l = plainL l ∧ validL l = true := by
  induction l using rawL.induct with
  | case1 => exact ⟨rfl, rfl⟩
  | case2 a => exact ⟨by simp [rawL, plainL], by simp only [validL]; exact h a (by simp)⟩
  | case3 a b r hp ih => exfalso; rw [byte_pair (h a (by simp))] at hp; cases hp
  | case4 a b r hp ih =>
    have hp' := byte_pair (a := a) (b := b) (h a (by simp))
    have := ih fun x hx => h x (List.mem_cons_of_mem _ hx)
    refine ⟨?_, ?_⟩
    · rw [rawL, hp']; simp only [Bool.false_eq_true, if_false]; rw [this.1]; simp [plainL]
    · rw [validL, hp']; simp only [Bool.false_eq_true, if_false]; rw [this.2, h a (by simp)]; rfl
/-- what a beginning of a folded text becomes -/
structure DressTo (p o : List UInt8) : Prop where
  ok : allOk o
  eq : EqL (plainL o) p
  len : o.length ≤ 1 + 2 * p.length
/-- a text in another dress -/
structure DressOf (l o : List UInt8) : Prop where
  ok : allOk o
  eq : toks (rawL o) = toks l
  len : o.length ≤ 2 + 2 * l.length
def dressA : List (List UInt8) := [[], [], [32], [45]]
def dressB : List (List UInt8) := [[32], [45], [44, 32], [46], [32, 32], [47]]
def dressC : List (List UInt8) := [[], [], [32], [46]]
theorem allOk_dec {l : List UInt8} (h : l.all okByte = true) : allOk l := List.all_eq_true.1 h
theorem DressTo.start {o : List UInt8} (h : o ∈ dressA) : DressTo [] o := by
  simp [dressA] at h
  rcases h with rfl | rfl | rfl
  · exact ⟨allOk_dec rfl, EqL.refl _, by simp⟩
  · exact ⟨allOk_dec rfl, EqL.lead, by simp⟩
  · exact ⟨allOk_dec rfl, EqL.lead, by simp⟩
theorem DressTo.space {p o x : List UInt8} (h : DressTo p o) (hx : x ∈ dressB) : DressTo (p ++ [32]) (o ++ x) := by
  simp [dressB] at hx
  rcases hx with rfl | rfl | rfl | rfl | rfl | rfl
  · exact ⟨h.ok.app (allOk_dec rfl), by rw [plainL_app]; exact h.eq.app [32], by have := h.len; simp; omega⟩
  · exact ⟨h.ok.app (allOk_dec rfl), by rw [plainL_app]; exact h.eq.app [32], by have := h.len; simp; omega⟩
  · exact ⟨h.ok.app (allOk_dec rfl), by rw [plainL_app]; exact (EqL.two _).trans (h.eq.app [32]), by have := h.len; simp; omega⟩
  · exact ⟨h.ok.app (allOk_dec rfl), by rw [plainL_app]; exact h.eq.app [32], by have := h.len; simp; omega⟩
  · exact ⟨h.ok.app (allOk_dec rfl), by rw [plainL_app]; exact (EqL.two _).trans (h.eq.app [32]), by have := h.len; simp; omega⟩
  · exact ⟨h.ok.app (allOk_dec rfl), by rw [plainL_app]; exact h.eq.app [32], by have := h.len; simp; omega⟩
theorem DressTo.byte {p o : List UInt8} {c x : UInt8} (h : DressTo p o) (hx : okByte x = true) (hp : plainB x = [c]) : DressTo (p ++ [c]) (o ++ [x]) :=
  ⟨h.ok.app (fun b hb => by simp at hb; subst hb; exact hx), by rw [plainL_app, show plainL [x] = [c] by simp [plainL, hp]]; exact h.eq.app [c], by have := h.len; simp; omega⟩
theorem DressTo.mark {p o : List UInt8} {c x : UInt8} (h : DressTo p o) (hx : okByte x = true) (hp : plainB x = [c]) : DressTo (p ++ [c]) (o ++ [x] ++ [39]) :=
  ⟨(h.ok.app (fun b hb => by simp at hb; subst hb; exact hx)).app (allOk_dec rfl), by rw [plainL_app, plainL_app, show plainL [39] = [] from rfl, List.append_nil, show plainL [x] = [c] by simp [plainL, hp]]; exact h.eq.app [c], by have := h.len; simp; omega⟩
theorem DressTo.done {p o x : List UInt8} (h : DressTo p o) (hx : x ∈ dressC) : DressOf p (o ++ x) := by
  have e : ∀ q : List UInt8, toks (plainL o ++ q) = toksA [] (p ++ q) := fun q => h.eq q
  have e0 := h.eq []
  simp only [List.append_nil] at e0
  simp [dressC] at hx
  rcases hx with rfl | rfl | rfl
  · exact ⟨h.ok.app (allOk_dec rfl), by rw [(raw_flat _ (h.ok.app (allOk_dec rfl))).1, List.append_nil]; exact e0, by have := h.len; simp; omega⟩
  · exact ⟨h.ok.app (allOk_dec rfl), by rw [(raw_flat _ (h.ok.app (allOk_dec rfl))).1, plainL_app]; exact (e [32]).trans (toksA_last p []), by have := h.len; simp; omega⟩
  · exact ⟨h.ok.app (allOk_dec rfl), by rw [(raw_flat _ (h.ok.app (allOk_dec rfl))).1, plainL_app]; exact (e [32]).trans (toksA_last p []), by have := h.len; simp; omega⟩
/-- a byte of a folded text that is no space stands for itself -/
theorem plain_self {c : UInt8} (h : okB c = true) : okByte c = true ∧ plainB c = [c] := ⟨ok_byte h, ok_plain h⟩
/-- .. and so does a letter written great -/
theorem plain_up {c : UInt8} (h : isLow c = true) : okByte (c - 32) = true ∧ plainB (c - 32) = [c] := by
  rw [low_iff, decide_eq_true_iff] at h
  have e : (c - 32).toNat = c.toNat - 32 := by
    rw [UInt8.toNat_sub_of_le]
    · rfl
    · rw [UInt8.le_iff_toNat_le]; show 32 ≤ _; omega
  have hu : isUp (c - 32) = true := by rw [up_iff, decide_eq_true_iff, e]; omega
  refine ⟨?_, ?_⟩
  · rw [ok_iff, decide_eq_true_iff, e]; omega
  · unfold plainB; rw [if_pos hu, UInt8.sub_add_cancel]
end
section
set_option maxRecDepth 100000
open Go.RowKit
def t1L : List (List UInt8) := [[100, 114], [118, 97, 110]]
def n1L : List P2 := [([97, 110, 110, 97], [97, 110, 110]), ([98, 111, 98], [114, 111, 98, 101, 114, 116])]
def s1L : List P2 := [([114, 100], [114, 111, 97, 100]), ([115, 116], [115, 116, 114, 101, 101, 116])]
/-- rules that are dealt -/
structure RulesD (r : RulesL) : Prop where
  t : r.titles = [] ∨ r.titles = t1L
  n : r.nicks = [] ∨ r.nicks = n1L
  s : r.streets = [] ∨ r.streets = s1L
theorem RulesD.check {r : RulesL} (h : RulesD r) : checkR r = 0 := by
  obtain ⟨t, n, s⟩ := r
  obtain ⟨h1, h2, h3⟩ := h
  dsimp only at h1 h2 h3
  rcases h1 with rfl | rfl <;> rcases h2 with rfl | rfl <;> rcases h3 with rfl | rfl <;> decide
def namesD : List (List UInt8) := [[102, 97, 109, 105, 108, 121], [103, 105, 118, 101, 110], [98, 105, 114, 116, 104], [115, 116, 114, 101, 101, 116], [99, 111, 100, 101]]
/-- the first fields of a schema that is dealt -/
structure FieldsD (F : List F2) : Prop where
  len : F.length ≤ 4
  names : F.map (·.1) = namesD.take F.length
  kinds : ∀ x ∈ F, 1 ≤ x.2 ∧ x.2 ≤ 4
theorem FieldsD.nil : FieldsD [] := ⟨by simp, rfl, by simp⟩
theorem FieldsD.snoc {F : List F2} (h : FieldsD F) (hl : F.length < 4) {k : Int} (h1 : 1 ≤ k) (h2 : k ≤ 4) : FieldsD (F ++ [(namesD.getD F.length [], k)]) := by
  refine ⟨by simp; omega, ?_, fun x hx => ?_⟩
  · have hn : F.length < namesD.length := by show F.length < 5; omega
    rw [List.map_append, h.names, List.length_append, List.length_singleton, List.take_succ_eq_append_getElem hn, List.getD, List.getElem?_eq_getElem hn]
    rfl
  · rcases List.mem_append.1 hx with hx | hx
    · exact h.kinds x hx
    · simp at hx; subst hx; exact ⟨h1, h2⟩
theorem names_ok : ∀ n : Fin 5, ∀ j : Fin n, (wordB (namesD.getD j []) && !(((namesD.take n).take j).any fun x => x == namesD.getD j [])) = true := by decide
theorem FieldsD.check {F : List F2} (h : FieldsD F) (h1 : 1 ≤ F.length) {r : RulesL} (hr : checkR r = 0) : checkS ⟨F, r⟩ = 0 := by
  have hl := h.len
  have hf : fieldsB F = true := by
    refine List.all_eq_true.2 fun j hj => ?_
    have hj' : j < F.length := List.mem_range.1 hj
    have hk := names_ok ⟨F.length, by omega⟩ ⟨j, hj'⟩
    have e1 : (F.getD j default).1 = namesD.getD j [] := by
      have hjn : j < (F.map (·.1)).length := by simpa using hj'
      have : (F.map (·.1)).getD j [] = namesD.getD j [] := by
        rw [h.names, List.getD, List.getElem?_take, if_pos hj', List.getD]
      rw [← this, List.getD, List.getElem?_eq_getElem hj', List.getD, List.getElem?_map, List.getElem?_eq_getElem hj']; rfl
    have e2 : ((F.take j).any fun x => x.1 == (F.getD j default).1) = ((namesD.take F.length).take j).any fun x => x == namesD.getD j [] := by
      rw [e1, ← h.names, ← List.map_take, List.any_map]; rfl
    have hm : F.getD j default ∈ F := by rw [List.getD, List.getElem?_eq_getElem hj']; exact List.getElem_mem hj'
    obtain ⟨k1, k2⟩ := h.kinds _ hm
    unfold fieldAtB
    rw [e2, e1]
    dsimp only at hk
    rw [hk, decide_eq_true k1, decide_eq_true k2]; rfl
  unfold checkS
  rw [if_neg (by dsimp only; omega), if_pos hf]; exact hr
end
section
set_option maxRecDepth 100000
open Go.RowKit
attribute [local go_sem] toList_mk mk_size str_append
theorem blockVec {w : World} {A : Nat} {α : Type} {k : Nat} {enc : α → List Value} (hk : ∀ x, (enc x).length = k) {t : TypeId} {L : List α} {S : Nat → Prop} (h : w.heap[A]? = some (.cells (L.flatMap enc).toArray t (0, 0))) (hS : S A) (n : Nat) (hn : n = L.length) : Vec w S k enc (.slice (some ⟨A, 0, none⟩) n n) L := by
  subst hn
  refine ⟨_, _, rfl, Nat.le_refl _, fun _ => ⟨A, 0, rfl, hS, lt_of_blk h, fun j x hj i u hu => ?_⟩⟩
  have hi : i < k := by rw [← hk x]; exact (List.getElem?_eq_some_iff.1 hu).1
  rw [cell_of_row _ _ _ _ _ _ h, Nat.zero_add, List.getElem?_toArray, flat_get hk L j x hj i hi]
  exact hu
theorem Vec.put {α : Type} {w : World} {S : Nat → Prop} {k : Nat} {enc : α → List Value} {v : Value} {L : List α} (h : Vec w S k enc v L) {a : Addr} (ha : ∀ b, S b → b ≠ a.block) (x : Value) (o : Obj) : Vec ((w.setCell a x).alloc o) S k enc v L :=
  h.move (by simp [World.setCell]) fun b hb hS => ⟨by rw [heap_alloc_old _ _ (by simpa [World.setCell] using hb), heap_setCell_other _ _ _ _ (ha b hS)], hS⟩
theorem Vec.weaken {α : Type} {w : World} {S S' : Nat → Prop} {k : Nat} {enc : α → List Value} {v : Value} {L : List α} (h : Vec w S k enc v L) (hs : ∀ b, S b → S' b) : Vec w S' k enc v L := h.move (Nat.le_refl _) fun b _ h => ⟨rfl, hs b h⟩
theorem set_new (v : World) (a : Addr) (x : Value) (o : Obj) : ((v.setCell a x).alloc o).heap[v.heap.size]? = some o := blk_new (by simp [World.setCell])
theorem Vec.set1 {α : Type} {w : World} {S : Nat → Prop} {k : Nat} {enc : α → List Value} {v : Value} {L : List α} (h : Vec w S k enc v L) {a : Addr} (ha : ∀ b, S b → b ≠ a.block) (x : Value) : Vec (w.setCell a x) S k enc v L :=
  h.move (by simp [World.setCell]) fun b hb hS => ⟨by rw [heap_setCell_other _ _ _ _ (ha b hS)], hS⟩
theorem RulesAt.set3 {w : World} {S : Nat → Prop} {vt vn vs : Value} {r : RulesL} (h : RulesAt w S vt vn vs r) {a b c : Addr} (ha : ∀ k, S k → k ≠ a.block) (hb : ∀ k, S k → k ≠ b.block) (hc : ∀ k, S k → k ≠ c.block) (x y z : Value) : RulesAt (((w.setCell a x).setCell b y).setCell c z) S vt vn vs r :=
  ⟨((h.1.set1 ha x).set1 hb y).set1 hc z, ((h.2.1.set1 ha x).set1 hb y).set1 hc z, ((h.2.2.set1 ha x).set1 hb y).set1 hc z⟩
theorem RulesAt.weaken {w : World} {S S' : Nat → Prop} {vt vn vs : Value} {r : RulesL} (h : RulesAt w S vt vn vs r) (hs : ∀ b, S b → S' b) : RulesAt w S' vt vn vs r := ⟨h.1.weaken hs, h.2.1.weaken hs, h.2.2.weaken hs⟩
/-- while rules are dealt: the result's block, the block of the rules, what these hold -/
def RMid (D : Nat) (w wc : World) : Prop := ∃ vt vn vs r, wc.heap[w.heap.size]? = some (.cells #[.slice none 0 0, .slice none 0 0, .slice none 0 0] 31 (0, 0)) ∧ wc.heap[w.heap.size + 1]? = some (.cells #[vt, vn, vs] 31 (0, 0)) ∧ RulesAt wc (fun b => w.heap.size + 1 < b) vt vn vs r ∧ RulesD r ∧ Moved D w wc
theorem RMid.moved {D : Nat} {w wc wd : World} (h : RMid D w wc) (hD : D < w.heap.size) (m : Moved D wc wd) : RMid D w wd := by
  obtain ⟨vt, vn, vs, r, hz, hy, hr, hd, hm⟩ := h
  refine ⟨vt, vn, vs, r, m.blk (by omega) hz, m.blk (by omega) hy, ?_, hd, hm.trans m⟩
  exact ⟨hr.1.move m.size fun b hb hS => ⟨m.grown.block b hb (by simp; omega), hS⟩, hr.2.1.move m.size fun b hb hS => ⟨m.grown.block b hb (by simp; omega), hS⟩, hr.2.2.move m.size fun b hb hS => ⟨m.grown.block b hb (by simp; omega), hS⟩⟩
theorem rmid_t {D : Nat} {w v : World} {vt vn vs : Value} {r : RulesL} (hD : D < w.heap.size) (hz : v.heap[w.heap.size]? = some (.cells #[.slice none 0 0, .slice none 0 0, .slice none 0 0] 31 (0, 0))) (hy : v.heap[w.heap.size + 1]? = some (.cells #[vt, vn, vs] 31 (0, 0))) (hr : RulesAt v (fun b => w.heap.size + 1 < b) vt vn vs r) (hd : RulesD r) (hm : Moved D w v) :
    RMid D w ((v.setCell ⟨w.heap.size + 1, 0, none⟩ (.slice (some ⟨v.heap.size, 0, none⟩) 2 2)).alloc (.cells (t1L.flatMap encS).toArray 9)) := by
  have h1 := lt_of_blk hy
  refine ⟨_, vn, vs, ⟨t1L, r.nicks, r.streets⟩, blk_old (blk_far hz (by simp)), blk_old (blk_set hy), ⟨blockVec (k := 1) (enc := encS) (L := t1L) (S := fun b => w.heap.size + 1 < b) (A := v.heap.size) (fun _ => rfl) (set_new _ _ _ _) (by omega) 2 rfl, hr.2.1.put (fun b h => by simp at h ⊢; omega) _ _, hr.2.2.put (fun b h => by simp at h ⊢; omega) _ _⟩, ⟨.inr rfl, hd.n, hd.s⟩, (hm.set (by simp) _).alloc _⟩
theorem rmid_n {D : Nat} {w v : World} {vt vn vs : Value} {r : RulesL} (hD : D < w.heap.size) (hz : v.heap[w.heap.size]? = some (.cells #[.slice none 0 0, .slice none 0 0, .slice none 0 0] 31 (0, 0))) (hy : v.heap[w.heap.size + 1]? = some (.cells #[vt, vn, vs] 31 (0, 0))) (hr : RulesAt v (fun b => w.heap.size + 1 < b) vt vn vs r) (hd : RulesD r) (hm : Moved D w v) :
    RMid D w ((v.setCell ⟨w.heap.size + 1, 1, none⟩ (.slice (some ⟨v.heap.size, 0, none⟩) 2 2)).alloc (.cells (n1L.flatMap encP).toArray 138)) := by
  have h1 := lt_of_blk hy
  refine ⟨vt, _, vs, ⟨r.titles, n1L, r.streets⟩, blk_old (blk_far hz (by simp)), blk_old (blk_set hy), ⟨hr.1.put (fun b h => by simp at h ⊢; omega) _ _, blockVec (k := 2) (enc := encP) (L := n1L) (S := fun b => w.heap.size + 1 < b) (A := v.heap.size) (fun _ => rfl) (set_new _ _ _ _) (by omega) 2 rfl, hr.2.2.put (fun b h => by simp at h ⊢; omega) _ _⟩, ⟨hd.t, .inr rfl, hd.s⟩, (hm.set (by simp) _).alloc _⟩
theorem rmid_s {D : Nat} {w v : World} {vt vn vs : Value} {r : RulesL} (hD : D < w.heap.size) (hz : v.heap[w.heap.size]? = some (.cells #[.slice none 0 0, .slice none 0 0, .slice none 0 0] 31 (0, 0))) (hy : v.heap[w.heap.size + 1]? = some (.cells #[vt, vn, vs] 31 (0, 0))) (hr : RulesAt v (fun b => w.heap.size + 1 < b) vt vn vs r) (hd : RulesD r) (hm : Moved D w v) :
    RMid D w ((v.setCell ⟨w.heap.size + 1, 2, none⟩ (.slice (some ⟨v.heap.size, 0, none⟩) 2 2)).alloc (.cells (s1L.flatMap encP).toArray 138)) := by
  have h1 := lt_of_blk hy
  refine ⟨vt, vn, _, ⟨r.titles, r.nicks, s1L⟩, blk_old (blk_far hz (by simp)), blk_old (blk_set hy), ⟨hr.1.put (fun b h => by simp at h ⊢; omega) _ _, hr.2.1.put (fun b h => by simp at h ⊢; omega) _ _, blockVec (k := 2) (enc := encP) (L := s1L) (S := fun b => w.heap.size + 1 < b) (A := v.heap.size) (fun _ => rfl) (set_new _ _ _ _) (by omega) 2 rfl⟩, ⟨hd.t, hd.n, .inr rfl⟩, (hm.set (by simp) _).alloc _⟩
def RulesPost (D : Nat) (w : World) (e : Ending) (w' : World) : Prop := ∃ vt vn vs r, e = .returned (.agg #[vt, vn, vs]) ∧ RulesAt w' (fun b => w.heap.size ≤ b) vt vn vs r ∧ RulesD r ∧ Moved D w w'
set_option maxHeartbeats 8000000 in
theorem rules_deal (D : Nat) (w : World) (h : DeckAt w D) :
    Calls Tryz.prog 45 #[.pointer (some ⟨D, 0, none⟩)] w (RulesPost D w) := by
  have zD := h.lt
  have HD := Lib.hid h
  clear h
  go_enter Tryz.func45, Tryz.ntmps45
  go_wp2_with fail
  have K := Lib.hid (show RMid D w ((w.alloc (.cells #[.slice none 0 0, .slice none 0 0, .slice none 0 0] 31)).alloc (.cells #[.slice none 0 0, .slice none 0 0, .slice none 0 0] 31)) from
    ⟨_, _, _, ⟨[], [], []⟩, blk_old (blk_new rfl), blk_new (by simp), ⟨Vec.nil _ _ _ _, Vec.nil _ _ _ _, Vec.nil _ _ _ _⟩, ⟨.inl rfl, .inl rfl, .inl rfl⟩, ((Moved.start HD.out).alloc _).alloc _⟩)
  refine (one_any D _ 2 (by obtain ⟨_, _, _, _, _, _, _, _, m⟩ := K.out; exact m.deck) (by omega) (by omega)).mono ?_
  rintro e v0 ⟨u, rfl, mv⟩
  have K0 := Lib.hid (K.out.moved zD mv)
  clear K mv
  go_upto_if 5 with fail
  go_cut [] (fun wc => RMid D w wc)
  case first =>
    obtain ⟨vt, vn, vs, r, hz, hy, hr, hd, hm⟩ := K0.out
    have HZ := Lib.hid hz; have HY := Lib.hid hy; have HR := Lib.hid hr; have HDd := Lib.hid hd; have HM := Lib.hid hm
    obtain ⟨c0, c1, c2⟩ := cells3 hy; obtain ⟨f0, f1, f2⟩ := free3 hy
    have q := lt_of_blk hy
    clear hz hy hr hd hm
    cases u
    · go_wp2_with fail
      go_meet
      exact K0.out
    · go_wp2_with fail
      go_meet
      exact rmid_t zD HZ.out HY.out HR.out HDd.out HM.out
  case rest =>
    have K1 := Lib.hid hcut; clear hcut K0
    go_wp2_with fail
    refine (one_any D _ 2 (by obtain ⟨_, _, _, _, _, _, _, _, m⟩ := K1.out; exact m.deck) (by omega) (by omega)).mono ?_
    rintro e v1 ⟨u, rfl, mv⟩
    have K2 := Lib.hid (K1.out.moved zD mv)
    clear K1 mv
    go_upto_if 9 with fail
    go_cut [] (fun wc => RMid D w wc)
    case first =>
      obtain ⟨vt, vn, vs, r, hz, hy, hr, hd, hm⟩ := K2.out
      have HZ := Lib.hid hz; have HY := Lib.hid hy; have HR := Lib.hid hr; have HDd := Lib.hid hd; have HM := Lib.hid hm
      obtain ⟨c0, c1, c2⟩ := cells3 hy; obtain ⟨f0, f1, f2⟩ := free3 hy
      have q := lt_of_blk hy
      clear hz hy hr hd hm
      cases u
      · go_wp2_with fail
        go_meet
        exact K2.out
      · go_wp2_with fail
        go_meet
        exact rmid_n zD HZ.out HY.out HR.out HDd.out HM.out
    case rest =>
      have K3 := Lib.hid hcut; clear hcut K2
      go_wp2_with fail
      refine (one_any D _ 2 (by obtain ⟨_, _, _, _, _, _, _, _, m⟩ := K3.out; exact m.deck) (by omega) (by omega)).mono ?_
      rintro e v2 ⟨u, rfl, mv⟩
      have K4 := Lib.hid (K3.out.moved zD mv)
      clear K3 mv
      go_upto_if 15 with fail
      go_cut [] (fun wc => RMid D w wc)
      case first =>
        obtain ⟨vt, vn, vs, r, hz, hy, hr, hd, hm⟩ := K4.out
        have HZ := Lib.hid hz; have HY := Lib.hid hy; have HR := Lib.hid hr; have HDd := Lib.hid hd; have HM := Lib.hid hm
        obtain ⟨c0, c1, c2⟩ := cells3 hy; obtain ⟨f0, f1, f2⟩ := free3 hy
        have q := lt_of_blk hy
        clear hz hy hr hd hm
        cases u
        · go_wp2_with fail
          go_meet
          exact K4.out
        · go_wp2_with fail
          go_meet
          exact rmid_s zD HZ.out HY.out HR.out HDd.out HM.out
      case rest =>
        obtain ⟨vt, vn, vs, r, hz, hy, hr, hd, hm⟩ := hcut
        obtain ⟨at', ct, rfl⟩ := hr.1.slice
        obtain ⟨an, cn, rfl⟩ := hr.2.1.slice
        obtain ⟨as', cs, rfl⟩ := hr.2.2.slice
        have HZ := Lib.hid hz; have HY := Lib.hid hy; have HR := Lib.hid hr; have HDd := Lib.hid hd; have HM := Lib.hid hm
        obtain ⟨c0, c1, c2⟩ := cells3 hy; obtain ⟨f0, f1, f2⟩ := free3 hy
        obtain ⟨d0, d1, d2⟩ := cells3 hz; obtain ⟨g0, g1, g2⟩ := free3 hz
        have q := lt_of_blk hy; have q' := lt_of_blk hz
        clear hz hy hr hd hm K4
        go_wp2_with fail
        have hz := blk_set (i := 2) (v := .slice as' r.streets.length cs) (blk_set (i := 1) (v := .slice an r.nicks.length cn) (blk_set (i := 0) (v := .slice at' r.titles.length ct) HZ.out))
        have hm := ((HM.out.set (a := ⟨w.heap.size, 0, none⟩) (Nat.le_refl _) (.slice at' r.titles.length ct)).set (a := ⟨w.heap.size, 1, none⟩) (Nat.le_refl _) (.slice an r.nicks.length cn)).set (a := ⟨w.heap.size, 2, none⟩) (Nat.le_refl _) (.slice as' r.streets.length cs)
        have hr := HR.out.set3 (a := ⟨w.heap.size, 0, none⟩) (b := ⟨w.heap.size, 1, none⟩) (c := ⟨w.heap.size, 2, none⟩) (fun b h => by simp at h ⊢; omega) (fun b h => by simp at h ⊢; omega) (fun b h => by simp at h ⊢; omega) (.slice at' r.titles.length ct) (.slice an r.nicks.length cn) (.slice as' r.streets.length cs)
        exact bodyPost_row1 rfl rfl hz Tryz.underlying31 rfl (by kernel_rfl) ⟨_, _, _, r, rfl, hr.weaken fun b h => by have h' : w.heap.size + 1 < b := h; show w.heap.size ≤ b; omega, HDd.out, hm⟩
end
section
set_option maxRecDepth 100000
open Go.RowKit
theorem nanU_any (x : Int) (w : World) : Calls Tryz.prog 201 #[.int .u64 x] w fun e w' => e = .returned (.bool false) ∧ w = w' := by
  have h1 : (x != x) = false := by simp
  go_enter Tryz.func201, Tryz.ntmps201
  go_wp2_with fail
  go_ret
  exact ⟨by simp, rfl⟩
theorem nanI_any (x : Int) (w : World) : Calls Tryz.prog 152 #[.int .i64 x] w fun e w' => e = .returned (.bool false) ∧ w = w' := by
  have h1 : (x != x) = false := by simp
  go_enter Tryz.func152, Tryz.ntmps152
  go_wp2_with fail
  go_ret
  exact ⟨by simp, rfl⟩
set_option maxHeartbeats 1000000 in
theorem cmpU_any (x y : Int) (w : World) : Calls Tryz.prog 153 #[.int .u64 x, .int .u64 y] w fun e w' => e = .returned (.int .i64 (cmp3 x y)) ∧ w = w' := by
  obtain ⟨c, hc⟩ : ∃ c, cmp3 x y = c := ⟨_, rfl⟩
  rw [hc]
  unfold cmp3 at hc
  go_enter Tryz.func153, Tryz.ntmps153
  go_wp2_with fail
  refine (nanU_any x _).mono ?_
  rintro e w1 ⟨rfl, rfl⟩
  go_wp2_with fail
  refine (nanU_any y _).mono ?_
  rintro e w1 ⟨rfl, rfl⟩
  by_cases h1 : x < y
  · have d1 : decide (x < y) = true := by simpa using h1
    rw [if_pos h1] at hc; subst hc
    go_wp2_with fail
    go_ret
    exact ⟨rfl, rfl⟩
  · have d1 : decide (x < y) = false := by simpa using h1
    rw [if_neg h1] at hc
    by_cases h2 : y < x
    · have d2 : decide (y < x) = true := by simpa using h2
      rw [if_pos h2] at hc; subst hc
      go_wp2_with fail
      go_ret
      exact ⟨rfl, rfl⟩
    · have d2 : decide (y < x) = false := by simpa using h2
      rw [if_neg h2] at hc; subst hc
      go_wp2_with fail
      go_ret
      exact ⟨rfl, rfl⟩
set_option maxHeartbeats 1000000 in
theorem cmpI_any (x y : Int) (w : World) : Calls Tryz.prog 105 #[.int .i64 x, .int .i64 y] w fun e w' => e = .returned (.int .i64 (cmp3 x y)) ∧ w = w' := by
  obtain ⟨c, hc⟩ : ∃ c, cmp3 x y = c := ⟨_, rfl⟩
  rw [hc]
  unfold cmp3 at hc
  go_enter Tryz.func105, Tryz.ntmps105
  go_wp2_with fail
  refine (nanI_any x _).mono ?_
  rintro e w1 ⟨rfl, rfl⟩
  go_wp2_with fail
  refine (nanI_any y _).mono ?_
  rintro e w1 ⟨rfl, rfl⟩
  by_cases h1 : x < y
  · have d1 : decide (x < y) = true := by simpa using h1
    rw [if_pos h1] at hc; subst hc
    go_wp2_with fail
    go_ret
    exact ⟨rfl, rfl⟩
  · have d1 : decide (x < y) = false := by simpa using h1
    rw [if_neg h1] at hc
    by_cases h2 : y < x
    · have d2 : decide (y < x) = true := by simpa using h2
      rw [if_pos h2] at hc; subst hc
      go_wp2_with fail
      go_ret
      exact ⟨rfl, rfl⟩
    · have d2 : decide (y < x) = false := by simpa using h2
      rw [if_neg h2] at hc; subst hc
      go_wp2_with fail
      go_ret
      exact ⟨rfl, rfl⟩
/-- numbers of a slice of ints -/
abbrev encZ (x : Int) : List Value := [.int .i64 x]
set_option maxHeartbeats 1000000 in
theorem orI_any (v : Value) (L : List Int) (w : World) (h : Vec w Any1 1 encZ v L) (hn : L.length ≤ 1000000) :
    Calls Tryz.prog 104 #[v] w fun e w' => e = .returned (.int .i64 (orN L)) ∧ w = w' := by
  obtain ⟨a, cap, rfl⟩ := h.slice
  have HV := Lib.hid h; clear h
  obtain ⟨r, hr⟩ : ∃ r, orN L = r := ⟨_, rfl⟩
  rw [hr]
  have HR := Lib.hid hr; clear hr
  go_enter Tryz.func104, Tryz.ntmps104
  go_wp2_with fail
  go_loopw [8] (fun i wr => wr = w ∧ ∃ k : Nat, i = .int .i64 k ∧ k ≤ L.length ∧ Hid (orN (L.drop k) = r)) (fun i _ => L.length - (intOf i).toNat)
  case atStart => exact ⟨rfl, 0, rfl, by omega, Lib.hid HR.out⟩
  case round =>
    obtain ⟨rfl, k, rfl, hk, HT⟩ := hrel
    by_cases hlt : k < L.length
    · have hq : decide ((k : Int) < L.length) = true := by simp; omega
      obtain ⟨b, off, rfl, hb, hc⟩ := HV.out.get k hlt
      have c0 := hc 0 _ rfl
      rw [Nat.mul_one, Nat.add_zero] at c0
      have hd := List.drop_eq_getElem_cons hlt
      have ht := HT.out
      rw [hd] at ht
      obtain ⟨x, hx⟩ : ∃ x, L[k] = x := ⟨_, rfl⟩
      rw [hx] at c0 ht
      clear HT hd hx hc
      by_cases h0 : x = 0
      · subst h0
        unfold orN at ht
        rw [if_pos rfl] at ht
        have HT := Lib.hid ht; clear ht
        have d0 : ((0 : Int) != 0) = false := rfl
        go_wp2_with fail
        go_roundw
        case rel => exact ⟨trivial, k + 1, by go_num, by omega, HT⟩
        case measure => simp [intOf]; omega
      · have d0 : (x != (0 : Int)) = true := by simpa using h0
        unfold orN at ht
        rw [if_neg h0] at ht
        subst ht
        go_wp2_with fail
        go_ret
        exact ⟨rfl, rfl⟩
    · have hq : decide ((k : Int) < L.length) = false := by simp; omega
      have ht := HT.out
      rw [List.drop_eq_nil_of_le (by omega)] at ht
      unfold orN at ht
      subst ht
      clear HT
      go_wp2_with fail
      go_ret
      exact ⟨rfl, rfl⟩
set_option maxHeartbeats 2000000 in
theorem cmpW_any (S T : Nat → Prop) (u v : Value) (A B : List Int) (w : World) (hu : Vec w S 1 encU u A) (hv : Vec w T 1 encU v B) (hn : A.length ≤ 1000000) :
    Calls Tryz.prog 106 #[u, v] w fun e w' => e = .returned (.int .i64 (cmpW A B)) ∧ w = w' := by
  obtain ⟨a, ca, rfl⟩ := hu.slice
  obtain ⟨b, cb, rfl⟩ := hv.slice
  have HU := Lib.hid hu; have HV := Lib.hid hv; clear hu hv
  obtain ⟨r, hr⟩ : ∃ r, cmpW A B = r := ⟨_, rfl⟩
  rw [hr]
  have HR := Lib.hid hr; clear hr
  go_enter Tryz.func106, Tryz.ntmps106
  go_wp2_with fail
  go_loopw [11] (fun i wr => wr = w ∧ ∃ k : Nat, i = .int .i64 k ∧ k ≤ A.length ∧ k ≤ B.length ∧ Hid (cmpW (A.drop k) (B.drop k) = r)) (fun i _ => A.length - (intOf i).toNat)
  case atStart => exact ⟨rfl, 0, rfl, by omega, by omega, Lib.hid HR.out⟩
  case round =>
    obtain ⟨rfl, k, rfl, hk, hk2, HT⟩ := hrel
    by_cases hlt : k < A.length
    · have hq : decide ((k : Int) < A.length) = true := by simp; omega
      obtain ⟨ba, oa, rfl, hba, hca⟩ := HU.out.get k hlt
      have c0 := hca 0 _ rfl
      rw [Nat.mul_one, Nat.add_zero] at c0
      by_cases hl2 : k < B.length
      · have hq2 : decide ((B.length : Int) ≤ k) = false := by simp; omega
        obtain ⟨bb, ob, rfl, hbb, hcb⟩ := HV.out.get k hl2
        have e0 := hcb 0 _ rfl
        rw [Nat.mul_one, Nat.add_zero] at e0
        have ht := HT.out
        rw [cmpW_drop hlt hl2, getD_at _ _ hlt, getD_at _ _ hl2] at ht
        obtain ⟨x, hx⟩ : ∃ x, A[k] = x := ⟨_, rfl⟩
        obtain ⟨y, hy⟩ : ∃ y, B[k] = y := ⟨_, rfl⟩
        rw [hx] at c0 ht; rw [hy] at e0 ht
        obtain ⟨c, hc⟩ : ∃ c, cmp3 x y = c := ⟨_, rfl⟩
        rw [hc] at ht
        have HC := Lib.hid hc; have HT := Lib.hid ht
        clear hx hy hca hcb hc ht
        go_wp2_with fail
        refine (cmpU_any x y _).mono ?_
        rw [HC.out]
        rintro e w1 ⟨rfl, rfl⟩
        have ht := HT.out
        clear HT
        by_cases h0 : c = 0
        · subst h0
          rw [if_pos rfl] at ht
          have HT := Lib.hid ht; clear ht
          have d0 : ((0 : Int) != 0) = false := rfl
          go_wp2_with fail
          go_roundw
          case rel => exact ⟨trivial, k + 1, by go_num, by omega, by omega, HT⟩
          case measure => simp [intOf]; omega
        · have d0 : (c != (0 : Int)) = true := by simpa using h0
          rw [if_neg h0] at ht
          subst ht
          go_wp2_with fail
          go_ret
          exact ⟨rfl, rfl⟩
      · have hq2 : decide ((B.length : Int) ≤ k) = true := by simp; omega
        have ht := HT.out
        rw [show B.drop k = [] from List.drop_eq_nil_of_le (by omega), cmpW_nilr, if_neg (by rw [List.length_drop]; omega)] at ht
        subst ht
        clear HT hca
        go_wp2_with fail
        go_ret
        exact ⟨rfl, rfl⟩
    · have hq : decide ((k : Int) < A.length) = false := by simp; omega
      have ht := HT.out
      rw [show A.drop k = [] from List.drop_eq_nil_of_le (by omega), cmpW_nill, List.length_drop] at ht
      clear HT
      by_cases h1 : A.length < B.length
      · have d1 : decide ((A.length : Int) < B.length) = true := by simp; omega
        rw [if_neg (by omega)] at ht
        subst ht
        go_wp2_with fail
        go_ret
        exact ⟨rfl, rfl⟩
      · have d1 : decide ((A.length : Int) < B.length) = false := by simp; omega
        rw [if_pos (by omega)] at ht
        subst ht
        go_wp2_with fail
        go_ret
        exact ⟨rfl, rfl⟩
set_option maxHeartbeats 4000000 in
theorem cmpB_any (S T : Nat → Prop) (u v : Value) (a b : BitsL) (w : World) (hu : BitsAt w S u a) (hv : BitsAt w T v b) (hn : a.words.length ≤ 1000000) :
    Calls Tryz.prog 60 #[u, v] w fun e w' => e = .returned (.int .i64 (cmpB a b)) ∧ Below w.heap.size w w' := by
  obtain ⟨su, rfl, hu⟩ := hu
  obtain ⟨sv, rfl, hv⟩ := hv
  obtain ⟨aa, ca, rfl⟩ := hu.slice
  obtain ⟨ab, cb, rfl⟩ := hv.slice
  have HU := Lib.hid hu; have HV := Lib.hid hv; clear hu hv
  obtain ⟨x, hx⟩ : ∃ x, cmp3 a.len b.len = x := ⟨_, rfl⟩
  obtain ⟨y, hy⟩ : ∃ y, cmp3 a.words.length b.words.length = y := ⟨_, rfl⟩
  obtain ⟨z, hz⟩ : ∃ z, cmpW a.words b.words = z := ⟨_, rfl⟩
  obtain ⟨r, hr⟩ : ∃ r, cmpB a b = r := ⟨_, rfl⟩
  have hr2 : orN [x, y, z] = r := by rw [← hr, ← hx, ← hy, ← hz]; rfl
  rw [hr]
  have HX := Lib.hid hx; have HY := Lib.hid hy; have HZ := Lib.hid hz; have HR := Lib.hid hr2
  clear hx hy hz hr hr2
  go_enter Tryz.func60, Tryz.ntmps60
  go_wp2_with fail
  refine wp_world (fun W hW => ?_)
  have hb0 : Below w.heap.size w W := by rw [hW]; exact ((Below.refl w.heap.size w).alloc (Nat.le_refl _) _).alloc (by simp) _
  have ha0 : W.heap[w.heap.size]? = some (.cells #[.int .i64 a.len, .slice aa a.words.length ca] 84 (0, 0)) := by rw [hW]; exact blk_old (blk_new rfl)
  have he0 : W.heap[w.heap.size + 1]? = some (.cells #[.int .i64 b.len, .slice ab b.words.length cb] 84 (0, 0)) := by rw [hW]; exact blk_new (by simp)
  clear hW
  have HB0 := Lib.hid hb0
  obtain ⟨a0, a1⟩ := cells2K ha0; obtain ⟨b0, b1⟩ := cells2K he0
  have hwz := lt_of_blk he0
  clear ha0 he0 hb0
  refine wp_region_noPanic ?_
  refine wp_region_held_drew (S := (fun w' => w'.cell? ⟨w.heap.size, 0, none⟩ = some (.int .i64 a.len) ∧ w'.cell? ⟨w.heap.size, 1, none⟩ = some (.slice aa a.words.length ca) ∧ w'.cell? ⟨w.heap.size + 1, 0, none⟩ = some (.int .i64 b.len) ∧ w'.cell? ⟨w.heap.size + 1, 1, none⟩ = some (.slice ab b.words.length cb))) (by kernel_rfl) (⟨a0, a1, b0, b1⟩) (fun hHeld => ?_)
  refine tH 0 (h := ?_)
  try simp only [List.getElem_toArray, List.getElem_cons_zero, List.getElem_cons_succ, Act.put, List.setIfInBounds_toArray, List.set_cons_zero, List.set_cons_succ]
  refine tH 1 (h := ?_)
  try simp only [List.getElem_toArray, List.getElem_cons_zero, List.getElem_cons_succ, Act.put, List.setIfInBounds_toArray, List.set_cons_zero, List.set_cons_succ]
  refine tH 2 (h := ?_)
  try simp only [List.getElem_toArray, List.getElem_cons_zero, List.getElem_cons_succ, Act.put, List.setIfInBounds_toArray, List.set_cons_zero, List.set_cons_succ]
  refine tH 3 (h := ?_)
  try simp only [List.getElem_toArray, List.getElem_cons_zero, List.getElem_cons_succ, Act.put, List.setIfInBounds_toArray, List.set_cons_zero, List.set_cons_succ]
  refine tH 5 (h := ?_)
  try simp only [List.getElem_toArray, List.getElem_cons_zero, List.getElem_cons_succ, Act.put, List.setIfInBounds_toArray, List.set_cons_zero, List.set_cons_succ]
  refine tH 6 (h := ?_)
  try simp only [List.getElem_toArray, List.getElem_cons_zero, List.getElem_cons_succ, Act.put, List.setIfInBounds_toArray, List.set_cons_zero, List.set_cons_succ]
  refine tH 7 (h := ?_)
  try simp only [List.getElem_toArray, List.getElem_cons_zero, List.getElem_cons_succ, Act.put, List.setIfInBounds_toArray, List.set_cons_zero, List.set_cons_succ]
  refine tH 8 (h := ?_)
  try simp only [List.getElem_toArray, List.getElem_cons_zero, List.getElem_cons_succ, Act.put, List.setIfInBounds_toArray, List.set_cons_zero, List.set_cons_succ]
  refine tH 9 (h := ?_)
  try simp only [List.getElem_toArray, List.getElem_cons_zero, List.getElem_cons_succ, Act.put, List.setIfInBounds_toArray, List.set_cons_zero, List.set_cons_succ]
  refine tH 10 (h := ?_)
  try simp only [List.getElem_toArray, List.getElem_cons_zero, List.getElem_cons_succ, Act.put, List.setIfInBounds_toArray, List.set_cons_zero, List.set_cons_succ]
  refine tH 12 (h := ?_)
  try simp only [List.getElem_toArray, List.getElem_cons_zero, List.getElem_cons_succ, Act.put, List.setIfInBounds_toArray, List.set_cons_zero, List.set_cons_succ]
  refine tH 13 (h := ?_)
  try simp only [List.getElem_toArray, List.getElem_cons_zero, List.getElem_cons_succ, Act.put, List.setIfInBounds_toArray, List.set_cons_zero, List.set_cons_succ]
  refine tH 14 (h := ?_)
  try simp only [List.getElem_toArray, List.getElem_cons_zero, List.getElem_cons_succ, Act.put, List.setIfInBounds_toArray, List.set_cons_zero, List.set_cons_succ]
  refine tH 15 (h := ?_)
  try simp only [List.getElem_toArray, List.getElem_cons_zero, List.getElem_cons_succ, Act.put, List.setIfInBounds_toArray, List.set_cons_zero, List.set_cons_succ]
  refine wpAnyH_ready (rs := [4]) (by kernel_rfl) (by simp) ?_
  refine AllReadyH.cons rfl (fun K hK => ?_) AllReadyH.nil
  go_simp
  refine (cmpI_any _ _ _).mono ?_; rw [HX.out]; rintro e w1 ⟨rfl, rfl⟩
  refine hK.out _ _ (⟨a0, a1, b0, b1⟩) (fun hHeld => ?_)
  clear hK K
  try simp only [List.getElem_toArray, List.getElem_cons_zero, List.getElem_cons_succ, Act.put, List.setIfInBounds_toArray, List.set_cons_zero, List.set_cons_succ]
  refine wpAnyH_ready (rs := [11]) (by kernel_rfl) (by simp) ?_
  refine AllReadyH.cons rfl (fun K hK => ?_) AllReadyH.nil
  go_simp
  refine (cmpI_any _ _ _).mono ?_; rw [HY.out]; rintro e w1 ⟨rfl, rfl⟩
  refine hK.out _ _ (⟨a0, a1, b0, b1⟩) (fun hHeld => ?_)
  clear hK K
  try simp only [List.getElem_toArray, List.getElem_cons_zero, List.getElem_cons_succ, Act.put, List.setIfInBounds_toArray, List.set_cons_zero, List.set_cons_succ]
  refine wpAnyH_ready (rs := [16]) (by kernel_rfl) (by simp) ?_
  refine AllReadyH.cons rfl (fun K hK => ?_) AllReadyH.nil
  go_simp
  refine (cmpW_any S T _ _ a.words b.words _ (HU.out.below HB0.out.drew) (HV.out.below HB0.out.drew) hn).mono ?_; rw [HZ.out]; rintro e w1 ⟨rfl, rfl⟩
  refine hK.out _ _ (⟨a0, a1, b0, b1⟩) (fun hHeld => ?_)
  clear hK K
  try simp only [List.getElem_toArray, List.getElem_cons_zero, List.getElem_cons_succ, Act.put, List.setIfInBounds_toArray, List.set_cons_zero, List.set_cons_succ]
  refine wpAnyH_ready (rs := [17]) (by kernel_rfl) (by simp) ?_
  refine AllReadyH.cons rfl (fun K hK => ?_) AllReadyH.nil
  go_simp
  refine hK.out _ _ (⟨((Below.refl W.heap.size W).drew.alloc (Nat.le_refl _) _).cell (p := ⟨w.heap.size, 0, none⟩) (by show w.heap.size < _; omega) |>.trans a0, ((Below.refl W.heap.size W).drew.alloc (Nat.le_refl _) _).cell (p := ⟨w.heap.size, 1, none⟩) (by show w.heap.size < _; omega) |>.trans a1, ((Below.refl W.heap.size W).drew.alloc (Nat.le_refl _) _).cell (p := ⟨w.heap.size + 1, 0, none⟩) hwz |>.trans b0, ((Below.refl W.heap.size W).drew.alloc (Nat.le_refl _) _).cell (p := ⟨w.heap.size + 1, 1, none⟩) hwz |>.trans b1⟩) (fun hHeld => ?_)
  clear hK K
  try simp only [List.getElem_toArray, List.getElem_cons_zero, List.getElem_cons_succ, Act.put, List.setIfInBounds_toArray, List.set_cons_zero, List.set_cons_succ]
  refine wph_name (fun W1 hW1 => ?_)
  have hb1 : Below w.heap.size w W1 := by rw [hW1]; exact HB0.out.drew.alloc (by have := HB0.out.size; simpa using this) _
  have hv1 : Vec W1 Any1 1 encZ (.slice (some ⟨W.heap.size, 0, none⟩) 3 3) [x, y, z] := by rw [hW1]; exact blockVec (k := 1) (enc := encZ) (L := [x, y, z]) (S := Any1) (A := W.heap.size) (fun _ => rfl) (blk_new rfl) trivial 3 rfl
  have hHeld2 := hHeld
  rw [← hW1] at hHeld2
  clear hHeld hW1
  have hHeld := hHeld2; clear hHeld2
  have HV1 := Lib.hid hv1; have HB1 := Lib.hid hb1
  clear hv1 hb1
  refine wpAnyH_ready (rs := [18]) (by kernel_rfl) (by simp) ?_
  refine AllReadyH.cons rfl (fun K hK => ?_) AllReadyH.nil
  go_simp
  refine (orI_any _ [x, y, z] _ HV1.out (by simp)).mono ?_; rw [HR.out]; rintro e w1 ⟨rfl, rfl⟩
  refine hK.out _ _ (hHeld) (fun hHeld => ?_)
  clear hK K
  try simp only [List.getElem_toArray, List.getElem_cons_zero, List.getElem_cons_succ, Act.put, List.setIfInBounds_toArray, List.set_cons_zero, List.set_cons_succ]
  refine tH 19 (h := ?_)
  try simp only [List.getElem_toArray, List.getElem_cons_zero, List.getElem_cons_succ, Act.put, List.setIfInBounds_toArray, List.set_cons_zero, List.set_cons_succ]
  refine wpAnyH_done (by kernel_rfl) ?_ _
  refine NoPanic.normal ?_
  go_wp2_with fail
  go_ret
  exact ⟨rfl, HB1.out⟩
end
section
set_option maxRecDepth 100000
open Go.RowKit
theorem fl_u : ∀ l : List Int, l.flatMap encU = l.map (Value.int .u64) := by
  intro l; induction l with
  | nil => rfl
  | cons a l ih => simp only [List.flatMap_cons, List.map_cons, ih]; rfl
theorem word_cell {w : World} {g : Nat} {t : TypeId} {fr : Nat × Nat} {W : List Int} (h : w.heap[g]? = some (.cells (W.flatMap encU).toArray t fr)) (q : Nat) (hq : q < W.length) : w.cell? ⟨g, q, none⟩ = some (.int .u64 (W.getD q 0)) := by
  rw [cell_of_row _ _ _ _ _ _ h, fl_u, List.getElem?_toArray, List.getElem?_map, List.getElem?_eq_getElem hq, List.getD, List.getElem?_eq_getElem hq]; rfl
theorem word_set (W : List Int) (q : Nat) (x : Int) : ((W.flatMap encU).toArray).setIfInBounds q (.int .u64 x) = ((W.set q x).flatMap encU).toArray := by
  rw [fl_u, fl_u, List.setIfInBounds_toArray, List.map_set]
theorem fun_cellU {w : World} {gb : Nat} {t : TypeId} {fr : Nat × Nat} {L : List Int} (hr : w.heap[gb]? = some (.cells (L.flatMap encU).toArray t fr)) {i : Nat} {x : Int} (hi : L[i]? = some x) {u : Nat} {v : Value} (hu : (encU x)[u]? = some v) : w.cell? ⟨gb, 0 + i * 1 + u, none⟩ = some v := by
  rw [cell_of_row _ _ _ _ _ _ hr, Nat.zero_add, List.getElem?_toArray]
  have hul : u < 1 := (List.getElem?_eq_some_iff.1 hu).1
  rw [flat_get (enc := encU) (fun _ => rfl) L i x hi u hul]; exact hu
/-- where bloom.Encode stands: the boxes, the array's two cells, its words -/
structure EncAt (w : World) (p : ParL) (k : Int × Int) (gw c9 m : Nat) (W : List Int) (wr : World) : Prop where
  hp : wr.heap[w.heap.size]? = some (.cells (parC p) 81 (0, 0))
  hk : wr.heap[w.heap.size + 1]? = some (.cells #[.int .u64 k.1, .int .u64 k.2] 45 (0, 0))
  hr : wr.heap[w.heap.size + 2]? = some (.cells #[.int .i64 0, .slice none 0 0] 84 (0, 0))
  hc : wr.heap[c9]? = some (.cells #[.int .i64 p.len, .slice (some ⟨gw, 0, none⟩) m m] 84 (0, 0))
  hw : wr.heap[gw]? = some (.cells (W.flatMap encU).toArray 43 (0, 0))
  len : W.length = m
  ne : w.heap.size + 2 < gw ∧ w.heap.size + 2 < c9 ∧ gw ≠ c9
  b : Below w.heap.size w wr
theorem EncAt.below {w : World} {p : ParL} {k : Int × Int} {gw c9 m : Nat} {W : List Int} {wr wx : World} (h : EncAt w p k gw c9 m W wr) (hb : Below wr.heap.size wr wx) : EncAt w p k gw c9 m W wx :=
  ⟨blk_below hb (lt_of_blk h.hp) h.hp, blk_below hb (lt_of_blk h.hk) h.hk, blk_below hb (lt_of_blk h.hr) h.hr, blk_below hb (lt_of_blk h.hc) h.hc, blk_below hb (lt_of_blk h.hw) h.hw, h.len, h.ne, h.b.trans (hb.mono h.b.size)⟩
theorem EncAt.set {w : World} {p : ParL} {k : Int × Int} {gw c9 m : Nat} {W : List Int} {wr : World} (h : EncAt w p k gw c9 m W wr) (q : Nat) (x : Int) : EncAt w p k gw c9 m (W.set q x) (wr.setCell ⟨gw, q, none⟩ (.int .u64 x)) := by
  obtain ⟨n1, n2, n3⟩ := h.ne
  refine ⟨blk_far h.hp (by show w.heap.size ≠ gw; omega), blk_far h.hk (by show w.heap.size + 1 ≠ gw; omega), blk_far h.hr (by show w.heap.size + 2 ≠ gw; omega), blk_far h.hc (Ne.symm n3), ?_, by rw [List.length_set]; exact h.len, h.ne, h.b.setCell (p := ⟨gw, q, none⟩) (by show w.heap.size ≤ gw; omega) _⟩
  rw [← word_set]; exact blk_set h.hw
theorem EncAt.drew {w : World} {p : ParL} {k : Int × Int} {gw c9 m : Nat} {W : List Int} {wr : World} (h : EncAt w p k gw c9 m W wr) : EncAt w p k gw c9 m W wr.drew := ⟨h.hp, h.hk, h.hr, h.hc, h.hw, h.len, h.ne, h.b.drew⟩
def EncodePost (b : BitsL) (w : World) (e : Ending) (w' : World) : Prop := ∃ v, e = .returned (.tuple #[v, .int .i64 0]) ∧ BitsAt w' (fun x => w.heap.size ≤ x) v b ∧ Below w.heap.size w w'
set_option maxHeartbeats 8000000 in
theorem bencode_yes (S : Nat → Prop) (p : ParL) (k : Int × Int) (v : Value) (G : List (List UInt8)) (w : World) (hp : ParOk p) (hv : Vec w S 1 encS v G) (hg : ∀ g ∈ G, g.length ≤ 60000) (hn : G.length ≤ 80) :
    Calls Tryz.prog 140 #[.agg (parC p), .agg #[.int .u64 k.1, .int .u64 k.2], v] w (EncodePost (bloomN p k G).1 w) := by
  obtain ⟨a, cap, rfl⟩ := hv.slice
  have hl1 := hp.len1; have hl2 := hp.len2
  have hbm : (bloomN p k G).1 = ⟨p.len, G.foldl (orGram p k) (zeroW p.len)⟩ := by unfold bloomN; rw [if_pos hp.bloom, if_pos hn]
  rw [hbm]
  have HP := Lib.hid hp; have HV := Lib.hid hv.any; have HGl := Lib.hid hg
  have hn80 : decide ((80 : Int) < G.length) = false := by simp; omega
  clear hp hbm hv hg
  go_enter Tryz.func140, Tryz.ntmps140
  go_wp2_with fail
  refine wp_calls_world (fun W hW => ?_)
  have hb0 : Below w.heap.size w W := by rw [hW]; exact (((Below.refl _ _).alloc (Nat.le_refl _) _).alloc (by simp) _).alloc (by simp; omega) _
  have hp0 : W.heap[w.heap.size]? = some (.cells (parC p) 81 (0, 0)) := by rw [hW]; exact blk_old (blk_old (blk_new rfl))
  have hk0 : W.heap[w.heap.size + 1]? = some (.cells #[.int .u64 k.1, .int .u64 k.2] 45 (0, 0)) := by rw [hW]; exact blk_old (blk_new (by simp))
  have hr0 : W.heap[w.heap.size + 2]? = some (.cells #[.int .i64 0, .slice none 0 0] 84 (0, 0)) := by rw [hW]; exact blk_new (by simp)
  clear hW
  refine (bcheck_yes p W HP.out).mono ?_
  rintro e w1 ⟨rfl, hb⟩
  have hp1 := blk_below hb (lt_of_blk hp0) hp0; have hk1 := blk_below hb (lt_of_blk hk0) hk0; have hr1 := blk_below hb (lt_of_blk hr0) hr0
  have hb1 := hb0.trans (hb.mono hb0.size)
  have HB1 := Lib.hid hb1; have HP1 := Lib.hid hp1; have HK1 := Lib.hid hk1; have HR1 := Lib.hid hr1
  obtain ⟨q0, q1, q2⟩ := cells3 hp1; obtain ⟨k0, k1⟩ := cells2K hk1
  clear hb0 hp0 hk0 hr0 hb hp1 hk1 hr1 hb1
  go_wp2_with fail
  refine (bnew_yes p.len _ HP.out.right).mono ?_
  rintro e w2 ⟨gw, m, rfl, hm, hgw, hw0, hb⟩
  have hz0 := lt_of_blk HR1.out
  have hE : EncAt w p k gw w2.heap.size m (zeroW p.len) (w2.alloc (.cells #[.int .i64 p.len, .slice (some ⟨gw, 0, none⟩) m m] 84)) := by
    have hz1 := lt_of_blk hw0
    exact ⟨blk_old (blk_below hb (lt_of_blk HP1.out) HP1.out), blk_old (blk_below hb (lt_of_blk HK1.out) HK1.out), blk_old (blk_below hb (lt_of_blk HR1.out) HR1.out), blk_new rfl, blk_old hw0, by unfold zeroW; rw [List.length_replicate]; omega, ⟨by omega, by omega, by omega⟩, ((HB1.out.trans (hb.mono HB1.out.size)).alloc (by have := HB1.out.size; have := hb.size; omega) _)⟩
  have hm8 : m ≤ 8 := by omega
  have HM := Lib.hid hm
  have HE := Lib.hid hE
  clear hE hm hgw hw0 hb q0 q1 q2 k0 k1 HB1 HP1 HK1 HR1 hz0
  go_wp2_with fail
  refine wp_world (fun W0 hW0 => ?_)
  rw [← hW0] at HE
  have HBW := Lib.hid HE.out.b
  clear hW0
  go_loopw [12, 13, 14, 16, 35] (fun _ _ _ _ i wr => ∃ j : Nat, i = .int .i64 j ∧ j ≤ G.length ∧ EncAt w p k gw w2.heap.size m ((G.take j).foldl (orGram p k) (zeroW p.len)) wr) (fun _ _ _ _ i _ => G.length - (intOf i).toNat)
  case atStart => exact ⟨0, rfl, by omega, HE.out⟩
  case round =>
    obtain ⟨j, rfl, hj, he⟩ := hrel
    have HE2 := Lib.hid he; clear he HE
    by_cases hlt : j < G.length
    · have hq : decide ((j : Int) < G.length) = true := by simp; omega
      obtain ⟨g, hg⟩ : ∃ g, G[j] = g := ⟨_, rfl⟩
      have hgl : g.length ≤ 60000 := HGl.out g (by rw [← hg]; exact List.getElem_mem _)
      have hts : (G.take (j + 1)).foldl (orGram p k) (zeroW p.len) = orGram p k ((G.take j).foldl (orGram p k) (zeroW p.len)) g := by rw [List.take_succ_eq_append_getElem hlt, hg, List.foldl_append]; rfl
      have HTs := Lib.hid hts; clear hts
      obtain ⟨b, off, rfl, hbb, hc⟩ := (HV.out.below HE2.out.b).get j hlt
      have c0 := hc 0 _ rfl
      rw [Nat.mul_one, Nat.add_zero, hg] at c0
      obtain ⟨q0, q1, q2⟩ := cells3 HE2.out.hp; obtain ⟨k0, k1⟩ := cells2K HE2.out.hk
      obtain ⟨Wj, hWj⟩ : ∃ Wj, (G.take j).foldl (orGram p k) (zeroW p.len) = Wj := ⟨_, rfl⟩
      rw [hWj] at HE2 HTs
      clear hc hWj hg
      go_wp2_with fail
      refine (positions_yes p k g _ HP.out hgl).mono ?_
      rintro e w4 ⟨v4, rfl, hv4, hb4⟩
      have hgz := lt_of_blk HE2.out.hw
      have HE4 := Lib.hid (HE2.out.below hb4)
      have HV4 := Lib.hid (hv4.move (w' := w4) (S' := fun b => b ≠ gw) (Nat.le_refl _) fun b hb hs => ⟨rfl, by have hs' : wr.heap.size ≤ b := hs; omega⟩)
      obtain ⟨a4, c4, rfl⟩ := hv4.slice
      have hbd := posN_bd p.len (stepP p k g) (by omega) p.hashes.toNat (firstP p k g) (Int.emod_nonneg _ (by omega)) (Int.emod_lt_of_pos _ (by omega))
      have hlenl : (positionsN p k g).length ≤ 16 := by unfold positionsN; rw [posN_len]; have := HP.out.h2; omega
      have hog : orGram p k Wj g = (positionsN p k g).foldl orBit Wj := rfl
      obtain ⟨l, hl⟩ : ∃ l, positionsN p k g = l := ⟨_, rfl⟩
      have hbd2 : ∀ i ∈ l, 0 ≤ i ∧ i < p.len := by rw [← hl]; exact hbd
      rw [hl] at hlenl hog HV4 ⊢
      have HBd := Lib.hid hbd2; have HOG := Lib.hid hog
      clear hv4 hb4 hbd hl hbd2 hog HE2 q0 q1 q2 k0 k1 c0
      go_wp2_with fail
      go_loopw [16, 48] (fun _ i wr => ∃ n : Nat, i = .int .i64 n ∧ n ≤ l.length ∧ EncAt w p k gw w2.heap.size m ((l.take n).foldl orBit Wj) wr ∧ Vec wr (fun b => b ≠ gw) 1 encI (.slice a4 l.length c4) l) (fun _ i _ => l.length - (intOf i).toNat)
      case atStart => exact ⟨0, rfl, by omega, HE4.out, HV4.out⟩
      case round =>
        obtain ⟨n, rfl, hn, he, hv⟩ := hrel
        have HE5 := Lib.hid he; have HV5 := Lib.hid hv; clear he hv HE4 HV4
        by_cases hlt2 : n < l.length
        · have hq2 : decide ((n : Int) < l.length) = true := by simp; omega
          obtain ⟨i, hi⟩ : ∃ i, l[n] = i := ⟨_, rfl⟩
          obtain ⟨i0, i1⟩ := HBd.out i (by rw [← hi]; exact List.getElem_mem _)
          have hts2 : (l.take (n + 1)).foldl orBit Wj = orBit ((l.take n).foldl orBit Wj) i := by rw [List.take_succ_eq_append_getElem hlt2, hi, List.foldl_append]; rfl
          obtain ⟨Wn, hWn⟩ : ∃ Wn, (l.take n).foldl orBit Wj = Wn := ⟨_, rfl⟩
          rw [hWn] at HE5 hts2
          have HT2 := Lib.hid hts2
          obtain ⟨b4, off4, rfl, hbb4, hc4⟩ := HV5.out.get n hlt2
          have c5 := hc4 0 _ rfl
          rw [Nat.mul_one, Nat.add_zero, hi] at c5
          have hqn : (i / 64).toNat < Wn.length := by rw [HE5.out.len]; have := HM.out; omega
          have cw := word_cell HE5.out.hw _ hqn
          have fw := frozen_of_row _ _ (i / 64).toNat _ _ HE5.out.hw
          obtain ⟨d0, d1⟩ := cells2K HE5.out.hc
          clear hc4 hWn hi hts2
          have ht1 : i.tdiv 64 = i / 64 := Int.tdiv_eq_ediv_of_nonneg i0
          have ht2 : i.tmod 64 = i % 64 := Int.tmod_eq_emod_of_nonneg i0
          have hw1 : IntKind.i64.wrap (i / 64) = i / 64 := by rw [IntKind.wrap_i64]; omega
          have j0 : (0 : Int) ≤ i / 64 := by omega
          have j1 : i / 64 < (m : Int) := by have := HM.out; omega
          have j2 : (0 : Int) ≤ i % 64 := by omega
          have j3 : ¬ (i % 64 < 0) := by omega
          obtain ⟨wd, hwd⟩ : ∃ wd, Wn.getD (i / 64).toNat 0 = wd := ⟨_, rfl⟩
          rw [hwd] at cw
          have HWD := Lib.hid hwd; clear hwd
          go_wp2_with fail
          refine wp_region_noPanic ?_
          refine wp_region_k (by kernel_rfl) (fun w' => w'.cell? ⟨w2.heap.size, 1, none⟩ = some (.slice (some ⟨gw, 0, none⟩) m m) ∧ w'.cell? ⟨gw, (i / 64).toNat, none⟩ = some (.int .u64 wd)) 11 (⟨d1, cw⟩) (fun hHeld => ?_)
          refine tK 0 (h := ?_)
          try simp only [List.getElem_toArray, List.getElem_cons_zero, List.getElem_cons_succ, Act.put, List.setIfInBounds_toArray, List.set_cons_zero, List.set_cons_succ]
          refine tK 1 (h := ?_)
          try simp only [List.getElem_toArray, List.getElem_cons_zero, List.getElem_cons_succ, Act.put, List.setIfInBounds_toArray, List.set_cons_zero, List.set_cons_succ]
          refine tK 2 (h := ?_)
          try simp only [List.getElem_toArray, List.getElem_cons_zero, List.getElem_cons_succ, Act.put, List.setIfInBounds_toArray, List.set_cons_zero, List.set_cons_succ]
          refine tK 3 (h := ?_)
          try simp only [List.getElem_toArray, List.getElem_cons_zero, List.getElem_cons_succ, Act.put, List.setIfInBounds_toArray, List.set_cons_zero, List.set_cons_succ]
          refine tK 4 (h := ?_)
          try simp only [List.getElem_toArray, List.getElem_cons_zero, List.getElem_cons_succ, Act.put, List.setIfInBounds_toArray, List.set_cons_zero, List.set_cons_succ]
          refine tK 5 (h := ?_)
          try simp only [List.getElem_toArray, List.getElem_cons_zero, List.getElem_cons_succ, Act.put, List.setIfInBounds_toArray, List.set_cons_zero, List.set_cons_succ]
          refine tK 6 (h := ?_)
          try simp only [List.getElem_toArray, List.getElem_cons_zero, List.getElem_cons_succ, Act.put, List.setIfInBounds_toArray, List.set_cons_zero, List.set_cons_succ]
          refine tK 7 (h := ?_)
          try simp only [List.getElem_toArray, List.getElem_cons_zero, List.getElem_cons_succ, Act.put, List.setIfInBounds_toArray, List.set_cons_zero, List.set_cons_succ]
          refine tK 8 (h := ?_)
          try simp only [List.getElem_toArray, List.getElem_cons_zero, List.getElem_cons_succ, Act.put, List.setIfInBounds_toArray, List.set_cons_zero, List.set_cons_succ]
          refine tK 9 (h := ?_)
          try simp only [List.getElem_toArray, List.getElem_cons_zero, List.getElem_cons_succ, Act.put, List.setIfInBounds_toArray, List.set_cons_zero, List.set_cons_succ]
          refine tK 10 (h := ?_)
          try simp only [List.getElem_toArray, List.getElem_cons_zero, List.getElem_cons_succ, Act.put, List.setIfInBounds_toArray, List.set_cons_zero, List.set_cons_succ]
          refine wpAnyK_ready (rs := [11]) (by kernel_rfl) (by simp) ?_
          refine AllReadyK.cons rfl (fun K hK => ?_) AllReadyK.nil
          go_simp
          refine shutK_off hK (by decide) ?_
          clear hK K
          try simp only [List.getElem_toArray, List.getElem_cons_zero, List.getElem_cons_succ, Act.put, List.setIfInBounds_toArray, List.set_cons_zero, List.set_cons_succ]
          refine wpAnyK_done (by kernel_rfl) ?_ _
          refine NoPanic.normal ?_
          go_wp2_with fail
          go_roundw
          case rel =>
            refine ⟨n + 1, by go_num, by omega, ?_, ?_⟩
            · rw [HT2.out]
              have e : orBit Wn i = Wn.set (i / 64).toNat (bits .or .u64 wd (IntKind.u64.wrap (2 ^ (i % 64).toNat))) := by rw [← HWD.out]; rfl
              rw [e]; exact (HE5.out.set _ _).drew
            · exact (HV5.out.set1 (a := ⟨gw, (i / 64).toNat, none⟩) (fun b hb => hb) _).below ((Below.refl _ _).drew)
          case measure => simp [intOf]; omega
        · have hq2 : decide ((n : Int) < l.length) = false := by simp; omega
          obtain rfl : n = l.length := by omega
          rw [List.take_of_length_le (Nat.le_refl _), ← HOG.out, ← HTs.out] at HE5
          clear HV5
          go_wp2_with fail
          go_roundw
          case rel => exact ⟨j + 1, by go_num, by omega, HE5.out⟩
          case measure => simp [intOf]; omega
    · have hq : decide ((j : Int) < G.length) = false := by simp; omega
      obtain rfl : j = G.length := by omega
      rw [List.take_of_length_le (Nat.le_refl _)] at HE2
      obtain ⟨d0, d1⟩ := cells2K HE2.out.hc
      obtain ⟨r0, r1⟩ := cells2K HE2.out.hr
      have f0 := frozen_of_row _ _ 0 _ _ HE2.out.hr; have f1 := frozen_of_row _ _ 1 _ _ HE2.out.hr
      have zr := lt_of_blk HE2.out.hr
      go_wp2_with fail
      have hne := HE2.out.ne
      refine bodyPost_row2 rfl rfl (blk_set (i := 1) (v := .slice (some ⟨gw, 0, none⟩) m m) (blk_set (i := 0) (v := .int .i64 p.len) HE2.out.hr)) Tryz.underlying84 rfl (by kernel_rfl) ⟨_, rfl, ⟨_, rfl, ?_⟩, (HE2.out.b.setCell (p := ⟨w.heap.size + 2, 0, none⟩) (by show w.heap.size ≤ w.heap.size + 2; omega) _).setCell (p := ⟨w.heap.size + 2, 1, none⟩) (by show w.heap.size ≤ w.heap.size + 2; omega) _⟩
      have hgw := blk_far (a := ⟨w.heap.size + 2, 1, none⟩) (v := .slice (some ⟨gw, 0, none⟩) m m) (blk_far (a := ⟨w.heap.size + 2, 0, none⟩) (v := .int .i64 p.len) HE2.out.hw (by show gw ≠ w.heap.size + 2; omega)) (by show gw ≠ w.heap.size + 2; omega)
      have hl := HE2.out.len
      obtain ⟨WW, hWW⟩ : ∃ WW, G.foldl (orGram p k) (zeroW p.len) = WW := ⟨_, rfl⟩
      rw [hWW] at hgw hl ⊢
      exact ⟨_, m, by rw [hl], by rw [hl]; exact Nat.le_refl _, fun _ => ⟨gw, 0, rfl, by show w.heap.size ≤ gw; omega, lt_of_blk hgw, fun i x hi u v hu => fun_cellU hgw hi hu⟩⟩
end
end Go.Proofs.YtoeplomdcannlaaGreatDoor
section
namespace Go.Proofs
open Go.Shelf
def Tryz.lays171_ren : Go.Shelf.Ren := ⟨fun | 171 => 50 | 243 => 97 | 246 => 142 | 283 => 189 | 284 => 190 | 285 => 191 | 286 => 192 | 129 => 241 | 317 => 240 | 318 => 242 | 319 => 243 | 320 => 244 | 337 => 272 | 338 => 273 | n => n, fun | 3 => 3 | 9 => 9 | 2 => 2 | 4 => 4 | 171 => 214 | 0 => 0 | 53 => 43 | 37 => 55 | 5 => 5 | 173 => 217 | 212 => 253 | 51 => 245 | 20 => 20 | 213 => 254 | 46 => 92 | 232 => 287 | 233 => 288 | n => n, fun | 17 => 3 | 18 => 6 | 19 => 7 | n => n⟩
theorem Tryz.lays171 : Go.Proofs.Lays.n171 Tryz.prog Tryz.lays171_ren := {
  mixed := by kernel_rfl
  f129 := Tryz.func241.trans (congrArg some (by kernel_rfl))
  f171 := Tryz.func50.trans (congrArg some (by kernel_rfl))
  f243 := Tryz.func97.trans (congrArg some (by kernel_rfl))
  f246 := Tryz.func142.trans (congrArg some (by kernel_rfl))
  f283 := Tryz.func189.trans (congrArg some (by kernel_rfl))
  f284 := Tryz.func190.trans (congrArg some (by kernel_rfl))
  f285 := Tryz.func191.trans (congrArg some (by kernel_rfl))
  f286 := Tryz.func192.trans (congrArg some (by kernel_rfl))
  f317 := Tryz.func240.trans (congrArg some (by kernel_rfl))
  f318 := Tryz.func242.trans (congrArg some (by kernel_rfl))
  f319 := Tryz.func243.trans (congrArg some (by kernel_rfl))
  f320 := Tryz.func244.trans (congrArg some (by kernel_rfl))
  f337 := Tryz.func272.trans (congrArg some (by kernel_rfl))
  f338 := Tryz.func273.trans (congrArg some (by kernel_rfl))
  t0 := Tryz.underlying0
  a0 := Tryz.isAgg0
  z0 := Tryz.sizeOf0
  v0 := Tryz.zeroValue0
  t2 := Tryz.underlying2
  a2 := Tryz.isAgg2
  z2 := Tryz.sizeOf2
  v2 := Tryz.zeroValue2
  t3 := Tryz.underlying3
  a3 := Tryz.isAgg3
  z3 := Tryz.sizeOf3
  v3 := Tryz.zeroValue3
  t4 := Tryz.underlying4
  a4 := Tryz.isAgg4
  z4 := Tryz.sizeOf4
  v4 := Tryz.zeroValue4
  t5 := Tryz.underlying5
  a5 := Tryz.isAgg5
  z5 := Tryz.sizeOf5
  v5 := Tryz.zeroValue5
  t9 := Tryz.underlying9
  a9 := Tryz.isAgg9
  z9 := Tryz.sizeOf9
  v9 := Tryz.zeroValue9
  t20 := Tryz.underlying20
  a20 := Tryz.isAgg20
  z20 := Tryz.sizeOf20
  v20 := Tryz.zeroValue20
  t37 := Tryz.underlying55
  a37 := Tryz.isAgg55
  z37 := Tryz.sizeOf55
  v37 := Tryz.zeroValue55
  t46 := Tryz.underlying92
  a46 := Tryz.isAgg92
  z46 := Tryz.sizeOf92
  v46 := Tryz.zeroValue92
  t51 := Tryz.underlying245
  a51 := Tryz.isAgg245
  z51 := Tryz.sizeOf245
  v51 := Tryz.zeroValue245
  t53 := Tryz.underlying43
  a53 := Tryz.isAgg43
  z53 := Tryz.sizeOf43
  v53 := Tryz.zeroValue43
  t171 := Tryz.underlying214
  a171 := Tryz.isAgg214
  z171 := Tryz.sizeOf214
  v171 := Tryz.zeroValue214
  t173 := Tryz.underlying217
  a173 := Tryz.isAgg217
  z173 := Tryz.sizeOf217
  v173 := Tryz.zeroValue217
  t212 := Tryz.underlying253
  a212 := Tryz.isAgg253
  z212 := Tryz.sizeOf253
  v212 := Tryz.zeroValue253
  t213 := Tryz.underlying254
  a213 := Tryz.isAgg254
  z213 := Tryz.sizeOf254
  t232 := Tryz.underlying287
  a232 := Tryz.isAgg287
  z232 := Tryz.sizeOf287
  v232 := Tryz.zeroValue287
  t233 := Tryz.underlying288
  a233 := Tryz.isAgg288
  z233 := Tryz.sizeOf288
  v233 := Tryz.zeroValue288
  g17 := by kernel_rfl
  g18 := by kernel_rfl
  g19 := by kernel_rfl }
open Go.RowKit Go.Sort Go.Lib in
/-- THE ROAD WITHOUT THE TABLE: 0 <= i < 100: NO PREMISE ON THE WORLD, AND THE WORLD IS AS IT WAS: a row that keeps its argument in that range need list no table ('laid = []'). (LAID: no walk: one application.) -/
theorem Tryz.strconv_Itoa_small (i : Nat) (hi : i < 100) (w : World) :
    Calls Tryz.prog 50 #[.int .i64 i] w fun e w' => e = .returned (.string ⟨(Lib.decDigits i).toArray⟩) ∧ w' = w := Any.strconv_Itoa_small Tryz.lays171 i hi w
end Go.Proofs
end
namespace Go.Proofs.YtoeplomdcannlaaGreatDoor
section
set_option maxRecDepth 100000
open Go.RowKit
attribute [local go_sem] toList_mk mk_size str_append
def DressPost (D : Nat) (l : List UInt8) (w : World) (e : Ending) (w' : World) : Prop := ∃ o : List UInt8, e = .returned (strV o) ∧ DressOf l o ∧ Moved D w w'
/-- texts that have just been laid into a new block, to pick from -/
theorem pick_new (D : Nat) (w w0 : World) (L : List (List UInt8)) (n : Nat) (hn : n = L.length) (h1 : 1 ≤ n) (h2 : n ≤ 1000) (m : Moved D w0 w) :
    Calls Tryz.prog 80 #[.pointer (some ⟨D, 0, none⟩), .slice (some ⟨w.heap.size, 0, none⟩) n n] (w.alloc (.cells (L.flatMap encS).toArray 9)) (PickPost D L w0) := by
  have hD := m.deck.lt
  have m2 := m.alloc (.cells (L.flatMap encS).toArray 9)
  exact (pick_any D _ _ L m2.deck (blockVec (k := 1) (enc := encS) (L := L) (S := fun b => b ≠ D) (A := w.heap.size) (fun _ => rfl) (blk_new rfl) (by omega) n hn) (by omega) (by omega)).mono fun _ _ ⟨l, he, hl, hm⟩ => ⟨l, he, hl, m2.trans hm⟩
theorem dressB_len {x : List UInt8} (h : x ∈ dressB) : x.length ≤ 2 := by
  simp [dressB] at h
  rcases h with rfl | rfl | rfl | rfl | rfl | rfl <;> simp
theorem dressC_len {x : List UInt8} (h : x ∈ dressC) : x.length ≤ 2 := by
  simp [dressC] at h
  rcases h with rfl | rfl | rfl <;> simp
/-- how far a text has been dressed -/
def DressMid (D : Nat) (w : World) (l : List UInt8) (k : Nat) (ol : List UInt8) (wr : World) : Prop := DressTo (l.take k) ol ∧ Moved D w wr
set_option maxHeartbeats 4000000 in
theorem dress_any (D : Nat) (s : ByteArray) (w : World) (h : DeckAt w D) (hs : ∀ b ∈ s.data.toList, okB b = true) (hn : s.size ≤ 1000) :
    Calls Tryz.prog 81 #[.pointer (some ⟨D, 0, none⟩), .string s] w (DressPost D s.data.toList w) := by
  have hl : s.data.toList.length = s.size := by simp
  have HL := Lib.hid hl; clear hl
  have HS := Lib.hid hs; clear hs
  have M0 := Lib.hid (Moved.start h); clear h
  go_enter Tryz.func81, Tryz.ntmps81
  go_wp2_with fail
  refine (pick_new D _ w dressA 4 rfl (by omega) (by omega) M0.out).mono ?_
  rintro e w1 ⟨o, rfl, ho, mv⟩
  have K0 := Lib.hid (show DressMid D w s.data.toList 0 o w1 from ⟨DressTo.start ho, mv⟩)
  clear ho mv
  go_wp2_with fail
  go_loopw [5, 6] (fun v i wr => ∃ (k : Nat) (ol : List UInt8), v = strV ol ∧ i = .int .i64 k ∧ k ≤ s.size ∧ DressMid D w s.data.toList k ol wr) (fun _ i _ => s.size - (intOf i).toNat)
  case atStart => exact ⟨0, o, rfl, rfl, by omega, K0.out⟩
  case round =>
    obtain ⟨k, ol, rfl, rfl, hk, hm⟩ := hrel
    have HT := Lib.hid hm.1; have M1 := Lib.hid hm.2
    have hol : ol.length ≤ 2001 := by have := hm.1.len; have := List.length_take_le k s.data.toList; omega
    clear hm K0
    by_cases hlt : k < s.size
    · have hq : decide ((k : Int) < s.size) = true := by simp; omega
      have ht := Lib.hid (take_snoc' s k hlt)
      have hok := Lib.hid (HS.out s[k] (by rw [show s[k] = s.data.toList[k]'(by rw [HL.out]; exact hlt) from rfl]; exact List.getElem_mem _))
      have hb := s[k].toNat_lt
      by_cases hsp : s[k] = 32
      · have e1 : ((s[k].toNat : Int) == 32) = true := by rw [hsp]; rfl
        have HSp := Lib.hid hsp; clear hsp
        go_wp2_with fail
        refine (pick_new D _ w dressB 6 rfl (by omega) (by omega) M1.out).mono ?_
        rintro e w2 ⟨x, rfl, hx, mv⟩
        have hxl := dressB_len hx
        have K1 := Lib.hid (show DressMid D w s.data.toList (k + 1) (ol ++ x) w2 from ⟨by rw [ht.out, HSp.out]; exact HT.out.space hx, mv⟩)
        clear hx mv e1
        go_wp2_with fail
        go_roundw
        case rel => exact ⟨k + 1, ol ++ x, rfl, by go_num, by omega, K1.out⟩
        case measure => simp [intOf]; omega
      · have e1 : ((s[k].toNat : Int) == 32) = false := by
          simp only [beq_eq_false_iff_ne, ne_eq]; intro e; apply hsp; rw [← UInt8.toNat_inj]; simp; omega
        clear hsp
        go_upto_block 2 with (fail)
        go_cut [5, 7] (fun s5 s7 wx => ∃ x : UInt8, s5 = strV ol ∧ s7 = .int .u8 x.toNat ∧ okByte x = true ∧ plainB x = [s[k]] ∧ Moved D w wx)
        case first =>
          cases hlo : isLow s[k]
          · have hc := hlo
            rw [low_iff, decide_eq_false_iff_not] at hc
            have hc' : (97 ≤ (s[k].toNat : Int) ∧ 122 < (s[k].toNat : Int)) ∨ (s[k].toNat : Int) < 97 := by omega
            clear hc hlo
            rcases hc' with ⟨g1, g2⟩ | g1
            all_goals
              go_wp2_with fail
              go_meet
              exact ⟨s[k], rfl, rfl, (plain_self hok.out).1, (plain_self hok.out).2, M1.out⟩
          · have hup := Lib.hid (plain_up hlo)
            have hc := hlo
            rw [low_iff, decide_eq_true_iff] at hc
            obtain ⟨g1, g2⟩ := hc
            have e2 : ((s[k] - 32).toNat : Int) = (s[k].toNat : Int) - 32 := by
              rw [UInt8.toNat_sub_of_le _ _ (by rw [UInt8.le_iff_toNat_le]; show 32 ≤ _; omega)]
              show ((s[k].toNat - 32 : Nat) : Int) = _
              omega
            have HE := Lib.hid e2; clear hlo e2
            go_wp2_with fail
            refine (one_any D _ 3 M1.out.deck (by omega) (by omega)).mono ?_
            rintro e w2 ⟨u, rfl, mv⟩
            have M2 := Lib.hid (M1.out.trans mv); clear mv
            cases u
            · go_wp2_with fail
              go_meet
              exact ⟨s[k], rfl, rfl, (plain_self hok.out).1, (plain_self hok.out).2, M2.out⟩
            · go_wp2_with fail
              go_meet
              exact ⟨s[k] - 32, rfl, by rw [HE.out], hup.out.1, hup.out.2, M2.out⟩
        case rest =>
          obtain ⟨x, rfl, rfl, hx1, hx2, m3⟩ := hcut
          have HX1 := Lib.hid hx1; have HX2 := Lib.hid hx2; have M3 := Lib.hid m3
          clear hx1 hx2 m3
          have hcv := one_byte wc x
          go_wp2_with fail
          refine (one_any D _ 20 (M3.out.alloc _).deck (by omega) (by omega)).mono ?_
          rintro e w2 ⟨u, rfl, mv⟩
          have M4 := Lib.hid ((M3.out.alloc _).trans mv)
          have K1 := Lib.hid (show DressMid D w s.data.toList (k + 1) (ol ++ [x]) w2 from ⟨by rw [ht.out]; exact HT.out.byte HX1.out HX2.out, M4.out⟩)
          have K2 := Lib.hid (show DressMid D w s.data.toList (k + 1) (ol ++ [x] ++ [39]) w2 from ⟨by rw [ht.out]; exact HT.out.mark HX1.out HX2.out, M4.out⟩)
          clear mv hcv
          cases u
          · go_wp2_with fail
            go_roundw
            case rel => exact ⟨k + 1, ol ++ [x], rfl, by go_num, by omega, K1.out⟩
            case measure => simp [intOf]; omega
          · by_cases h2 : k + 1 < s.size
            · have e2 : decide ((k : Int) + 1 < s.size) = true := by simp; omega
              by_cases hs2 : s[k + 1] = 32
              · have e3 : ((s[k + 1].toNat : Int) != 32) = false := by rw [hs2]; rfl
                clear hs2
                go_wp2_with fail
                go_roundw
                case rel => exact ⟨k + 1, ol ++ [x], rfl, by go_num, by omega, K1.out⟩
                case measure => simp [intOf]; omega
              · have e3 : ((s[k + 1].toNat : Int) != 32) = true := by
                  simp only [bne_iff_ne, ne_eq]; intro e; apply hs2; rw [← UInt8.toNat_inj]; simp; omega
                clear hs2
                go_wp2_with fail
                go_roundw
                case rel => exact ⟨k + 1, ol ++ [x] ++ [39], by simp, by go_num, by omega, K2.out⟩
                case measure => simp [intOf]; omega
            · have e2 : decide ((k : Int) + 1 < s.size) = false := by simp; omega
              go_wp2_with fail
              go_roundw
              case rel => exact ⟨k + 1, ol ++ [x], rfl, by go_num, by omega, K1.out⟩
              case measure => simp [intOf]; omega
    · have hq : decide ((k : Int) < s.size) = false := by simp; omega
      rw [List.take_of_length_le (by rw [HL.out]; omega)] at HT
      go_wp2_with fail
      refine (pick_new D _ w dressC 4 rfl (by omega) (by omega) M1.out).mono ?_
      rintro e w2 ⟨x, rfl, hx, mv⟩
      have hxl := dressC_len hx
      have M2 := Lib.hid mv; have HO := Lib.hid (HT.out.done hx)
      clear mv hx
      go_wp2_with fail
      go_ret
      exact ⟨ol ++ x, rfl, HO.out, M2.out⟩
end
section
set_option maxRecDepth 100000
open Go.RowKit
attribute [local go_sem] toList_mk mk_size str_append
def codesD : List (List UInt8) := [[83, 87, 49, 32, 49, 65, 65], [56, 48, 48, 49], [56, 48, 32, 48, 50], [97, 45, 49]]
def addrsD : List (List UInt8) := [[49, 50, 32, 77, 97, 105, 110, 32, 83, 116, 46], [77, 97, 105, 110, 32, 83, 116, 32, 49, 50], [80, 97, 114, 107, 32, 82, 100, 32, 51, 98], [77, 97, 105, 110, 32, 83, 116, 114, 101, 101, 116], [48, 48, 55, 32, 80, 97, 114, 107, 32, 114, 100]]
def peopleD : List (List UInt8) := [[114, 111, 98, 101, 114, 116, 32, 115, 109, 105, 116, 104], [98, 111, 98, 32, 115, 109, 105, 116, 104], [114, 117, 112, 101, 114, 116], [97, 110, 110, 97, 32, 109, 105, 108, 108, 101, 114], [97, 110, 110], [111, 110, 101, 105, 108, 108], [109, 97, 114, 105, 97, 32, 118, 97, 110, 32, 115, 109, 105, 116, 104], [112, 101, 116, 101, 114]]
theorem pick_le {D N : Nat} {L : List (List UInt8)} {w w' : World} {e : Ending} (h : PickPost D L w e w') (hL : (L.all fun t => decide (t.length ≤ N)) = true) : SomeText D N w e w' := by
  obtain ⟨l, he, hl, hm⟩ := h
  exact ⟨l, he, by simpa using List.all_eq_true.1 hL l hl, hm⟩
theorem people_ok {x : List UInt8} (h : x ∈ peopleD) : (∀ b ∈ x, okB b = true) ∧ x.length ≤ 15 := by
  have : (peopleD.all fun t => t.all okB && decide (t.length ≤ 15)) = true := by decide
  have := List.all_eq_true.1 this x h
  rw [Bool.and_eq_true, List.all_eq_true, decide_eq_true_iff] at this
  exact this
theorem written_len (y m d f : Int) : (writtenL y m d f).length = 10 := by
  unfold writtenL
  split
  · simp [dg_len]
  · split <;> simp [dg_len]
set_option maxHeartbeats 4000000 in
theorem raw_deal (D : Nat) (k : Int) (w : World) (h : DeckAt w D) :
    Calls Tryz.prog 35 #[.pointer (some ⟨D, 0, none⟩), .int .i64 k] w (SomeText D 64 w) := by
  have M0 := Lib.hid (Moved.start h); clear h
  by_cases h2 : k = 2
  · subst h2
    go_enter Tryz.func35, Tryz.ntmps35
    go_wp2_with fail
    refine (one_any D _ 8 M0.out.deck (by omega) (by omega)).mono ?_
    rintro e w1 ⟨u, rfl, mv⟩
    have M1 := Lib.hid (M0.out.trans mv); clear mv
    cases u
    · go_wp2_with fail
      refine (next_any D _ 2 M1.out.deck (by omega) (by omega)).mono ?_
      rintro e w2 ⟨y, rfl, y0, y1, mv⟩
      have M2 := Lib.hid (M1.out.trans mv); clear mv
      go_wp2_with fail
      refine (next_any D _ 3 M2.out.deck (by omega) (by omega)).mono ?_
      rintro e w3 ⟨m, rfl, m0, m1, mv⟩
      have M3 := Lib.hid (M2.out.trans mv); clear mv
      go_wp2_with fail
      refine (next_any D _ 3 M3.out.deck (by omega) (by omega)).mono ?_
      rintro e w4 ⟨d, rfl, d0, d1, mv⟩
      have M4 := Lib.hid (M3.out.trans mv); clear mv
      go_wp2_with fail
      refine (next_any D _ 3 M4.out.deck (by omega) (by omega)).mono ?_
      rintro e w5 ⟨f, rfl, f0, f1, mv⟩
      have M5 := Lib.hid (M4.out.trans mv); clear mv
      go_wp2_with fail
      refine (written_any (1980 + y) (1 + m) (1 + d) f _ (by omega) (by omega)).mono ?_
      rintro e w6 ⟨rfl, hb⟩
      have M6 := Lib.hid (M5.out.below hb); clear hb
      go_wp2_with fail
      go_ret
      exact ⟨_, rfl, by rw [written_len]; omega, M6.out⟩
    · go_wp2_with fail
      go_ret
      exact ⟨[], rfl, by simp, M1.out⟩
  · have e2 : (k == 2) = false := by simpa using h2
    by_cases h3 : k = 3
    · subst h3
      clear h2 e2
      go_enter Tryz.func35, Tryz.ntmps35
      go_wp2_with fail
      refine (one_any D _ 8 M0.out.deck (by omega) (by omega)).mono ?_
      rintro e w1 ⟨u, rfl, mv⟩
      have M1 := Lib.hid (M0.out.trans mv); clear mv
      cases u
      · go_wp2_with fail
        refine (pick_new D _ w codesD 4 rfl (by omega) (by omega) M1.out).mono ?_
        intro e w2 hp
        obtain ⟨x, rfl, hx, mv⟩ := pick_le (N := 64) hp (by decide)
        have HX := Lib.hid hx; have M2 := Lib.hid mv
        clear hx mv hp
        go_wp2_with fail
        go_ret
        exact ⟨x, rfl, HX.out, M2.out⟩
      · go_wp2_with fail
        go_ret
        exact ⟨[], rfl, by simp, M1.out⟩
    · have e3 : (k == 3) = false := by simpa using h3
      by_cases h4 : k = 4
      · subst h4
        clear h2 e2 h3 e3
        go_enter Tryz.func35, Tryz.ntmps35
        go_wp2_with fail
        refine (one_any D _ 8 M0.out.deck (by omega) (by omega)).mono ?_
        rintro e w1 ⟨u, rfl, mv⟩
        have M1 := Lib.hid (M0.out.trans mv); clear mv
        cases u
        · go_wp2_with fail
          refine (pick_new D _ w addrsD 5 rfl (by omega) (by omega) M1.out).mono ?_
          intro e w2 hp
          obtain ⟨x, rfl, hx, mv⟩ := pick_le (N := 64) hp (by decide)
          have HX := Lib.hid hx; have M2 := Lib.hid mv
          clear hx mv hp
          go_wp2_with fail
          go_ret
          exact ⟨x, rfl, HX.out, M2.out⟩
        · go_wp2_with fail
          go_ret
          exact ⟨[], rfl, by simp, M1.out⟩
      · have e4 : (k == 4) = false := by simpa using h4
        clear h2 h3 h4
        go_enter Tryz.func35, Tryz.ntmps35
        go_wp2_with fail
        refine (one_any D _ 8 M0.out.deck (by omega) (by omega)).mono ?_
        rintro e w1 ⟨u, rfl, mv⟩
        have M1 := Lib.hid (M0.out.trans mv); clear mv
        cases u
        · go_wp2_with fail
          refine (pick_new D _ w peopleD 8 rfl (by omega) (by omega) M1.out).mono ?_
          rintro e w2 ⟨x, rfl, hx, mv⟩
          obtain ⟨p1, p2⟩ := people_ok hx
          have P1 := Lib.hid p1; have M2 := Lib.hid mv
          clear hx mv p1
          go_wp2_with fail
          refine (dress_any D ⟨x.toArray⟩ _ M2.out.deck (by simpa using P1.out) (by rw [mk_size]; omega)).mono ?_
          rintro e w3 ⟨o, rfl, ho, mv⟩
          have M3 := Lib.hid (M2.out.trans mv)
          have HO := Lib.hid (show o.length ≤ 64 by have := ho.len; simp at this; omega)
          clear mv ho
          go_wp2_with fail
          go_ret
          exact ⟨o, rfl, HO.out, M3.out⟩
        · go_wp2_with fail
          go_ret
          exact ⟨[], rfl, by simp, M1.out⟩
end
section
set_option maxRecDepth 100000
open Go.RowKit
attribute [local go_sem] toList_mk mk_size str_append
theorem digs_len (i : Nat) (h : i < 100) : (Lib.decDigits i).length ≤ 2 := by
  have : ∀ j : Fin 100, (Lib.decDigits j).length ≤ 2 := by decide +kernel
  exact this ⟨i, h⟩
set_option maxHeartbeats 4000000 in
theorem derive_any (k : Int × Int) (i : Nat) (b : Bool) (s : List UInt8) (w : World) (hi : i < 100) (hs : s.length ≤ 50000) :
    Calls Tryz.prog 141 #[.agg #[.int .i64 i, .bool b, strV s], .agg #[.int .u64 k.1, .int .u64 k.2]] w fun e w' => e = .returned (.agg #[.int .u64 (keyN k (Lib.decDigits i) b s).1, .int .u64 (keyN k (Lib.decDigits i) b s).2]) ∧ Below w.heap.size w w' := by
  have hd := digs_len i hi
  have hit := fun w => Tryz.strconv_Itoa_small i hi w
  obtain ⟨t, ht⟩ : ∃ t, Lib.decDigits i = t := ⟨_, rfl⟩
  rw [ht] at hd hit ⊢
  have HIt := Lib.hid hit
  obtain ⟨x, hx⟩ : ∃ x, deriveP k.1 k.2 (fieldLabel t) = x := ⟨_, rfl⟩
  have hl1 : ¬ 9223372036854775807 < 5 + t.length := by omega
  have hl2 : ¬ 9223372036854775807 < 5 + s.length := by omega
  have hfl : (fieldLabel t).length ≤ 60000 := by simp [fieldLabel]; omega
  have hsl : (saltLabel s).length ≤ 60000 := by simp [saltLabel]; omega
  obtain ⟨ft, hft⟩ : ∃ ft, fieldLabel t = ft := ⟨_, rfl⟩
  obtain ⟨st, hst⟩ : ∃ st, saltLabel s = st := ⟨_, rfl⟩
  rw [hft] at hx hfl; rw [hst] at hsl
  have hf5 : 102 :: 105 :: 101 :: 108 :: 100 :: t = ft := hft
  have hs5 : 115 :: 97 :: 108 :: 116 :: 61 :: s = st := hst
  have HX := Lib.hid hx; have HFT := Lib.hid hft; have HST := Lib.hid hst
  clear hit ht hx hft hst
  obtain ⟨r, hr⟩ : ∃ r, keyN k t b s = r := ⟨_, rfl⟩
  have hr2 : (bif b then deriveP x.1 x.2 (saltLabel s) else x) = r := by rw [← hr, ← HX.out, ← HFT.out]; rfl
  rw [hr]
  have HR := Lib.hid hr2
  clear hr hr2
  go_enter Tryz.func141, Tryz.ntmps141
  go_wp2_with fail
  refine wp_world (fun W hW => ?_)
  have hb0 : Below w.heap.size w W := by rw [hW]; exact (((Below.refl _ _).alloc (Nat.le_refl _) _).alloc (by simp) _).alloc (by simp; omega) _
  have ho0 : W.heap[w.heap.size]? = some (.cells #[.int .i64 i, .bool b, strV s] 174 (0, 0)) := by rw [hW]; exact blk_old (blk_old (blk_new rfl))
  have hk0 : W.heap[w.heap.size + 1]? = some (.cells #[.int .u64 k.1, .int .u64 k.2] 45 (0, 0)) := by rw [hW]; exact blk_old (blk_new (by simp))
  have hr0 : W.heap[w.heap.size + 2]? = some (.cells #[.int .u64 0, .int .u64 0] 45 (0, 0)) := by rw [hW]; exact blk_new (by simp)
  clear hW
  have HB0 := Lib.hid hb0; have HO0 := Lib.hid ho0; have HK0 := Lib.hid hk0; have HR0 := Lib.hid hr0
  obtain ⟨o0, o1, o2⟩ := cells3 ho0; obtain ⟨k0, k1⟩ := cells2K hk0
  clear hb0 ho0 hk0 hr0
  refine wp_region_noPanic ?_
  refine wp_region_k (by kernel_rfl) (fun w' => w'.cell? ⟨w.heap.size + 1, 0, none⟩ = some (.int .u64 k.1) ∧ w'.cell? ⟨w.heap.size + 1, 1, none⟩ = some (.int .u64 k.2) ∧ w'.cell? ⟨w.heap.size, 0, none⟩ = some (.int .i64 i)) 6 (⟨k0, k1, o0⟩) (fun hHeld => ?_)
  refine tK 0 (h := ?_)
  try simp only [List.getElem_toArray, List.getElem_cons_zero, List.getElem_cons_succ, Act.put, List.setIfInBounds_toArray, List.set_cons_zero, List.set_cons_succ]
  refine tK 1 (h := ?_)
  try simp only [List.getElem_toArray, List.getElem_cons_zero, List.getElem_cons_succ, Act.put, List.setIfInBounds_toArray, List.set_cons_zero, List.set_cons_succ]
  refine tK 2 (h := ?_)
  try simp only [List.getElem_toArray, List.getElem_cons_zero, List.getElem_cons_succ, Act.put, List.setIfInBounds_toArray, List.set_cons_zero, List.set_cons_succ]
  refine wpAnyK_ready (rs := [3]) (by kernel_rfl) (by simp) ?_
  refine AllReadyK.cons rfl (fun K hK => ?_) AllReadyK.nil
  go_simp
  refine (HIt.out _).mono ?_; rintro e w1 ⟨rfl, rfl⟩
  refine shutK hK (⟨k0, k1, o0⟩) (fun hHeld => ?_)
  clear hK K
  try simp only [List.getElem_toArray, List.getElem_cons_zero, List.getElem_cons_succ, Act.put, List.setIfInBounds_toArray, List.set_cons_zero, List.set_cons_succ]
  refine tK 4 (h := ?_)
  try simp only [List.getElem_toArray, List.getElem_cons_zero, List.getElem_cons_succ, Act.put, List.setIfInBounds_toArray, List.set_cons_zero, List.set_cons_succ]
  refine wpAnyK_ready (rs := [5]) (by kernel_rfl) (by simp) ?_
  refine AllReadyK.cons rfl (fun K hK => ?_) AllReadyK.nil
  go_simp
  refine (sderive_any k.1 k.2 ft _ hfl).mono ?_; rw [HX.out]; rintro e w1 ⟨rfl, hb⟩; have hb1 := ((Below.refl W.heap.size W).drew).trans hb; clear hb
  refine shutK hK (⟨(hb1.cell (p := ⟨w.heap.size + 1, 0, none⟩) (lt_of_blk HK0.out)).trans k0, (hb1.cell (p := ⟨w.heap.size + 1, 1, none⟩) (lt_of_blk HK0.out)).trans k1, (hb1.cell (p := ⟨w.heap.size, 0, none⟩) (lt_of_blk HO0.out)).trans o0⟩) (fun hHeld => ?_)
  clear hK K
  try simp only [List.getElem_toArray, List.getElem_cons_zero, List.getElem_cons_succ, Act.put, List.setIfInBounds_toArray, List.set_cons_zero, List.set_cons_succ]
  have hk1 := blk_below hb1 (lt_of_blk HK0.out) HK0.out
  obtain ⟨k2, k3⟩ := cells2K hk1
  have f0 := frozen_of_row _ _ 0 _ _ hk1; have f1 := frozen_of_row _ _ 1 _ _ hk1
  have zk := lt_of_blk hk1
  refine wpAnyK_ready (rs := [6]) (by kernel_rfl) (by simp) ?_
  refine AllReadyK.cons rfl (fun K hK => ?_) AllReadyK.nil
  go_simp
  refine shutK_off hK (by decide) ?_
  clear hK K
  try simp only [List.getElem_toArray, List.getElem_cons_zero, List.getElem_cons_succ, Act.put, List.setIfInBounds_toArray, List.set_cons_zero, List.set_cons_succ]
  refine wpAnyK_done (by kernel_rfl) ?_ _
  refine NoPanic.normal ?_
  clear k2 k3 f0 f1 k0 k1 o0 o1 o2
  refine exitk_world (fun W2 hW2 => ?_)
  have hk2 : W2.heap[w.heap.size + 1]? = some (.cells #[.int .u64 x.1, .int .u64 x.2] 45 (0, 0)) := by rw [hW2]; exact blk_set (i := 1) (v := .int .u64 x.2) (blk_set (i := 0) (v := .int .u64 x.1) hk1)
  have ho2 : W2.heap[w.heap.size]? = some (.cells #[.int .i64 i, .bool b, strV s] 174 (0, 0)) := by rw [hW2]; exact blk_far (blk_far (blk_below hb1 (lt_of_blk HO0.out) HO0.out) (by show w.heap.size ≠ w.heap.size + 1; omega)) (by show w.heap.size ≠ w.heap.size + 1; omega)
  have hr2 : W2.heap[w.heap.size + 2]? = some (.cells #[.int .u64 0, .int .u64 0] 45 (0, 0)) := by rw [hW2]; exact blk_far (blk_far (blk_below hb1 (lt_of_blk HR0.out) HR0.out) (by show w.heap.size + 2 ≠ w.heap.size + 1; omega)) (by show w.heap.size + 2 ≠ w.heap.size + 1; omega)
  have hb2 : Below w.heap.size w W2 := by rw [hW2]; exact ((HB0.out.trans (hb1.mono HB0.out.size)).setCell (p := ⟨w.heap.size + 1, 0, none⟩) (Nat.le_succ _) _).setCell (p := ⟨w.heap.size + 1, 1, none⟩) (Nat.le_succ _) _
  clear hW2 hb1 hk1 zk hHeld HB0 HO0 HK0 HR0
  have HB2 := Lib.hid hb2; have HR2 := Lib.hid hr2; have HK2 := Lib.hid hk2
  obtain ⟨o0, o1, o2⟩ := cells3 ho2; obtain ⟨k0, k1⟩ := cells2K hk2
  have zo := lt_of_blk ho2; have zk := lt_of_blk hk2; have zr := lt_of_blk hr2
  clear hb2 hr2 hk2 ho2
  cases b
  · obtain ⟨r0, r1⟩ := cells2K HR2.out
    have f0 := frozen_of_row _ _ 0 _ _ HR2.out; have f1 := frozen_of_row _ _ 1 _ _ HR2.out
    go_wp2_with fail
    rw [← show x = r from HR.out]
    exact bodyPost_row1 rfl rfl (blk_set (i := 1) (v := .int .u64 x.2) (blk_set (i := 0) (v := .int .u64 x.1) HR2.out)) Tryz.underlying45 rfl (by kernel_rfl)
      ⟨rfl, (HB2.out.setCell (p := ⟨w.heap.size + 2, 0, none⟩) (by show w.heap.size ≤ w.heap.size + 2; omega) _).setCell (p := ⟨w.heap.size + 2, 1, none⟩) (by show w.heap.size ≤ w.heap.size + 2; omega) _⟩
  · go_wp2_with fail
    refine (sderive_any x.1 x.2 st _ hsl).mono ?_
    rw [show deriveP x.1 x.2 st = r by rw [← HST.out]; exact HR.out]
    rintro e w3 ⟨rfl, hb⟩
    have hk3 := blk_below hb (lt_of_blk HK2.out) HK2.out
    have hr3 := blk_below hb (lt_of_blk HR2.out) HR2.out
    have HB3 := Lib.hid (HB2.out.trans (hb.mono HB2.out.size)); have HR3 := Lib.hid hr3
    obtain ⟨k2, k3⟩ := cells2K hk3
    have f2 := frozen_of_row _ _ 0 _ _ hk3; have f3 := frozen_of_row _ _ 1 _ _ hk3
    obtain ⟨r0, r1⟩ := cells2K hr3
    have f0 := frozen_of_row _ _ 0 _ _ hr3; have f1 := frozen_of_row _ _ 1 _ _ hr3
    have zk3 := lt_of_blk hk3; have zr3 := lt_of_blk hr3
    clear hb hk3 hr3 o0 o1 o2 k0 k1
    go_wp2_with fail
    exact bodyPost_row1 rfl rfl (blk_set (i := 1) (v := .int .u64 r.2) (blk_set (i := 0) (v := .int .u64 r.1) (blk_far (blk_far HR3.out (by show w.heap.size + 2 ≠ w.heap.size + 1; omega)) (by show w.heap.size + 2 ≠ w.heap.size + 1; omega)))) Tryz.underlying45 rfl (by kernel_rfl)
      ⟨rfl, (((HB3.out.setCell (p := ⟨w.heap.size + 1, 0, none⟩) (Nat.le_succ _) _).setCell (p := ⟨w.heap.size + 1, 1, none⟩) (Nat.le_succ _) _).setCell (p := ⟨w.heap.size + 2, 0, none⟩) (by show w.heap.size ≤ w.heap.size + 2; omega) _).setCell (p := ⟨w.heap.size + 2, 1, none⟩) (by show w.heap.size ≤ w.heap.size + 2; omega) _⟩
end
section
set_option maxRecDepth 100000
open Go.RowKit Cal
attribute [local go_sem] toList_mk mk_size str_append
theorem vec_str {w : World} {S : Nat → Prop} {a : Option Addr} {n cap : Nat} {L : List (List UInt8)} (h : Vec w S 1 encS (.slice a n cap) L) (j : Nat) (hj : j < L.length) : ∃ b off, a = some ⟨b, off, none⟩ ∧ b < w.heap.size ∧ w.cell? ⟨b, off + j, none⟩ = some (strV (L.getD j [])) := by
  obtain ⟨b, off, e, hb, hc⟩ := h.get j hj
  refine ⟨b, off, e, hb, ?_⟩
  have := hc 0 _ rfl
  rw [Nat.mul_one, Nat.add_zero] at this
  rw [List.getD, List.getElem?_eq_getElem hj]; exact this
def FieldPost (b : BitsL) (w : World) (e : Ending) (w' : World) : Prop := ∃ v, e = .returned (.tuple #[v, .int .i64 0]) ∧ BitsAt w' (fun x => w.heap.size ≤ x) v b ∧ Below w.heap.size w w'
/-- what a field's array needs: the schema, a normal record, valid parameters -/
structure FieldIn (s : SchemaL) (p : ParL) (vals : List (List UInt8)) (i : Nat) : Prop where
  par : ParOk p
  salt : p.salt < vals.length
  at_ : i < vals.length
  five : vals.length ≤ 5
  kind : (findN s i).2 = 0
  norm : normalB s i (vals.getD i []) = true
  short : ∀ v ∈ vals, v.length ≤ 64
/-- where encode.field stands: its boxes -/
structure FldAt (w : World) (vf vt vn vs : Value) (p : ParL) (k : Int × Int) (id ver : Int) (sv : Value) (W : World) : Prop where
  s : W.heap[w.heap.size]? = some (.cells #[vf, vt, vn, vs] 33 (0, 0))
  p : W.heap[w.heap.size + 1]? = some (.cells (parC p) 81 (0, 0))
  k : W.heap[w.heap.size + 2]? = some (.cells #[.int .u64 k.1, .int .u64 k.2] 45 (0, 0))
  r : W.heap[w.heap.size + 3]? = some (.cells #[.int .i64 id, .int .i64 ver, sv] 48 (0, 0))
  z : W.heap[w.heap.size + 4]? = some (.cells #[.int .i64 0, .slice none 0 0] 84 (0, 0))
  b : Below w.heap.size w W
theorem FldAt.below {w : World} {vf vt vn vs : Value} {p : ParL} {k : Int × Int} {id ver : Int} {sv : Value} {W W' : World} (h : FldAt w vf vt vn vs p k id ver sv W) (hb : Below W.heap.size W W') : FldAt w vf vt vn vs p k id ver sv W' :=
  ⟨blk_below hb (lt_of_blk h.1) h.1, blk_below hb (lt_of_blk h.2) h.2, blk_below hb (lt_of_blk h.3) h.3, blk_below hb (lt_of_blk h.4) h.4, blk_below hb (lt_of_blk h.5) h.5, h.6.trans (hb.mono h.6.size)⟩
theorem FldAt.start (w : World) (vf vt vn vs : Value) (p : ParL) (k : Int × Int) (id ver : Int) (sv : Value) : FldAt w vf vt vn vs p k id ver sv (((((w.alloc (.cells #[vf, vt, vn, vs] 33)).alloc (.cells (parC p) 81)).alloc (.cells #[.int .u64 k.1, .int .u64 k.2] 45)).alloc (.cells #[.int .i64 id, .int .i64 ver, sv] 48)).alloc (.cells #[.int .i64 0, .slice none 0 0] 84)) :=
  ⟨blk_old (blk_old (blk_old (blk_old (blk_new rfl)))), blk_old (blk_old (blk_old (blk_new (by simp)))), blk_old (blk_old (blk_new (by simp))), blk_old (blk_new (by simp)), blk_new (by simp),
    (((((Below.refl w.heap.size w).alloc (Nat.le_refl _) _).alloc (by simp) _).alloc (by simp; omega) _).alloc (by simp; omega) _).alloc (by simp; omega) _⟩
set_option maxHeartbeats 8000000 in
theorem field_yes (S T : Nat → Prop) (vf vt vn vs : Value) (s : SchemaL) (p : ParL) (k : Int × Int) (id ver : Int) (sv : Value) (vals : List (List UInt8)) (i : Nat) (w : World) (h : SchemaAt w S vf vt vn vs s) (hv : Vec w T 1 encS sv vals) (hf : FieldIn s p vals i) :
    Calls Tryz.prog 96 #[.agg #[vf, vt, vn, vs], .agg (parC p), .agg #[.int .u64 k.1, .int .u64 k.2], .agg #[.int .i64 id, .int .i64 ver, sv], .int .i64 i] w (FieldPost (fieldN s p k vals i) w) := by
  obtain ⟨a, cap, rfl⟩ := hv.slice
  obtain ⟨b, off, rfl, hb, hc⟩ := vec_str hv i hf.at_
  obtain ⟨x, hx⟩ : ∃ x, vals.getD i [] = x := ⟨_, rfl⟩
  have hnorm := hf.norm; have hfi := hf.at_; have h5 := hf.five
  rw [hx] at hc hnorm
  have HC := Lib.hid hc
  have HB := Lib.hid hb
  have hb0 := hb
  by_cases hx0 : x = []
  · have hfn : fieldN s p k vals i = noBits := by unfold fieldN; rw [hx, if_pos hx0]
    rw [hfn]
    subst hx0
    clear hfn hx hnorm hf h hv hc
    go_enter Tryz.func96, Tryz.ntmps96
    go_upto_region 1 with (fail)
    refine wp_world (fun W hW => ?_)
    have hF : FldAt w vf vt vn vs p k id ver (.slice (some ⟨b, off, none⟩) vals.length cap) W := by rw [hW]; exact FldAt.start _ _ _ _ _ _ _ _ _ _
    clear hW
    have HF := Lib.hid hF
    have hc1 := (hF.b.cell (p := ⟨b, off + i, none⟩) hb).trans HC.out
    obtain ⟨r0, r1, r2⟩ := cells3 hF.r
    obtain ⟨z0, z1⟩ := cells2K hF.z
    have f0 := frozen_of_row _ _ 0 _ _ hF.z; have f1 := frozen_of_row _ _ 1 _ _ hF.z
    have y1 := lt_of_blk hF.z
    clear hF
    go_wp2_with fail
    exact bodyPost_row2 rfl rfl (blk_set (i := 1) (v := .slice none 0 0) (blk_set (i := 0) (v := .int .i64 0) HF.out.z)) Tryz.underlying84 rfl (by kernel_rfl)
      ⟨_, rfl, ⟨_, rfl, Vec.nil _ _ _ _⟩, (HF.out.b.setCell (p := ⟨w.heap.size + 4, 0, none⟩) (by show w.heap.size ≤ w.heap.size + 4; omega) _).setCell (p := ⟨w.heap.size + 4, 1, none⟩) (by show w.heap.size ≤ w.heap.size + 4; omega) _⟩
  · obtain ⟨G, hG⟩ : ∃ G, gramsN s i x = G := ⟨_, rfl⟩
    obtain ⟨g1, g2, g3, g4⟩ := grams_fit hnorm hf.kind
    rw [hG] at g1 g2 g3
    have hex : x.isEmpty = false := by simpa using hx0
    have hex2 : (x == []) = false := by simpa using hx0
    have HS := Lib.hid h.any
    by_cases hsal : 0 ≤ p.salt
    · obtain ⟨q, hq⟩ : ∃ q : Nat, p.salt = q := ⟨p.salt.toNat, by omega⟩
      have hqv : q < vals.length := by have := hf.salt; omega
      obtain ⟨bq, offq, eq, hbq, hcq⟩ := vec_str hv q hqv
      cases eq
      obtain ⟨st, hst⟩ : ∃ st, vals.getD q [] = st := ⟨_, rfl⟩
      have hstl : st.length ≤ 64 := by rw [← hst]; exact hf.short _ (by rw [List.getD, List.getElem?_eq_getElem hqv]; exact List.getElem_mem _)
      rw [hst] at hcq
      have hso : saltOf p vals = st := by unfold saltOf; rw [if_pos hsal, hq, Int.toNat_natCast, hst]
      have hdd : decide (0 ≤ p.salt) = true := by simpa using hsal
      have hql : (q : Int) < (vals.length : Int) := by omega
      have HCQ := Lib.hid hcq; have HQ := Lib.hid hq
      clear hst hcq hbq
      obtain ⟨KX, hK⟩ : ∃ KX, keyN k (Lib.decDigits i) true st = KX := ⟨_, rfl⟩
      obtain ⟨B, hBN⟩ : ∃ B, (bloomN p KX G.1).1 = B := ⟨_, rfl⟩
      have hfn : fieldN s p k vals i = B := by unfold fieldN; rw [hx, if_neg hx0, hso, hdd, hK, hG, hBN]
      rw [hfn]
      have HBN := Lib.hid hBN; clear hBN
      have HFI := Lib.hid hf; have HG := Lib.hid hG; have HKK := Lib.hid hK; have HG3 := Lib.hid g3; have HG1 := Lib.hid g1
      clear hfn hx hnorm hf h hv hc hG hK hso hsal hx0 g1 g3 hdd hq
      go_enter Tryz.func96, Tryz.ntmps96
      go_upto_region 1 with (fail)
      refine wp_world (fun W hW => ?_)
      have hF : FldAt w vf vt vn vs p k id ver (.slice (some ⟨b, off, none⟩) vals.length cap) W := by rw [hW]; exact FldAt.start _ _ _ _ _ _ _ _ _ _
      clear hW
      have HF := Lib.hid hF
      have hc1 := (hF.b.cell (p := ⟨b, off + i, none⟩) hb).trans HC.out
      obtain ⟨r0, r1, r2⟩ := cells3 hF.r
      obtain ⟨p0, p1, p2⟩ := cells3 hF.p
      rw [HQ.out] at p2
      have hcq1 := (hF.b.cell (p := ⟨b, off + q, none⟩) hb0).trans HCQ.out
      have y3 := lt_of_blk hF.r; have y5 := lt_of_blk hF.p; have hbW : b < W.heap.size := Nat.lt_of_lt_of_le hb0 hF.b.size
      obtain ⟨s0, s1, s2, s3⟩ := cellsS hF.s
      have y1 := lt_of_blk hF.z
      clear hF
      go_wp2_with fail
      refine wp_world (fun W1 hW1 => ?_)
      have ho1 : W1.heap[W.heap.size]? = some (.cells #[.int .i64 i, .bool true, strV st] 174 (0, 0)) := by rw [hW1]; exact blk_new rfl
      have hb1 : Below W.heap.size W W1 := by rw [hW1]; exact (Below.refl _ _).alloc (Nat.le_refl _) _
      have hc2 := (hb1.cell (p := ⟨b, off + i, none⟩) (by have := HF.out.b.size; show b < _; omega)).trans hc1
      have HF1 := Lib.hid (HF.out.below hb1); have HO1 := Lib.hid ho1
      have HS1 := Lib.hid (HS.out.below HF1.out.b)
      clear hW1 ho1 hb1 hc1 s0 s1 s2 s3 r0 r1 r2 p0 p1 p2 HF
      obtain ⟨s0, s1, s2, s3⟩ := cellsS HF1.out.s
      have r2 := (cells3 HF1.out.r).2.2
      have y2 := lt_of_blk HO1.out
      refine wp_region_noPanic ?_
      refine wp_region_held_drew (S := (fun w' => w'.cell? ⟨w.heap.size, 0, none⟩ = some vf ∧ w'.cell? ⟨w.heap.size, 1, none⟩ = some vt ∧ w'.cell? ⟨w.heap.size, 2, none⟩ = some vn ∧ w'.cell? ⟨w.heap.size, 3, none⟩ = some vs ∧ w'.cell? ⟨w.heap.size + 3, 2, none⟩ = some (.slice (some ⟨b, off, none⟩) vals.length cap) ∧ w'.cell? ⟨b, off + i, none⟩ = some (strV x))) (by kernel_rfl) (⟨s0, s1, s2, s3, r2, hc2⟩) (fun hHeld => ?_)
      refine tH 0 (h := ?_)
      try simp only [List.getElem_toArray, List.getElem_cons_zero, List.getElem_cons_succ, Act.put, List.setIfInBounds_toArray, List.set_cons_zero, List.set_cons_succ]
      refine tH 1 (h := ?_)
      try simp only [List.getElem_toArray, List.getElem_cons_zero, List.getElem_cons_succ, Act.put, List.setIfInBounds_toArray, List.set_cons_zero, List.set_cons_succ]
      refine tH 2 (h := ?_)
      try simp only [List.getElem_toArray, List.getElem_cons_zero, List.getElem_cons_succ, Act.put, List.setIfInBounds_toArray, List.set_cons_zero, List.set_cons_succ]
      refine tH 3 (h := ?_)
      try simp only [List.getElem_toArray, List.getElem_cons_zero, List.getElem_cons_succ, Act.put, List.setIfInBounds_toArray, List.set_cons_zero, List.set_cons_succ]
      refine tH 4 (h := ?_)
      try simp only [List.getElem_toArray, List.getElem_cons_zero, List.getElem_cons_succ, Act.put, List.setIfInBounds_toArray, List.set_cons_zero, List.set_cons_succ]
      refine tH 5 (h := ?_)
      try simp only [List.getElem_toArray, List.getElem_cons_zero, List.getElem_cons_succ, Act.put, List.setIfInBounds_toArray, List.set_cons_zero, List.set_cons_succ]
      refine tH 6 (h := ?_)
      try simp only [List.getElem_toArray, List.getElem_cons_zero, List.getElem_cons_succ, Act.put, List.setIfInBounds_toArray, List.set_cons_zero, List.set_cons_succ]
      refine wpAnyH_ready (rs := [7]) (by kernel_rfl) (by simp) ?_
      refine AllReadyH.cons rfl (fun K hK => ?_) AllReadyH.nil
      go_simp
      refine (grams_s _ _ _ _ _ s i ⟨x.toArray⟩ _ (HS1.out.below (Below.refl _ _).drew) (by rw [mk_size]; omega)).mono ?_; rw [show (⟨x.toArray⟩ : ByteArray).data.toList = x by simp, HG.out]; rintro e w2 ⟨vg, rfl, hvg, hb2⟩; rw [HG1.out]; have b2 := ((Below.refl W1.heap.size W1).drew).trans hb2; clear hb2
      refine hK.out _ _ (⟨(b2.cell (p := ⟨w.heap.size, 0, none⟩) (lt_of_blk HF1.out.s)).trans s0, (b2.cell (p := ⟨w.heap.size, 1, none⟩) (lt_of_blk HF1.out.s)).trans s1, (b2.cell (p := ⟨w.heap.size, 2, none⟩) (lt_of_blk HF1.out.s)).trans s2, (b2.cell (p := ⟨w.heap.size, 3, none⟩) (lt_of_blk HF1.out.s)).trans s3, (b2.cell (p := ⟨w.heap.size + 3, 2, none⟩) (lt_of_blk HF1.out.r)).trans r2, (b2.cell (p := ⟨b, off + i, none⟩) (by have := HF1.out.b.size; show b < _; omega)).trans hc2⟩) (fun hHeld => ?_)
      clear hK K
      try simp only [List.getElem_toArray, List.getElem_cons_zero, List.getElem_cons_succ, Act.put, List.setIfInBounds_toArray, List.set_cons_zero, List.set_cons_succ]
      refine tH 8 (h := ?_)
      try simp only [List.getElem_toArray, List.getElem_cons_zero, List.getElem_cons_succ, Act.put, List.setIfInBounds_toArray, List.set_cons_zero, List.set_cons_succ]
      refine tH 9 (h := ?_)
      try simp only [List.getElem_toArray, List.getElem_cons_zero, List.getElem_cons_succ, Act.put, List.setIfInBounds_toArray, List.set_cons_zero, List.set_cons_succ]
      refine tH 10 (h := ?_)
      try simp only [List.getElem_toArray, List.getElem_cons_zero, List.getElem_cons_succ, Act.put, List.setIfInBounds_toArray, List.set_cons_zero, List.set_cons_succ]
      refine tH 11 (h := ?_)
      try simp only [List.getElem_toArray, List.getElem_cons_zero, List.getElem_cons_succ, Act.put, List.setIfInBounds_toArray, List.set_cons_zero, List.set_cons_succ]
      refine tH 12 (h := ?_)
      try simp only [List.getElem_toArray, List.getElem_cons_zero, List.getElem_cons_succ, Act.put, List.setIfInBounds_toArray, List.set_cons_zero, List.set_cons_succ]
      refine wpAnyH_done (by kernel_rfl) ?_ _
      refine NoPanic.normal ?_
      have HF2 := Lib.hid (HF1.out.below b2)
      have HO2 := Lib.hid (blk_below b2 (lt_of_blk HO1.out) HO1.out)
      have HVG := Lib.hid hvg
      obtain ⟨ag, cg, rfl⟩ := hvg.slice
      clear hHeld hc2 s0 s1 s2 s3 r2 y2 y1 b2 hvg HF1 HO1 HS1
      go_wp2_with fail
      refine wp_world (fun W2 hW2 => ?_)
      rw [← hW2] at HF2 HO2 HVG; clear hW2
      obtain ⟨q0, q1, q2⟩ := cells3 HF2.out.p
      obtain ⟨k0, k1⟩ := cells2K HF2.out.k
      obtain ⟨o0, o1, o2⟩ := cells3 HO2.out
      refine wp_region_noPanic ?_
      refine wp_region_k (by kernel_rfl) (fun w' => w'.cell? ⟨w.heap.size + 1, 0, none⟩ = some (.int .i64 p.len) ∧ w'.cell? ⟨w.heap.size + 1, 1, none⟩ = some (.int .i64 p.hashes) ∧ w'.cell? ⟨w.heap.size + 1, 2, none⟩ = some (.int .i64 p.salt) ∧ w'.cell? ⟨w.heap.size + 2, 0, none⟩ = some (.int .u64 k.1) ∧ w'.cell? ⟨w.heap.size + 2, 1, none⟩ = some (.int .u64 k.2) ∧ w'.cell? ⟨W.heap.size, 0, none⟩ = some (.int .i64 i) ∧ w'.cell? ⟨W.heap.size, 1, none⟩ = some (.bool true) ∧ w'.cell? ⟨W.heap.size, 2, none⟩ = some (strV st)) 8 (⟨q0, q1, q2, k0, k1, o0, o1, o2⟩) (fun hHeld => ?_)
      refine tK 0 (h := ?_)
      try simp only [List.getElem_toArray, List.getElem_cons_zero, List.getElem_cons_succ, Act.put, List.setIfInBounds_toArray, List.set_cons_zero, List.set_cons_succ]
      refine tK 1 (h := ?_)
      try simp only [List.getElem_toArray, List.getElem_cons_zero, List.getElem_cons_succ, Act.put, List.setIfInBounds_toArray, List.set_cons_zero, List.set_cons_succ]
      refine tK 2 (h := ?_)
      try simp only [List.getElem_toArray, List.getElem_cons_zero, List.getElem_cons_succ, Act.put, List.setIfInBounds_toArray, List.set_cons_zero, List.set_cons_succ]
      refine tK 4 (h := ?_)
      try simp only [List.getElem_toArray, List.getElem_cons_zero, List.getElem_cons_succ, Act.put, List.setIfInBounds_toArray, List.set_cons_zero, List.set_cons_succ]
      refine wpAnyK_ready (rs := [3]) (by kernel_rfl) (by simp) ?_
      refine AllReadyK.cons rfl (fun K hK => ?_) AllReadyK.nil
      go_simp
      refine (derive_any k i true st _ (by omega) (by omega)).mono ?_; rw [HKK.out]; rintro e w3 ⟨rfl, hb3⟩; have b3 := ((Below.refl W2.heap.size W2).drew).trans hb3; clear hb3
      refine shutK hK (⟨(b3.cell (p := ⟨w.heap.size + 1, 0, none⟩) (lt_of_blk HF2.out.p)).trans q0, (b3.cell (p := ⟨w.heap.size + 1, 1, none⟩) (lt_of_blk HF2.out.p)).trans q1, (b3.cell (p := ⟨w.heap.size + 1, 2, none⟩) (lt_of_blk HF2.out.p)).trans q2, (b3.cell (p := ⟨w.heap.size + 2, 0, none⟩) (lt_of_blk HF2.out.k)).trans k0, (b3.cell (p := ⟨w.heap.size + 2, 1, none⟩) (lt_of_blk HF2.out.k)).trans k1, (b3.cell (p := ⟨W.heap.size, 0, none⟩) (lt_of_blk HO2.out)).trans o0, (b3.cell (p := ⟨W.heap.size, 1, none⟩) (lt_of_blk HO2.out)).trans o1, (b3.cell (p := ⟨W.heap.size, 2, none⟩) (lt_of_blk HO2.out)).trans o2⟩) (fun hHeld => ?_)
      clear hK K
      try simp only [List.getElem_toArray, List.getElem_cons_zero, List.getElem_cons_succ, Act.put, List.setIfInBounds_toArray, List.set_cons_zero, List.set_cons_succ]
      refine wpAnyK_ready (rs := [5]) (by kernel_rfl) (by simp) ?_
      refine AllReadyK.cons rfl (fun K hK => ?_) AllReadyK.nil
      go_simp
      refine (bencode_yes Any1 p KX _ G.1 _ HFI.out.par (HVG.out.below b3) (fun g hg => Nat.le_trans (HG3.out g hg) (by decide)) g2).mono ?_; rw [HBN.out]; rintro e w4 ⟨_, rfl, ⟨sb, rfl, hvb⟩, hb4⟩; have b4 := b3.trans (hb4.mono b3.size); have HVB := Lib.hid hvb; obtain ⟨ab, cb, rfl⟩ := hvb.slice; clear hb4 hvb
      refine shutK hK (⟨(b4.cell (p := ⟨w.heap.size + 1, 0, none⟩) (lt_of_blk HF2.out.p)).trans q0, (b4.cell (p := ⟨w.heap.size + 1, 1, none⟩) (lt_of_blk HF2.out.p)).trans q1, (b4.cell (p := ⟨w.heap.size + 1, 2, none⟩) (lt_of_blk HF2.out.p)).trans q2, (b4.cell (p := ⟨w.heap.size + 2, 0, none⟩) (lt_of_blk HF2.out.k)).trans k0, (b4.cell (p := ⟨w.heap.size + 2, 1, none⟩) (lt_of_blk HF2.out.k)).trans k1, (b4.cell (p := ⟨W.heap.size, 0, none⟩) (lt_of_blk HO2.out)).trans o0, (b4.cell (p := ⟨W.heap.size, 1, none⟩) (lt_of_blk HO2.out)).trans o1, (b4.cell (p := ⟨W.heap.size, 2, none⟩) (lt_of_blk HO2.out)).trans o2⟩) (fun hHeld => ?_)
      clear hK K
      try simp only [List.getElem_toArray, List.getElem_cons_zero, List.getElem_cons_succ, Act.put, List.setIfInBounds_toArray, List.set_cons_zero, List.set_cons_succ]
      refine tK 6 (h := ?_)
      try simp only [List.getElem_toArray, List.getElem_cons_zero, List.getElem_cons_succ, Act.put, List.setIfInBounds_toArray, List.set_cons_zero, List.set_cons_succ]
      refine tK 7 (h := ?_)
      try simp only [List.getElem_toArray, List.getElem_cons_zero, List.getElem_cons_succ, Act.put, List.setIfInBounds_toArray, List.set_cons_zero, List.set_cons_succ]
      have hz4 := blk_below b4 (lt_of_blk HF2.out.z) HF2.out.z
      obtain ⟨z0, z1⟩ := cells2K hz4
      have f0 := frozen_of_row _ _ 0 _ _ hz4; have f1 := frozen_of_row _ _ 1 _ _ hz4
      have y4 := lt_of_blk hz4
      refine wpAnyK_ready (rs := [8]) (by kernel_rfl) (by simp) ?_
      refine AllReadyK.cons rfl (fun K hK => ?_) AllReadyK.nil
      go_simp
      refine shutK_off hK (by decide) ?_
      clear hK K
      try simp only [List.getElem_toArray, List.getElem_cons_zero, List.getElem_cons_succ, Act.put, List.setIfInBounds_toArray, List.set_cons_zero, List.set_cons_succ]
      refine wpAnyK_ready (rs := [9]) (by kernel_rfl) (by simp) ?_
      refine AllReadyK.cons rfl (fun K hK => ?_) AllReadyK.nil
      go_simp
      refine shutK_off hK (by decide) ?_
      clear hK K
      try simp only [List.getElem_toArray, List.getElem_cons_zero, List.getElem_cons_succ, Act.put, List.setIfInBounds_toArray, List.set_cons_zero, List.set_cons_succ]
      refine wpAnyK_done (by kernel_rfl) ?_ _
      refine NoPanic.normal ?_
      go_wp2_with fail
      refine bodyPost_row2 rfl rfl (blk_set (i := 1) (v := .slice ab B.words.length cb) (blk_set (i := 0) (v := .int .i64 B.len) hz4)) Tryz.underlying84 rfl (by kernel_rfl)
        ⟨_, rfl, ⟨_, rfl, ?_⟩, ((HF2.out.b.trans (b4.mono HF2.out.b.size)).setCell (p := ⟨w.heap.size + 4, 0, none⟩) (by show w.heap.size ≤ w.heap.size + 4; omega) _).setCell (p := ⟨w.heap.size + 4, 1, none⟩) (by show w.heap.size ≤ w.heap.size + 4; omega) _⟩
      have hlz := lt_of_blk HF2.out.z
      refine Vec.move HVB.out (by simp [World.setCell]) fun b hb hs => ?_
      have hs' : w3.heap.size ≤ b := hs
      have hz3 := b3.size
      exact ⟨(heap_setCell_other _ _ _ _ (by show b ≠ w.heap.size + 4; omega)).trans (heap_setCell_other _ _ _ _ (by show b ≠ w.heap.size + 4; omega)), by show w.heap.size ≤ b; omega⟩
    · have hso : saltOf p vals = [] := by unfold saltOf; rw [if_neg hsal]
      have hdd : decide (0 ≤ p.salt) = false := by simpa using hsal
      obtain ⟨KX, hK⟩ : ∃ KX, keyN k (Lib.decDigits i) false [] = KX := ⟨_, rfl⟩
      obtain ⟨B, hBN⟩ : ∃ B, (bloomN p KX G.1).1 = B := ⟨_, rfl⟩
      have hfn : fieldN s p k vals i = B := by unfold fieldN; rw [hx, if_neg hx0, hso, hdd, hK, hG, hBN]
      rw [hfn]
      have HBN := Lib.hid hBN; clear hBN
      have hsl : ¬ (0 ≤ p.salt) := hsal
      have HFI := Lib.hid hf; have HG := Lib.hid hG; have HKK := Lib.hid hK; have HG3 := Lib.hid g3; have HG1 := Lib.hid g1
      clear hfn hx hnorm hf h hv hc hG hK hso hsal hx0 g1 g3
      go_enter Tryz.func96, Tryz.ntmps96
      go_upto_region 1 with (fail)
      refine wp_world (fun W hW => ?_)
      have hF : FldAt w vf vt vn vs p k id ver (.slice (some ⟨b, off, none⟩) vals.length cap) W := by rw [hW]; exact FldAt.start _ _ _ _ _ _ _ _ _ _
      clear hW
      have HF := Lib.hid hF
      have hc1 := (hF.b.cell (p := ⟨b, off + i, none⟩) hb).trans HC.out
      obtain ⟨r0, r1, r2⟩ := cells3 hF.r
      obtain ⟨p0, p1, p2⟩ := cells3 hF.p
      obtain ⟨s0, s1, s2, s3⟩ := cellsS hF.s
      have y1 := lt_of_blk hF.z
      clear hF
      go_wp2_with fail
      refine wp_world (fun W1 hW1 => ?_)
      have ho1 : W1.heap[W.heap.size]? = some (.cells #[.int .i64 i, .bool false, strV []] 174 (0, 0)) := by rw [hW1]; exact blk_new rfl
      have hb1 : Below W.heap.size W W1 := by rw [hW1]; exact (Below.refl _ _).alloc (Nat.le_refl _) _
      have hc2 := (hb1.cell (p := ⟨b, off + i, none⟩) (by have := HF.out.b.size; show b < _; omega)).trans hc1
      have HF1 := Lib.hid (HF.out.below hb1); have HO1 := Lib.hid ho1
      have HS1 := Lib.hid (HS.out.below HF1.out.b)
      clear hW1 ho1 hb1 hc1 s0 s1 s2 s3 r0 r1 r2 p0 p1 p2 HF
      obtain ⟨s0, s1, s2, s3⟩ := cellsS HF1.out.s
      have r2 := (cells3 HF1.out.r).2.2
      have y2 := lt_of_blk HO1.out
      refine wp_region_noPanic ?_
      refine wp_region_held_drew (S := (fun w' => w'.cell? ⟨w.heap.size, 0, none⟩ = some vf ∧ w'.cell? ⟨w.heap.size, 1, none⟩ = some vt ∧ w'.cell? ⟨w.heap.size, 2, none⟩ = some vn ∧ w'.cell? ⟨w.heap.size, 3, none⟩ = some vs ∧ w'.cell? ⟨w.heap.size + 3, 2, none⟩ = some (.slice (some ⟨b, off, none⟩) vals.length cap) ∧ w'.cell? ⟨b, off + i, none⟩ = some (strV x))) (by kernel_rfl) (⟨s0, s1, s2, s3, r2, hc2⟩) (fun hHeld => ?_)
      refine tH 0 (h := ?_)
      try simp only [List.getElem_toArray, List.getElem_cons_zero, List.getElem_cons_succ, Act.put, List.setIfInBounds_toArray, List.set_cons_zero, List.set_cons_succ]
      refine tH 1 (h := ?_)
      try simp only [List.getElem_toArray, List.getElem_cons_zero, List.getElem_cons_succ, Act.put, List.setIfInBounds_toArray, List.set_cons_zero, List.set_cons_succ]
      refine tH 2 (h := ?_)
      try simp only [List.getElem_toArray, List.getElem_cons_zero, List.getElem_cons_succ, Act.put, List.setIfInBounds_toArray, List.set_cons_zero, List.set_cons_succ]
      refine tH 3 (h := ?_)
      try simp only [List.getElem_toArray, List.getElem_cons_zero, List.getElem_cons_succ, Act.put, List.setIfInBounds_toArray, List.set_cons_zero, List.set_cons_succ]
      refine tH 4 (h := ?_)
      try simp only [List.getElem_toArray, List.getElem_cons_zero, List.getElem_cons_succ, Act.put, List.setIfInBounds_toArray, List.set_cons_zero, List.set_cons_succ]
      refine tH 5 (h := ?_)
      try simp only [List.getElem_toArray, List.getElem_cons_zero, List.getElem_cons_succ, Act.put, List.setIfInBounds_toArray, List.set_cons_zero, List.set_cons_succ]
      refine tH 6 (h := ?_)
      try simp only [List.getElem_toArray, List.getElem_cons_zero, List.getElem_cons_succ, Act.put, List.setIfInBounds_toArray, List.set_cons_zero, List.set_cons_succ]
      refine wpAnyH_ready (rs := [7]) (by kernel_rfl) (by simp) ?_
      refine AllReadyH.cons rfl (fun K hK => ?_) AllReadyH.nil
      go_simp
      refine (grams_s _ _ _ _ _ s i ⟨x.toArray⟩ _ (HS1.out.below (Below.refl _ _).drew) (by rw [mk_size]; omega)).mono ?_; rw [show (⟨x.toArray⟩ : ByteArray).data.toList = x by simp, HG.out]; rintro e w2 ⟨vg, rfl, hvg, hb2⟩; rw [HG1.out]; have b2 := ((Below.refl W1.heap.size W1).drew).trans hb2; clear hb2
      refine hK.out _ _ (⟨(b2.cell (p := ⟨w.heap.size, 0, none⟩) (lt_of_blk HF1.out.s)).trans s0, (b2.cell (p := ⟨w.heap.size, 1, none⟩) (lt_of_blk HF1.out.s)).trans s1, (b2.cell (p := ⟨w.heap.size, 2, none⟩) (lt_of_blk HF1.out.s)).trans s2, (b2.cell (p := ⟨w.heap.size, 3, none⟩) (lt_of_blk HF1.out.s)).trans s3, (b2.cell (p := ⟨w.heap.size + 3, 2, none⟩) (lt_of_blk HF1.out.r)).trans r2, (b2.cell (p := ⟨b, off + i, none⟩) (by have := HF1.out.b.size; show b < _; omega)).trans hc2⟩) (fun hHeld => ?_)
      clear hK K
      try simp only [List.getElem_toArray, List.getElem_cons_zero, List.getElem_cons_succ, Act.put, List.setIfInBounds_toArray, List.set_cons_zero, List.set_cons_succ]
      refine tH 8 (h := ?_)
      try simp only [List.getElem_toArray, List.getElem_cons_zero, List.getElem_cons_succ, Act.put, List.setIfInBounds_toArray, List.set_cons_zero, List.set_cons_succ]
      refine tH 9 (h := ?_)
      try simp only [List.getElem_toArray, List.getElem_cons_zero, List.getElem_cons_succ, Act.put, List.setIfInBounds_toArray, List.set_cons_zero, List.set_cons_succ]
      refine tH 10 (h := ?_)
      try simp only [List.getElem_toArray, List.getElem_cons_zero, List.getElem_cons_succ, Act.put, List.setIfInBounds_toArray, List.set_cons_zero, List.set_cons_succ]
      refine tH 11 (h := ?_)
      try simp only [List.getElem_toArray, List.getElem_cons_zero, List.getElem_cons_succ, Act.put, List.setIfInBounds_toArray, List.set_cons_zero, List.set_cons_succ]
      refine tH 12 (h := ?_)
      try simp only [List.getElem_toArray, List.getElem_cons_zero, List.getElem_cons_succ, Act.put, List.setIfInBounds_toArray, List.set_cons_zero, List.set_cons_succ]
      refine wpAnyH_done (by kernel_rfl) ?_ _
      refine NoPanic.normal ?_
      have HF2 := Lib.hid (HF1.out.below b2)
      have HO2 := Lib.hid (blk_below b2 (lt_of_blk HO1.out) HO1.out)
      have HVG := Lib.hid hvg
      obtain ⟨ag, cg, rfl⟩ := hvg.slice
      clear hHeld hc2 s0 s1 s2 s3 r2 y2 y1 b2 hvg HF1 HO1 HS1
      go_wp2_with fail
      refine wp_world (fun W2 hW2 => ?_)
      rw [← hW2] at HF2 HO2 HVG; clear hW2
      obtain ⟨q0, q1, q2⟩ := cells3 HF2.out.p
      obtain ⟨k0, k1⟩ := cells2K HF2.out.k
      obtain ⟨o0, o1, o2⟩ := cells3 HO2.out
      refine wp_region_noPanic ?_
      refine wp_region_k (by kernel_rfl) (fun w' => w'.cell? ⟨w.heap.size + 1, 0, none⟩ = some (.int .i64 p.len) ∧ w'.cell? ⟨w.heap.size + 1, 1, none⟩ = some (.int .i64 p.hashes) ∧ w'.cell? ⟨w.heap.size + 1, 2, none⟩ = some (.int .i64 p.salt) ∧ w'.cell? ⟨w.heap.size + 2, 0, none⟩ = some (.int .u64 k.1) ∧ w'.cell? ⟨w.heap.size + 2, 1, none⟩ = some (.int .u64 k.2) ∧ w'.cell? ⟨W.heap.size, 0, none⟩ = some (.int .i64 i) ∧ w'.cell? ⟨W.heap.size, 1, none⟩ = some (.bool false) ∧ w'.cell? ⟨W.heap.size, 2, none⟩ = some (strV [])) 8 (⟨q0, q1, q2, k0, k1, o0, o1, o2⟩) (fun hHeld => ?_)
      refine tK 0 (h := ?_)
      try simp only [List.getElem_toArray, List.getElem_cons_zero, List.getElem_cons_succ, Act.put, List.setIfInBounds_toArray, List.set_cons_zero, List.set_cons_succ]
      refine tK 1 (h := ?_)
      try simp only [List.getElem_toArray, List.getElem_cons_zero, List.getElem_cons_succ, Act.put, List.setIfInBounds_toArray, List.set_cons_zero, List.set_cons_succ]
      refine tK 2 (h := ?_)
      try simp only [List.getElem_toArray, List.getElem_cons_zero, List.getElem_cons_succ, Act.put, List.setIfInBounds_toArray, List.set_cons_zero, List.set_cons_succ]
      refine tK 4 (h := ?_)
      try simp only [List.getElem_toArray, List.getElem_cons_zero, List.getElem_cons_succ, Act.put, List.setIfInBounds_toArray, List.set_cons_zero, List.set_cons_succ]
      refine wpAnyK_ready (rs := [3]) (by kernel_rfl) (by simp) ?_
      refine AllReadyK.cons rfl (fun K hK => ?_) AllReadyK.nil
      go_simp
      refine (derive_any k i false [] _ (by omega) (by simp)).mono ?_; rw [HKK.out]; rintro e w3 ⟨rfl, hb3⟩; have b3 := ((Below.refl W2.heap.size W2).drew).trans hb3; clear hb3
      refine shutK hK (⟨(b3.cell (p := ⟨w.heap.size + 1, 0, none⟩) (lt_of_blk HF2.out.p)).trans q0, (b3.cell (p := ⟨w.heap.size + 1, 1, none⟩) (lt_of_blk HF2.out.p)).trans q1, (b3.cell (p := ⟨w.heap.size + 1, 2, none⟩) (lt_of_blk HF2.out.p)).trans q2, (b3.cell (p := ⟨w.heap.size + 2, 0, none⟩) (lt_of_blk HF2.out.k)).trans k0, (b3.cell (p := ⟨w.heap.size + 2, 1, none⟩) (lt_of_blk HF2.out.k)).trans k1, (b3.cell (p := ⟨W.heap.size, 0, none⟩) (lt_of_blk HO2.out)).trans o0, (b3.cell (p := ⟨W.heap.size, 1, none⟩) (lt_of_blk HO2.out)).trans o1, (b3.cell (p := ⟨W.heap.size, 2, none⟩) (lt_of_blk HO2.out)).trans o2⟩) (fun hHeld => ?_)
      clear hK K
      try simp only [List.getElem_toArray, List.getElem_cons_zero, List.getElem_cons_succ, Act.put, List.setIfInBounds_toArray, List.set_cons_zero, List.set_cons_succ]
      refine wpAnyK_ready (rs := [5]) (by kernel_rfl) (by simp) ?_
      refine AllReadyK.cons rfl (fun K hK => ?_) AllReadyK.nil
      go_simp
      refine (bencode_yes Any1 p KX _ G.1 _ HFI.out.par (HVG.out.below b3) (fun g hg => Nat.le_trans (HG3.out g hg) (by decide)) g2).mono ?_; rw [HBN.out]; rintro e w4 ⟨_, rfl, ⟨sb, rfl, hvb⟩, hb4⟩; have b4 := b3.trans (hb4.mono b3.size); have HVB := Lib.hid hvb; obtain ⟨ab, cb, rfl⟩ := hvb.slice; clear hb4 hvb
      refine shutK hK (⟨(b4.cell (p := ⟨w.heap.size + 1, 0, none⟩) (lt_of_blk HF2.out.p)).trans q0, (b4.cell (p := ⟨w.heap.size + 1, 1, none⟩) (lt_of_blk HF2.out.p)).trans q1, (b4.cell (p := ⟨w.heap.size + 1, 2, none⟩) (lt_of_blk HF2.out.p)).trans q2, (b4.cell (p := ⟨w.heap.size + 2, 0, none⟩) (lt_of_blk HF2.out.k)).trans k0, (b4.cell (p := ⟨w.heap.size + 2, 1, none⟩) (lt_of_blk HF2.out.k)).trans k1, (b4.cell (p := ⟨W.heap.size, 0, none⟩) (lt_of_blk HO2.out)).trans o0, (b4.cell (p := ⟨W.heap.size, 1, none⟩) (lt_of_blk HO2.out)).trans o1, (b4.cell (p := ⟨W.heap.size, 2, none⟩) (lt_of_blk HO2.out)).trans o2⟩) (fun hHeld => ?_)
      clear hK K
      try simp only [List.getElem_toArray, List.getElem_cons_zero, List.getElem_cons_succ, Act.put, List.setIfInBounds_toArray, List.set_cons_zero, List.set_cons_succ]
      refine tK 6 (h := ?_)
      try simp only [List.getElem_toArray, List.getElem_cons_zero, List.getElem_cons_succ, Act.put, List.setIfInBounds_toArray, List.set_cons_zero, List.set_cons_succ]
      refine tK 7 (h := ?_)
      try simp only [List.getElem_toArray, List.getElem_cons_zero, List.getElem_cons_succ, Act.put, List.setIfInBounds_toArray, List.set_cons_zero, List.set_cons_succ]
      have hz4 := blk_below b4 (lt_of_blk HF2.out.z) HF2.out.z
      obtain ⟨z0, z1⟩ := cells2K hz4
      have f0 := frozen_of_row _ _ 0 _ _ hz4; have f1 := frozen_of_row _ _ 1 _ _ hz4
      have y4 := lt_of_blk hz4
      refine wpAnyK_ready (rs := [8]) (by kernel_rfl) (by simp) ?_
      refine AllReadyK.cons rfl (fun K hK => ?_) AllReadyK.nil
      go_simp
      refine shutK_off hK (by decide) ?_
      clear hK K
      try simp only [List.getElem_toArray, List.getElem_cons_zero, List.getElem_cons_succ, Act.put, List.setIfInBounds_toArray, List.set_cons_zero, List.set_cons_succ]
      refine wpAnyK_ready (rs := [9]) (by kernel_rfl) (by simp) ?_
      refine AllReadyK.cons rfl (fun K hK => ?_) AllReadyK.nil
      go_simp
      refine shutK_off hK (by decide) ?_
      clear hK K
      try simp only [List.getElem_toArray, List.getElem_cons_zero, List.getElem_cons_succ, Act.put, List.setIfInBounds_toArray, List.set_cons_zero, List.set_cons_succ]
      refine wpAnyK_done (by kernel_rfl) ?_ _
      refine NoPanic.normal ?_
      go_wp2_with fail
      refine bodyPost_row2 rfl rfl (blk_set (i := 1) (v := .slice ab B.words.length cb) (blk_set (i := 0) (v := .int .i64 B.len) hz4)) Tryz.underlying84 rfl (by kernel_rfl)
        ⟨_, rfl, ⟨_, rfl, ?_⟩, ((HF2.out.b.trans (b4.mono HF2.out.b.size)).setCell (p := ⟨w.heap.size + 4, 0, none⟩) (by show w.heap.size ≤ w.heap.size + 4; omega) _).setCell (p := ⟨w.heap.size + 4, 1, none⟩) (by show w.heap.size ≤ w.heap.size + 4; omega) _⟩
      have hlz := lt_of_blk HF2.out.z
      refine Vec.move HVB.out (by simp [World.setCell]) fun b hb hs => ?_
      have hs' : w3.heap.size ≤ b := hs
      have hz3 := b3.size
      exact ⟨(heap_setCell_other _ _ _ _ (by show b ≠ w.heap.size + 4; omega)).trans (heap_setCell_other _ _ _ _ (by show b ≠ w.heap.size + 4; omega)), by show w.heap.size ≤ b; omega⟩
end
section
open Go.RowKit
section
variable {P : Program}
end
/-- blocks from B on, but for the row's own -/
def OffRow (B : Nat) (v : Value) (x : Nat) : Prop := B ≤ x ∧ some x ≠ v.ownBlock
section
variable {α : Type} {P : Program} {w : World} {ops : Array Oper} {rest : List Oper} {o : Oper} {a : Act} {Q : Exit → Act → World → Prop}
/-- append of a list; where the row lies afterwards -/
theorem wpList_append_at (hgd : o.guard = none) (s x : Operand) (t : TypeId) (ho : o.op = .call { callee := .builtin .append, args := #[s, x], argTypes := #[t, t] })
    (e : TypeId) (z : Value) (size bytes : Nat) (enc : α → List Value) (hk : ∀ x, (enc x).length = size) (h1 : ∀ x, ∀ u ∈ enc x, u.oneCell' = true) (ht : P.underlying t = some (.slice e)) (hinfo : (P.info? e).map (fun i => (i.zero, i.size, i.bytes)) = some (some z, size, bytes))
    (hzs : z.cells.size = size) (hsz : 0 < size) (hby : bytes ≤ 128) {w0 : World} {v u : Value} {A B : List α} (hs : a.eval s = v) (hown : OwnV e size enc w0 v A w) (hx : a.eval x = u) (hr : Reads w size u B.length (B.flatMap enc)) (hn : A.length + B.length ≤ 1000000000)
    (h : ∀ v' w', OwnV e size enc w0 v' (A ++ B) w' → (∀ k o, some k ≠ v.ownBlock → w.heap[k]? = some o → w'.heap[k]? = some o) → w.heap.size ≤ w'.heap.size → (v'.ownBlock = none ∨ v.ownBlock = v'.ownBlock ∨ v'.ownBlock = some w.heap.size) → wpList P ops Q rest (a.put o.dst v') w') : wpList P ops Q (o :: rest) a w := by
  refine wpList_plain hgd fun K hK => ?_
  refine wp_append_reads s x t ho w0.heap.size e z size bytes ht hinfo hzs hsz v A.length (A.flatMap enc) hs hown.1 u B.length (B.flatMap enc) hx hr (fun u hu => ?_) (by unfold maxLen; omega) ?_ hown.2.size ?_
  · obtain ⟨y, _, hy⟩ := List.mem_flatMap.1 hu
    exact h1 y u hy
  · exact Nat.le_trans (Nat.mul_le_mul hn hby) (by decide)
  · intro v' w' ho' hg hat
    refine hK _ _ (h v' w' ⟨by rw [List.length_append, List.flatMap_append]; exact ho', hown.2.grown hg hown.2.size fun k hk => ?_⟩ (fun k o hk hko => (hg.block k (lt_of_blk hko) hk).trans hko) hg.size hat)
    rcases hown.1.2 with ⟨rfl, _⟩ | ⟨g, cap, cur, rfl, hg1, _⟩
    · simp [Value.ownBlock] at hk
    · have : g = k := by simpa [Value.ownBlock] using hk
      omega
end
end
end Go.Proofs.YtoeplomdcannlaaGreatDoor
