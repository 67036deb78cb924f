/- Parts of one proof: CmpPlain, BloomA, SchJ, BloomB, MakeS, MakeT, Dress, DeckPlain, MakeU. -/
import Derived.Test.YtmakailcpkogdaaGreatDoorPartEncodeSalts5
import Derived.Deep.RegionHeld3
import Derived.IntWalk
import Derived.Deep.DeepCutAuto
section
/- Plain: comparing arrays and encoded records; which are valid. -/
set_option linter.unusedSimpArgs false
set_option linter.unusedVariables false
namespace Go.Proofs.YtmakailcpkogdaaGreatDoor
open Go.RowKit
theorem getD_at {α : Type} (l : List α) (d : α) {i : Nat} (h : i < l.length) : l.getD i d = l[i] := by rw [List.getD, List.getElem?_eq_getElem h]; rfl
def cmp3 (x y : Int) : Int := if x < y then -1 else if y < x then 1 else 0
theorem cmp3_self (x : Int) : cmp3 x x = 0 := by unfold cmp3; simp
theorem cmp3_eq {x y : Int} (h : cmp3 x y = 0) : x = y := by
  unfold cmp3 at h
  split at h
  · simp at h
  · split at h
    · simp at h
    · omega
def cmpW : List Int → List Int → Int
  | [], [] => 0
  | [], _ :: _ => -1
  | _ :: _, [] => 1
  | x :: a, y :: b => if cmp3 x y = 0 then cmpW a b else cmp3 x y
theorem cmpW_self : ∀ a : List Int, cmpW a a = 0
  | [] => rfl
  | x :: a => by unfold cmpW; rw [if_pos (cmp3_self x)]; exact cmpW_self a
theorem cmpW_eq : ∀ a b : List Int, cmpW a b = 0 → a = b
  | [], [], _ => rfl
  | [], _ :: _, h => by simp [cmpW] at h
  | _ :: _, [], h => by simp [cmpW] at h
  | x :: a, y :: b, h => by
    unfold cmpW at h
    split at h
    next h1 => rw [cmp3_eq h1, cmpW_eq a b h]
    next h1 => exact absurd h h1
theorem cmpW_nilr : ∀ a : List Int, cmpW a [] = if a.length = 0 then 0 else 1
  | [] => rfl
  | _ :: _ => rfl
theorem cmpW_nill : ∀ b : List Int, cmpW [] b = if b.length = 0 then 0 else -1
  | [] => rfl
  | _ :: _ => rfl
theorem cmpW_drop {a b : List Int} {k : Nat} (h1 : k < a.length) (h2 : k < b.length) : cmpW (a.drop k) (b.drop k) = if cmp3 (a.getD k 0) (b.getD k 0) = 0 then cmpW (a.drop (k + 1)) (b.drop (k + 1)) else cmp3 (a.getD k 0) (b.getD k 0) := by
  rw [List.drop_eq_getElem_cons h1, List.drop_eq_getElem_cons h2, getD_at _ _ h1, getD_at _ _ h2]; rfl
/-- the first that is not zero -/
def orN : List Int → Int
  | [] => 0
  | x :: l => if x = 0 then orN l else x
def cmpB (a b : BitsL) : Int := orN [cmp3 a.len b.len, cmp3 a.words.length b.words.length, cmpW a.words b.words]
theorem cmpB_self (a : BitsL) : cmpB a a = 0 := by simp [cmpB, orN, cmp3_self, cmpW_self]
theorem orN_zero : ∀ {l : List Int}, orN l = 0 → ∀ x ∈ l, x = 0
  | [], _, x, h => by simp at h
  | y :: l, h, x, hx => by
    unfold orN at h
    split at h
    next h1 =>
      rcases List.mem_cons.1 hx with rfl | hx
      · exact h1
      · exact orN_zero h x hx
    next h1 => exact absurd h h1
theorem cmpB_eq {a b : BitsL} (h : cmpB a b = 0) : a = b := by
  obtain ⟨n, u⟩ := a; obtain ⟨m, v⟩ := b
  have h1 := orN_zero h (cmp3 n m) (by simp)
  have h2 := orN_zero h (cmpW u v) (by simp)
  rw [cmp3_eq h1, cmpW_eq _ _ h2]
/-- two lists of arrays are equal -/
def sameAt (A B : List BitsL) (j : Nat) : Bool := decide (cmpB (A.getD j noBits) (B.getD j noBits) = 0)
def sameF (A B : List BitsL) : Bool := decide (A.length = B.length) && (List.range A.length).all (sameAt A B)
def sameE (a b : EncL) : Bool := decide (a.id = b.id) && (decide (a.ver = b.ver) && sameF a.fields b.fields)
theorem sameF_self (A : List BitsL) : sameF A A = true := by simp [sameF, sameAt, cmpB_self]
theorem sameE_self (a : EncL) : sameE a a = true := by simp [sameE, sameF_self]
def noneB (b : BitsL) : Bool := decide (b.len = 0) && decide (b.words.length = 0)
def badB (b : BitsL) : Bool := !noneB b && !validB b
def evalidB (e : EncL) : Bool := decide (1 ≤ e.id) && decide (e.id ≤ 1048576) && decide (1 ≤ e.ver) && decide (e.ver ≤ 1048576) && decide (1 ≤ e.fields.length) && decide (e.fields.length ≤ 5) && !(e.fields.any badB)
end Go.Proofs.YtmakailcpkogdaaGreatDoor
end
section
/- bloom, the program's: the positions of a gram. -/
set_option linter.unusedSimpArgs false
set_option linter.unusedVariables false
set_option maxRecDepth 100000
namespace Go.Proofs.YtmakailcpkogdaaGreatDoor
open Go.RowKit
/-- w' is w, but for blocks that meet T, and for new blocks -/
structure KeptBut (T : Nat → Prop) (w w' : World) : Prop where
  os : w'.os = w.os
  tape : w'.tape = w.tape
  output : w'.output = w.output
  size : w.heap.size ≤ w'.heap.size
  block : ∀ k, k < w.heap.size → ¬ T k → w'.heap[k]? = w.heap[k]?
theorem KeptBut.refl (T : Nat → Prop) (w : World) : KeptBut T w w := ⟨rfl, rfl, rfl, Nat.le_refl _, fun _ _ _ => rfl⟩
theorem KeptBut.trans {T : Nat → Prop} {a b c : World} (h : KeptBut T a b) (k : KeptBut T b c) : KeptBut T a c :=
  ⟨k.os.trans h.os, k.tape.trans h.tape, k.output.trans h.output, Nat.le_trans h.size k.size, fun i hi ht => (k.block i (Nat.lt_of_lt_of_le hi h.size) ht).trans (h.block i hi ht)⟩
theorem KeptBut.below {T : Nat → Prop} {a b : World} {B : Nat} (h : KeptBut T a b) (hB : ∀ k, k < B → ¬ T k) (hs : B ≤ a.heap.size) : Below B a b := ⟨h.os, h.tape, h.output, h.size, fun k hk => h.block k (by omega) (hB k hk)⟩
theorem KeptBut.ofBelow {T : Nat → Prop} {a b : World} (h : Below a.heap.size a b) : KeptBut T a b := ⟨h.os, h.tape, h.output, h.size, fun k hk _ => h.block k hk⟩
theorem KeptBut.set {T : Nat → Prop} {a b : World} (h : KeptBut T a b) {p : Addr} (hp : T p.block) (v : Value) : KeptBut T a (b.setCell p v) :=
  ⟨h.os, h.tape, h.output, by simpa [World.setCell] using h.size, fun k hk hn => (heap_setCell_other _ _ _ _ (fun e => hn (by rw [e]; exact hp))).trans (h.block k hk hn)⟩
theorem KeptBut.drew {T : Nat → Prop} {a b : World} (h : KeptBut T a b) : KeptBut T a b.drew := ⟨h.os, h.tape, h.output, h.size, h.block⟩
theorem KeptBut.blk {T : Nat → Prop} {a b : World} (h : KeptBut T a b) {k : Nat} {o : Obj} (hk : ¬ T k) (ho : a.heap[k]? = some o) : b.heap[k]? = some o := (h.block k (lt_of_blk ho) hk).trans ho
abbrev oneI (x : Int) : Obj := .cells #[.int .i64 x] 3 (0, 0)
abbrev parC (p : ParL) : Array Value := #[.int .i64 p.len, .int .i64 p.hashes, .int .i64 p.salt]
/-- a function that deals positions: its four variables -/
structure ClosAt (w : World) (nb yb pb xb : Nat) (p : ParL) (x y : Int) : Prop where
  n : w.heap[nb]? = some (oneI x)
  y : w.heap[yb]? = some (oneI y)
  p : w.heap[pb]? = some (.cells (parC p) 64 (0, 0))
  x : ∃ z, w.heap[xb]? = some (oneI z)
  ne1 : nb ≠ yb
  ne2 : nb ≠ pb
  ne3 : nb ≠ xb
  ne4 : xb ≠ yb
  ne5 : xb ≠ pb
theorem cell1 {w : World} {b : Nat} {x : Value} {t : TypeId} {fr : Nat × Nat} (h : w.heap[b]? = some (.cells #[x] t fr)) : w.cell? ⟨b, 0, none⟩ = some x := by rw [cell_of_row _ _ _ _ _ _ h]; rfl
set_option maxHeartbeats 4000000 in
theorem bnext_any (nb yb pb xb : Nat) (p : ParL) (x y : Int) (w : World) (h : ClosAt w nb yb pb xb p x y) (hp : ParOk p) (hx : 0 ≤ x) (hx2 : x < p.len) (hy : 1 ≤ y) (hy2 : y ≤ 1000) :
    Calls Tryz.prog 314 #[.pointer (some ⟨nb, 0, none⟩), .pointer (some ⟨yb, 0, none⟩), .pointer (some ⟨pb, 0, none⟩), .pointer (some ⟨xb, 0, none⟩)] w fun e w' =>
      e = .returned (.int .i64 x) ∧ ClosAt w' nb yb pb xb p ((x + y) % p.len) y ∧ KeptBut (fun k => k = nb ∨ k = xb) w w' := by
  obtain ⟨hn, hyy, hpp, ⟨z, hz⟩, ne1, ne2, ne3, ne4, ne5⟩ := h
  have hl1 := hp.len1; have hl2 := hp.len2
  have hl0 : p.len ≠ 0 := by omega
  have hw0 : IntKind.i64.wrap (x + y) = x + y := by rw [IntKind.wrap_i64]; omega
  have hw : (IntKind.i64.wrap (x + y)).tmod p.len = (x + y) % p.len := by rw [hw0, Int.tmod_eq_emod_of_nonneg (by omega)]
  clear hw0
  have c0 := cell1 hn; have c1 := cell1 hyy; have c2 := cell1 hz
  obtain ⟨q0, q1, q2⟩ := cells3 hpp
  have f0 := frozen_of_row _ _ 0 _ _ hn; have f1 := frozen_of_row _ _ 0 _ _ hz
  have z0 := lt_of_blk hn; have z1 := lt_of_blk hz
  have H1 := Lib.hid hn; have H2 := Lib.hid hyy; have H3 := Lib.hid hpp; have H4 := Lib.hid hz
  clear hn hyy hpp hz hp
  go_enter Tryz.func314, Tryz.ntmps314
  go_wp2_with fail
  refine wp_region_noPanic ?_
  refine wp_region_k (by kernel_rfl) (fun w' => w'.cell? ⟨nb, 0, none⟩ = some (.int .i64 x) ∧ w'.cell? ⟨yb, 0, none⟩ = some (.int .i64 y) ∧ w'.cell? ⟨pb, 0, none⟩ = some (.int .i64 p.len)) 8 (⟨c0, c1, q0⟩) (fun hHeld => ?_)
  refine wpAnyK_take (i := 0) (v := ?_) rfl (by kernel_rfl) (by kernel_rfl) (by kernel_rfl) (by kernel_rfl) (fun _ _ _ h => h) (Or.inl ⟨by rfl, ?_⟩) (by assumption) ?_
  rotate_left 1
  · (intro wS hSw; (try dsimp only at hSw); go_simp; try with_reducible rfl)
  try simp only [List.getElem_toArray, List.getElem_cons_zero, List.getElem_cons_succ, Act.put, List.setIfInBounds_toArray, List.set_cons_zero, List.set_cons_succ]
  refine wpAnyK_take (i := 1) (v := ?_) rfl (by kernel_rfl) (by kernel_rfl) (by kernel_rfl) (by kernel_rfl) (fun _ _ _ h => h) (Or.inl ⟨by rfl, ?_⟩) (by assumption) ?_
  rotate_left 1
  · (intro wS hSw; (try dsimp only at hSw); go_simp; try with_reducible rfl)
  try simp only [List.getElem_toArray, List.getElem_cons_zero, List.getElem_cons_succ, Act.put, List.setIfInBounds_toArray, List.set_cons_zero, List.set_cons_succ]
  refine wpAnyK_take (i := 2) (v := ?_) rfl (by kernel_rfl) (by kernel_rfl) (by kernel_rfl) (by kernel_rfl) (fun _ _ _ h => h) (Or.inl ⟨by rfl, ?_⟩) (by assumption) ?_
  rotate_left 1
  · (intro wS hSw; (try dsimp only at hSw); go_simp; try with_reducible rfl)
  try simp only [List.getElem_toArray, List.getElem_cons_zero, List.getElem_cons_succ, Act.put, List.setIfInBounds_toArray, List.set_cons_zero, List.set_cons_succ]
  refine wpAnyK_take (i := 3) (v := ?_) rfl (by kernel_rfl) (by kernel_rfl) (by kernel_rfl) (by kernel_rfl) (fun _ _ _ h => h) (Or.inl ⟨by rfl, ?_⟩) (by assumption) ?_
  rotate_left 1
  · (intro wS hSw; (try dsimp only at hSw); go_simp; try with_reducible rfl)
  try simp only [List.getElem_toArray, List.getElem_cons_zero, List.getElem_cons_succ, Act.put, List.setIfInBounds_toArray, List.set_cons_zero, List.set_cons_succ]
  refine wpAnyK_take (i := 4) (v := ?_) rfl (by kernel_rfl) (by kernel_rfl) (by kernel_rfl) (by kernel_rfl) (fun _ _ _ h => h) (Or.inl ⟨by rfl, ?_⟩) (by assumption) ?_
  rotate_left 1
  · (intro wS hSw; (try dsimp only at hSw); go_simp; try with_reducible rfl)
  try simp only [List.getElem_toArray, List.getElem_cons_zero, List.getElem_cons_succ, Act.put, List.setIfInBounds_toArray, List.set_cons_zero, List.set_cons_succ]
  refine wpAnyK_take (i := 5) (v := ?_) rfl (by kernel_rfl) (by kernel_rfl) (by kernel_rfl) (by kernel_rfl) (fun _ _ _ h => h) (Or.inl ⟨by rfl, ?_⟩) (by assumption) ?_
  rotate_left 1
  · (intro wS hSw; (try dsimp only at hSw); go_simp; try with_reducible rfl)
  try simp only [List.getElem_toArray, List.getElem_cons_zero, List.getElem_cons_succ, Act.put, List.setIfInBounds_toArray, List.set_cons_zero, List.set_cons_succ]
  refine wpAnyK_take (i := 6) (v := ?_) rfl (by kernel_rfl) (by kernel_rfl) (by kernel_rfl) (by kernel_rfl) (fun _ _ _ h => h) (Or.inl ⟨by rfl, ?_⟩) (by assumption) ?_
  rotate_left 1
  · (intro wS hSw; (try dsimp only at hSw); go_simp; try with_reducible rfl)
  try simp only [List.getElem_toArray, List.getElem_cons_zero, List.getElem_cons_succ, Act.put, List.setIfInBounds_toArray, List.set_cons_zero, List.set_cons_succ]
  have g0 : ∀ v, (w.setCell ⟨xb, 0, none⟩ v).cell? ⟨nb, 0, none⟩ = some (.int .i64 x) := fun v => by rw [cell1 (blk_far H1.out ne3)]
  have g1 : ∀ v, (w.setCell ⟨xb, 0, none⟩ v).cell? ⟨yb, 0, none⟩ = some (.int .i64 y) := fun v => by rw [cell1 (blk_far H2.out (Ne.symm ne4))]
  have g2 : ∀ v, (w.setCell ⟨xb, 0, none⟩ v).cell? ⟨pb, 0, none⟩ = some (.int .i64 p.len) := fun v => (cells3 (blk_far H3.out (Ne.symm ne5))).1
  refine wpAnyK_ready (rs := [7]) (by kernel_rfl) (by simp) ?_
  refine AllReadyK.cons rfl (fun K hK => ?_) AllReadyK.nil
  go_simp
  refine shutK hK (⟨g0 _, g1 _, g2 _⟩) (fun hHeld => ?_)
  clear hK K
  try simp only [List.getElem_toArray, List.getElem_cons_zero, List.getElem_cons_succ, Act.put, List.setIfInBounds_toArray, List.set_cons_zero, List.set_cons_succ]
  have g3 : ∀ v, (w.setCell ⟨xb, 0, none⟩ v).frozen? ⟨nb, 0, none⟩ = false := fun v => frozen_of_row _ _ 0 _ _ (blk_far H1.out ne3)
  refine wpAnyK_ready (rs := [8]) (by kernel_rfl) (by simp) ?_
  refine AllReadyK.cons rfl (fun K hK => ?_) AllReadyK.nil
  go_simp
  refine shutK_off hK (by decide) ?_
  clear hK K
  try simp only [List.getElem_toArray, List.getElem_cons_zero, List.getElem_cons_succ, Act.put, List.setIfInBounds_toArray, List.set_cons_zero, List.set_cons_succ]
  refine wpAnyK_done (by kernel_rfl) ?_ _
  refine NoPanic.normal ?_
  clear g0 g1 g2 g3
  have e1 := blk_set (i := 0) (v := .int .i64 x) H4.out
  have e2 : ((w.setCell ⟨xb, 0, none⟩ (.int .i64 x)).setCell ⟨nb, 0, none⟩ (.int .i64 ((x + y) % p.len))).heap[xb]? = some (oneI x) := blk_far e1 (Ne.symm ne3)
  have g4 : ((w.setCell ⟨xb, 0, none⟩ (.int .i64 x)).setCell ⟨nb, 0, none⟩ (.int .i64 ((x + y) % p.len))).cell? ⟨xb, 0, none⟩ = some (.int .i64 x) := cell1 e2
  go_wp2_with fail
  go_ret
  refine ⟨rfl, ⟨?_, ?_, ?_, ⟨x, ?_⟩, ne1, ne2, ne3, ne4, ne5⟩, ?_⟩
  · exact blk_set (i := 0) (v := .int .i64 ((x + y) % p.len)) (blk_far H1.out ne3)
  · exact blk_far (blk_far H2.out (Ne.symm ne4)) (Ne.symm ne1)
  · exact blk_far (blk_far H3.out (Ne.symm ne5)) (Ne.symm ne2)
  · exact e2
  · exact (((KeptBut.refl _ w).set (p := ⟨xb, 0, none⟩) (.inr rfl) _).set (p := ⟨nb, 0, none⟩) (.inl rfl) _).drew
theorem partsP_bd (ka kb : Int) (L : List (List UInt8)) : 0 ≤ partsP ka kb L ∧ partsP ka kb L < 18446744073709551616 := by
  unfold partsP sumP xr; exact bits_u64_bd _ _ _
def DrawnPost (p : ParL) (k : Int × Int) (g : List UInt8) (w : World) (e : Ending) (w' : World) : Prop :=
  ∃ nb yb pb xb : Nat, e = .returned (.func (.func 314) #[] #[.pointer (some ⟨nb, 0, none⟩), .pointer (some ⟨yb, 0, none⟩), .pointer (some ⟨pb, 0, none⟩), .pointer (some ⟨xb, 0, none⟩)]) ∧
    ClosAt w' nb yb pb xb p (firstP p k g) (stepP p k g) ∧ (w.heap.size ≤ nb ∧ w.heap.size ≤ xb ∧ w.heap.size ≤ yb ∧ w.heap.size ≤ pb) ∧ Below w.heap.size w w'
set_option maxHeartbeats 4000000 in
theorem drawn_any (p : ParL) (k : Int × Int) (g : List UInt8) (w : World) (hp : ParOk p) (hg : g.length ≤ 60000) :
    Calls Tryz.prog 282 #[.agg (parC p), .agg #[.int .u64 k.1, .int .u64 k.2], strV g] w (DrawnPost p k g w) := by
  have hl1 := hp.len1; have hl2 := hp.len2
  have hl0 : p.len ≠ 0 := by omega
  have hl3 : p.len - 1 ≠ 0 := by omega
  obtain ⟨h0, h1⟩ := partsP_bd k.1 k.2 [[49], g]
  obtain ⟨h2, h3⟩ := partsP_bd k.1 k.2 [[50], g]
  have hw1 : IntKind.u64.wrap p.len = p.len := by rw [IntKind.wrap_u64]; omega
  have hw2 : IntKind.i64.wrap (p.len - 1) = p.len - 1 := by rw [IntKind.wrap_i64]; omega
  have hw3 : IntKind.u64.wrap (p.len - 1) = p.len - 1 := by rw [IntKind.wrap_u64]; omega
  obtain ⟨X, hX⟩ : ∃ X, firstP p k g = X := ⟨_, rfl⟩
  obtain ⟨Y, hY⟩ : ∃ Y, (partsP k.1 k.2 [[50], g]) % (p.len - 1) = Y := ⟨_, rfl⟩
  have hm1 : (partsP k.1 k.2 [[49], g]).tmod p.len = X := by rw [← hX, Int.tmod_eq_emod_of_nonneg h0]; rfl
  have hm2 : (partsP k.1 k.2 [[50], g]).tmod (p.len - 1) = Y := by rw [← hY, Int.tmod_eq_emod_of_nonneg h2]
  have x0 : 0 ≤ X := by rw [← hX]; exact Int.emod_nonneg _ hl0
  have x1 : X < p.len := by rw [← hX]; exact Int.emod_lt_of_pos _ (by omega)
  have y0 : 0 ≤ Y := by rw [← hY]; exact Int.emod_nonneg _ hl3
  have y1 : Y < p.len - 1 := by rw [← hY]; exact Int.emod_lt_of_pos _ (by omega)
  have hc1 : IntKind.i64.wrap X = X := by rw [IntKind.wrap_i64]; omega
  have hc2 : IntKind.i64.wrap Y = Y := by rw [IntKind.wrap_i64]; omega
  have hc3 : IntKind.i64.wrap (1 + Y) = 1 + Y := by rw [IntKind.wrap_i64]; omega
  have HX := Lib.hid hX; have HY := Lib.hid (show stepP p k g = 1 + Y by rw [← hY]; rfl)
  clear hX hY h0 h1 h2 h3 x0 x1
  go_enter Tryz.func282, Tryz.ntmps282
  go_wp2_with fail
  refine wp_world (fun W hW => ?_)
  have hb0 : Below w.heap.size w W := by rw [hW]; exact ((Below.refl _ _).alloc (Nat.le_refl _) _).alloc (by simp) _
  have hp0 : W.heap[w.heap.size]? = some (.cells (parC p) 64 (0, 0)) := by rw [hW]; exact blk_old (blk_new rfl)
  have hk0 : W.heap[w.heap.size + 1]? = some (.cells #[.int .u64 k.1, .int .u64 k.2] 41 (0, 0)) := by rw [hW]; exact blk_new (by simp)
  clear hW
  have HB0 := Lib.hid hb0; have HP0 := Lib.hid hp0; have HK0 := Lib.hid hk0
  have hpW := lt_of_blk hp0; have hkW := lt_of_blk hk0
  obtain ⟨q0, q1, q2⟩ := cells3 hp0; obtain ⟨k0, k1⟩ := cells2K hk0
  clear hb0 hp0 hk0
  have bD : Below W.heap.size W W.drew := (Below.refl _ _).drew
  go_cut [7] (fun s7 wx => ∃ xb : Nat, s7 = .pointer (some ⟨xb, 0, none⟩) ∧ W.heap.size ≤ xb ∧ wx.heap[xb]? = some (oneI X) ∧ Below W.heap.size W wx)
  case first =>
    refine wp_region_noPanic ?_
    refine wp_region_k (by kernel_rfl) (fun w' => w'.cell? ⟨w.heap.size + 1, 0, none⟩ = some (.int .u64 k.1) ∧ w'.cell? ⟨w.heap.size + 1, 1, none⟩ = some (.int .u64 k.2) ∧ w'.cell? ⟨w.heap.size, 0, none⟩ = some (.int .i64 p.len)) 10 (⟨k0, k1, q0⟩) (fun hHeld => ?_)
    refine wpAnyK_take (i := 0) (v := ?_) rfl (by kernel_rfl) (by kernel_rfl) (by kernel_rfl) (by kernel_rfl) (fun _ _ _ h => h) (Or.inl ⟨by rfl, ?_⟩) (by assumption) ?_
    rotate_left 1
    · (intro wS hSw; (try dsimp only at hSw); go_simp; try with_reducible rfl)
    try simp only [List.getElem_toArray, List.getElem_cons_zero, List.getElem_cons_succ, Act.put, List.setIfInBounds_toArray, List.set_cons_zero, List.set_cons_succ]
    refine wpAnyK_take (i := 1) (v := ?_) rfl (by kernel_rfl) (by kernel_rfl) (by kernel_rfl) (by kernel_rfl) (fun _ _ _ h => h) (Or.inl ⟨by rfl, ?_⟩) (by assumption) ?_
    rotate_left 1
    · (intro wS hSw; (try dsimp only at hSw); go_simp; try with_reducible rfl)
    try simp only [List.getElem_toArray, List.getElem_cons_zero, List.getElem_cons_succ, Act.put, List.setIfInBounds_toArray, List.set_cons_zero, List.set_cons_succ]
    refine wpAnyK_take (i := 4) (v := ?_) rfl (by kernel_rfl) (by kernel_rfl) (by kernel_rfl) (by kernel_rfl) (fun _ _ _ h => h) (Or.inl ⟨by rfl, ?_⟩) (by assumption) ?_
    rotate_left 1
    · (intro wS hSw; (try dsimp only at hSw); go_simp; try with_reducible rfl)
    try simp only [List.getElem_toArray, List.getElem_cons_zero, List.getElem_cons_succ, Act.put, List.setIfInBounds_toArray, List.set_cons_zero, List.set_cons_succ]
    refine wpAnyK_take (i := 5) (v := ?_) rfl (by kernel_rfl) (by kernel_rfl) (by kernel_rfl) (by kernel_rfl) (fun _ _ _ h => h) (Or.inl ⟨by rfl, ?_⟩) (by assumption) ?_
    rotate_left 1
    · (intro wS hSw; (try dsimp only at hSw); go_simp; try with_reducible rfl)
    try simp only [List.getElem_toArray, List.getElem_cons_zero, List.getElem_cons_succ, Act.put, List.setIfInBounds_toArray, List.set_cons_zero, List.set_cons_succ]
    refine wpAnyK_take (i := 6) (v := ?_) rfl (by kernel_rfl) (by kernel_rfl) (by kernel_rfl) (by kernel_rfl) (fun _ _ _ h => h) (Or.inl ⟨by rfl, ?_⟩) (by assumption) ?_
    rotate_left 1
    · (intro wS hSw; (try dsimp only at hSw); go_simp; try with_reducible rfl)
    try simp only [List.getElem_toArray, List.getElem_cons_zero, List.getElem_cons_succ, Act.put, List.setIfInBounds_toArray, List.set_cons_zero, List.set_cons_succ]
    refine wpAnyK_ready (rs := [2, 9]) (by kernel_rfl) (by simp) ?_
    refine AllReadyK.cons rfl (fun K hK => ?_) (AllReadyK.cons rfl (fun K hK => ?_) AllReadyK.nil)
    focus
      go_simp
      refine shutK hK (⟨((bD.alloc bD.size _).cell (p := ⟨w.heap.size + 1, 0, none⟩) hkW).trans k0, ((bD.alloc bD.size _).cell (p := ⟨w.heap.size + 1, 1, none⟩) hkW).trans k1, ((bD.alloc bD.size _).cell (p := ⟨w.heap.size, 0, none⟩) hpW).trans q0⟩) (fun hHeld => ?_)
      clear hK K
      try simp only [List.getElem_toArray, List.getElem_cons_zero, List.getElem_cons_succ, Act.put, List.setIfInBounds_toArray, List.set_cons_zero, List.set_cons_succ]
      refine wpk_name (fun W1 hW1 => ?_)
      have b1 : Below W.heap.size W W1 := by rw [hW1]; exact bD.alloc bD.size (.cells #[strV [49], strV g] 9)
      have gs : W1.heap[W.heap.size]? = some (.cells #[strV [49], strV g] 9 (0, 0)) := by rw [hW1]; exact blk_new rfl
      have ltgs : W.heap.size ≤ W.heap.size := bD.size
      clear hW1 hHeld
      have hHeld : W1.cell? ⟨w.heap.size + 1, 0, none⟩ = some (.int .u64 k.1) ∧ W1.cell? ⟨w.heap.size + 1, 1, none⟩ = some (.int .u64 k.2) ∧ W1.cell? ⟨w.heap.size, 0, none⟩ = some (.int .i64 p.len) := ⟨(b1.cell (p := ⟨w.heap.size + 1, 0, none⟩) hkW).trans k0, (b1.cell (p := ⟨w.heap.size + 1, 1, none⟩) hkW).trans k1, (b1.cell (p := ⟨w.heap.size, 0, none⟩) hpW).trans q0⟩
      refine wpAnyK_ready (rs := [3, 9]) (by kernel_rfl) (by simp) ?_
      refine AllReadyK.cons rfl (fun K hK => ?_) (AllReadyK.cons rfl (fun K hK => ?_) AllReadyK.nil)
      focus
        go_simp
        refine (sparts_two k.1 k.2 [49] g (by decide) hg _ _ gs).mono ?_
        rintro e W2 ⟨rfl, hb⟩
        have b2 := b1.trans (hb.mono b1.size)
        clear hb
        refine shutK hK (⟨(b2.cell (p := ⟨w.heap.size + 1, 0, none⟩) hkW).trans k0, (b2.cell (p := ⟨w.heap.size + 1, 1, none⟩) hkW).trans k1, (b2.cell (p := ⟨w.heap.size, 0, none⟩) hpW).trans q0⟩) (fun hHeld => ?_)
        clear hK K
        try simp only [List.getElem_toArray, List.getElem_cons_zero, List.getElem_cons_succ, Act.put, List.setIfInBounds_toArray, List.set_cons_zero, List.set_cons_succ]
        refine wpAnyK_take (i := 7) (v := ?_) rfl (by kernel_rfl) (by kernel_rfl) (by kernel_rfl) (by kernel_rfl) (fun _ _ _ h => h) (Or.inl ⟨by rfl, ?_⟩) (by assumption) ?_
        rotate_left 1
        · (intro wS hSw; (try dsimp only at hSw); go_simp; try with_reducible rfl)
        try simp only [List.getElem_toArray, List.getElem_cons_zero, List.getElem_cons_succ, Act.put, List.setIfInBounds_toArray, List.set_cons_zero, List.set_cons_succ]
        refine wpAnyK_take (i := 8) (v := ?_) rfl (by kernel_rfl) (by kernel_rfl) (by kernel_rfl) (by kernel_rfl) (fun _ _ _ h => h) (Or.inl ⟨by rfl, ?_⟩) (by assumption) ?_
        rotate_left 1
        · (intro wS hSw; (try dsimp only at hSw); go_simp; try with_reducible rfl)
        try simp only [List.getElem_toArray, List.getElem_cons_zero, List.getElem_cons_succ, Act.put, List.setIfInBounds_toArray, List.set_cons_zero, List.set_cons_succ]
        refine wpAnyK_ready (rs := [9]) (by kernel_rfl) (by simp) ?_
        refine AllReadyK.cons rfl (fun K hK => ?_) AllReadyK.nil
        go_simp
        refine shutK hK (⟨((b2.alloc b2.size _).cell (p := ⟨w.heap.size + 1, 0, none⟩) hkW).trans k0, ((b2.alloc b2.size _).cell (p := ⟨w.heap.size + 1, 1, none⟩) hkW).trans k1, ((b2.alloc b2.size _).cell (p := ⟨w.heap.size, 0, none⟩) hpW).trans q0⟩) (fun hHeld => ?_)
        clear hK K
        try simp only [List.getElem_toArray, List.getElem_cons_zero, List.getElem_cons_succ, Act.put, List.setIfInBounds_toArray, List.set_cons_zero, List.set_cons_succ]
        refine wpk_name (fun W3 hW3 => ?_)
        have b3 : Below W.heap.size W W3 := by rw [hW3]; exact b2.alloc b2.size (.cells #[.int .i64 0] 3)
        have ga : W3.heap[W2.heap.size]? = some (oneI 0) := by rw [hW3]; exact blk_new rfl
        have ltga : W.heap.size ≤ W2.heap.size := b2.size
        clear hW3 hHeld
        have hHeld : W3.cell? ⟨w.heap.size + 1, 0, none⟩ = some (.int .u64 k.1) ∧ W3.cell? ⟨w.heap.size + 1, 1, none⟩ = some (.int .u64 k.2) ∧ W3.cell? ⟨w.heap.size, 0, none⟩ = some (.int .i64 p.len) := ⟨(b3.cell (p := ⟨w.heap.size + 1, 0, none⟩) hkW).trans k0, (b3.cell (p := ⟨w.heap.size + 1, 1, none⟩) hkW).trans k1, (b3.cell (p := ⟨w.heap.size, 0, none⟩) hpW).trans q0⟩
      rotate_left 1
      focus
        go_simp
        refine shutK hK (⟨((b1.alloc b1.size _).cell (p := ⟨w.heap.size + 1, 0, none⟩) hkW).trans k0, ((b1.alloc b1.size _).cell (p := ⟨w.heap.size + 1, 1, none⟩) hkW).trans k1, ((b1.alloc b1.size _).cell (p := ⟨w.heap.size, 0, none⟩) hpW).trans q0⟩) (fun hHeld => ?_)
        clear hK K
        try simp only [List.getElem_toArray, List.getElem_cons_zero, List.getElem_cons_succ, Act.put, List.setIfInBounds_toArray, List.set_cons_zero, List.set_cons_succ]
        refine wpk_name (fun W2 hW2 => ?_)
        have b2 : Below W.heap.size W W2 := by rw [hW2]; exact b1.alloc b1.size (.cells #[.int .i64 0] 3)
        have ga : W2.heap[W1.heap.size]? = some (oneI 0) := by rw [hW2]; exact blk_new rfl
        have ltga : W.heap.size ≤ W1.heap.size := b1.size
        have gs := (show W2.heap[_]? = some _ by rw [hW2]; exact blk_old gs)
        clear hW2 hHeld
        have hHeld : W2.cell? ⟨w.heap.size + 1, 0, none⟩ = some (.int .u64 k.1) ∧ W2.cell? ⟨w.heap.size + 1, 1, none⟩ = some (.int .u64 k.2) ∧ W2.cell? ⟨w.heap.size, 0, none⟩ = some (.int .i64 p.len) := ⟨(b2.cell (p := ⟨w.heap.size + 1, 0, none⟩) hkW).trans k0, (b2.cell (p := ⟨w.heap.size + 1, 1, none⟩) hkW).trans k1, (b2.cell (p := ⟨w.heap.size, 0, none⟩) hpW).trans q0⟩
        refine wpAnyK_ready (rs := [3]) (by kernel_rfl) (by simp) ?_
        refine AllReadyK.cons rfl (fun K hK => ?_) AllReadyK.nil
        go_simp
        refine (sparts_two k.1 k.2 [49] g (by decide) hg _ _ gs).mono ?_
        rintro e W3 ⟨rfl, hb⟩
        have b3 := b2.trans (hb.mono b2.size)
        have ga := blk_below hb (lt_of_blk ga) ga
        clear hb
        refine shutK hK (⟨(b3.cell (p := ⟨w.heap.size + 1, 0, none⟩) hkW).trans k0, (b3.cell (p := ⟨w.heap.size + 1, 1, none⟩) hkW).trans k1, (b3.cell (p := ⟨w.heap.size, 0, none⟩) hpW).trans q0⟩) (fun hHeld => ?_)
        clear hK K
        try simp only [List.getElem_toArray, List.getElem_cons_zero, List.getElem_cons_succ, Act.put, List.setIfInBounds_toArray, List.set_cons_zero, List.set_cons_succ]
        refine wpAnyK_take (i := 7) (v := ?_) rfl (by kernel_rfl) (by kernel_rfl) (by kernel_rfl) (by kernel_rfl) (fun _ _ _ h => h) (Or.inl ⟨by rfl, ?_⟩) (by assumption) ?_
        rotate_left 1
        · (intro wS hSw; (try dsimp only at hSw); go_simp; try with_reducible rfl)
        try simp only [List.getElem_toArray, List.getElem_cons_zero, List.getElem_cons_succ, Act.put, List.setIfInBounds_toArray, List.set_cons_zero, List.set_cons_succ]
        refine wpAnyK_take (i := 8) (v := ?_) rfl (by kernel_rfl) (by kernel_rfl) (by kernel_rfl) (by kernel_rfl) (fun _ _ _ h => h) (Or.inl ⟨by rfl, ?_⟩) (by assumption) ?_
        rotate_left 1
        · (intro wS hSw; (try dsimp only at hSw); go_simp; try with_reducible rfl)
        try simp only [List.getElem_toArray, List.getElem_cons_zero, List.getElem_cons_succ, Act.put, List.setIfInBounds_toArray, List.set_cons_zero, List.set_cons_succ]
    rotate_left 2
    focus
      go_simp
      refine shutK hK (⟨((bD.alloc bD.size _).cell (p := ⟨w.heap.size + 1, 0, none⟩) hkW).trans k0, ((bD.alloc bD.size _).cell (p := ⟨w.heap.size + 1, 1, none⟩) hkW).trans k1, ((bD.alloc bD.size _).cell (p := ⟨w.heap.size, 0, none⟩) hpW).trans q0⟩) (fun hHeld => ?_)
      clear hK K
      try simp only [List.getElem_toArray, List.getElem_cons_zero, List.getElem_cons_succ, Act.put, List.setIfInBounds_toArray, List.set_cons_zero, List.set_cons_succ]
      refine wpk_name (fun W1 hW1 => ?_)
      have b1 : Below W.heap.size W W1 := by rw [hW1]; exact bD.alloc bD.size (.cells #[.int .i64 0] 3)
      have ga : W1.heap[W.heap.size]? = some (oneI 0) := by rw [hW1]; exact blk_new rfl
      have ltga : W.heap.size ≤ W.heap.size := bD.size
      clear hW1 hHeld
      have hHeld : W1.cell? ⟨w.heap.size + 1, 0, none⟩ = some (.int .u64 k.1) ∧ W1.cell? ⟨w.heap.size + 1, 1, none⟩ = some (.int .u64 k.2) ∧ W1.cell? ⟨w.heap.size, 0, none⟩ = some (.int .i64 p.len) := ⟨(b1.cell (p := ⟨w.heap.size + 1, 0, none⟩) hkW).trans k0, (b1.cell (p := ⟨w.heap.size + 1, 1, none⟩) hkW).trans k1, (b1.cell (p := ⟨w.heap.size, 0, none⟩) hpW).trans q0⟩
      refine wpAnyK_ready (rs := [2]) (by kernel_rfl) (by simp) ?_
      refine AllReadyK.cons rfl (fun K hK => ?_) AllReadyK.nil
      go_simp
      refine shutK hK (⟨((b1.alloc b1.size _).cell (p := ⟨w.heap.size + 1, 0, none⟩) hkW).trans k0, ((b1.alloc b1.size _).cell (p := ⟨w.heap.size + 1, 1, none⟩) hkW).trans k1, ((b1.alloc b1.size _).cell (p := ⟨w.heap.size, 0, none⟩) hpW).trans q0⟩) (fun hHeld => ?_)
      clear hK K
      try simp only [List.getElem_toArray, List.getElem_cons_zero, List.getElem_cons_succ, Act.put, List.setIfInBounds_toArray, List.set_cons_zero, List.set_cons_succ]
      refine wpk_name (fun W2 hW2 => ?_)
      have b2 : Below W.heap.size W W2 := by rw [hW2]; exact b1.alloc b1.size (.cells #[strV [49], strV g] 9)
      have gs : W2.heap[W1.heap.size]? = some (.cells #[strV [49], strV g] 9 (0, 0)) := by rw [hW2]; exact blk_new rfl
      have ltgs : W.heap.size ≤ W1.heap.size := b1.size
      have ga := (show W2.heap[_]? = some _ by rw [hW2]; exact blk_old ga)
      clear hW2 hHeld
      have hHeld : W2.cell? ⟨w.heap.size + 1, 0, none⟩ = some (.int .u64 k.1) ∧ W2.cell? ⟨w.heap.size + 1, 1, none⟩ = some (.int .u64 k.2) ∧ W2.cell? ⟨w.heap.size, 0, none⟩ = some (.int .i64 p.len) := ⟨(b2.cell (p := ⟨w.heap.size + 1, 0, none⟩) hkW).trans k0, (b2.cell (p := ⟨w.heap.size + 1, 1, none⟩) hkW).trans k1, (b2.cell (p := ⟨w.heap.size, 0, none⟩) hpW).trans q0⟩
      refine wpAnyK_ready (rs := [3]) (by kernel_rfl) (by simp) ?_
      refine AllReadyK.cons rfl (fun K hK => ?_) AllReadyK.nil
      go_simp
      refine (sparts_two k.1 k.2 [49] g (by decide) hg _ _ gs).mono ?_
      rintro e W3 ⟨rfl, hb⟩
      have b3 := b2.trans (hb.mono b2.size)
      have ga := blk_below hb (lt_of_blk ga) ga
      clear hb
      refine shutK hK (⟨(b3.cell (p := ⟨w.heap.size + 1, 0, none⟩) hkW).trans k0, (b3.cell (p := ⟨w.heap.size + 1, 1, none⟩) hkW).trans k1, (b3.cell (p := ⟨w.heap.size, 0, none⟩) hpW).trans q0⟩) (fun hHeld => ?_)
      clear hK K
      try simp only [List.getElem_toArray, List.getElem_cons_zero, List.getElem_cons_succ, Act.put, List.setIfInBounds_toArray, List.set_cons_zero, List.set_cons_succ]
      refine wpAnyK_take (i := 7) (v := ?_) rfl (by kernel_rfl) (by kernel_rfl) (by kernel_rfl) (by kernel_rfl) (fun _ _ _ h => h) (Or.inl ⟨by rfl, ?_⟩) (by assumption) ?_
      rotate_left 1
      · (intro wS hSw; (try dsimp only at hSw); go_simp; try with_reducible rfl)
      try simp only [List.getElem_toArray, List.getElem_cons_zero, List.getElem_cons_succ, Act.put, List.setIfInBounds_toArray, List.set_cons_zero, List.set_cons_succ]
      refine wpAnyK_take (i := 8) (v := ?_) rfl (by kernel_rfl) (by kernel_rfl) (by kernel_rfl) (by kernel_rfl) (fun _ _ _ h => h) (Or.inl ⟨by rfl, ?_⟩) (by assumption) ?_
      rotate_left 1
      · (intro wS hSw; (try dsimp only at hSw); go_simp; try with_reducible rfl)
      try simp only [List.getElem_toArray, List.getElem_cons_zero, List.getElem_cons_succ, Act.put, List.setIfInBounds_toArray, List.set_cons_zero, List.set_cons_succ]
    all_goals
      have ca := cell1 ga; have fa := frozen_of_row _ _ 0 _ _ ga; have za := lt_of_blk ga
      refine wpAnyK_ready (rs := [10]) (by kernel_rfl) (by simp) ?_
      refine AllReadyK.cons rfl (fun K hK => ?_) AllReadyK.nil
      go_simp
      refine shutK_off hK (by decide) ?_
      clear hK K
      try simp only [List.getElem_toArray, List.getElem_cons_zero, List.getElem_cons_succ, Act.put, List.setIfInBounds_toArray, List.set_cons_zero, List.set_cons_succ]
      refine wpAnyK_done (by kernel_rfl) ?_ _
      refine NoPanic.normal ?_
      go_wp2_with fail
      go_meet
      exact ⟨_, rfl, ltga, blk_set (i := 0) (v := .int .i64 X) ga, b3.setCell (p := ⟨_, 0, none⟩) ltga _⟩
  case rest =>
    obtain ⟨xb, rfl, hxb, hx, hbx⟩ := hcut
    have HC := Lib.hid hx
    have HBX := Lib.hid hbx
    have k0 := (hbx.cell (p := ⟨w.heap.size + 1, 0, none⟩) hkW).trans k0; have k1 := (hbx.cell (p := ⟨w.heap.size + 1, 1, none⟩) hkW).trans k1; have q0 := (hbx.cell (p := ⟨w.heap.size, 0, none⟩) hpW).trans q0
    have hP1 := blk_below hbx hpW HP0.out; have hK1 := blk_below hbx hkW HK0.out
    have hpW0 := hpW; have hpW := lt_of_blk hP1; have hkW := lt_of_blk hK1
    have HP1 := Lib.hid hP1; have HK1 := Lib.hid hK1
    have hzW := hbx.size; have hxlt := lt_of_blk hx
    clear hbx hx hP1 hK1 bD
    obtain ⟨W0, hW0⟩ : ∃ W0, W0 = W := ⟨_, rfl⟩
    rw [← hW0] at HB0 HP0 HK0 HBX hxb hzW hpW0; clear hW0
    obtain ⟨W, rfl⟩ : ∃ W, W = wc := ⟨_, rfl⟩
    have bD : Below W.heap.size W W.drew := (Below.refl _ _).drew
    go_wp2_with fail
    go_cut [8] (fun s8 wx => ∃ yb : Nat, s8 = .pointer (some ⟨yb, 0, none⟩) ∧ W.heap.size ≤ yb ∧ wx.heap[yb]? = some (oneI (1 + Y)) ∧ Below W.heap.size W wx)
    case first =>
      refine wp_region_noPanic ?_
      refine wp_region_k (by kernel_rfl) (fun w' => w'.cell? ⟨w.heap.size + 1, 0, none⟩ = some (.int .u64 k.1) ∧ w'.cell? ⟨w.heap.size + 1, 1, none⟩ = some (.int .u64 k.2) ∧ w'.cell? ⟨w.heap.size, 0, none⟩ = some (.int .i64 p.len)) 12 (⟨k0, k1, q0⟩) (fun hHeld => ?_)
      refine wpAnyK_take (i := 0) (v := ?_) rfl (by kernel_rfl) (by kernel_rfl) (by kernel_rfl) (by kernel_rfl) (fun _ _ _ h => h) (Or.inl ⟨by rfl, ?_⟩) (by assumption) ?_
      rotate_left 1
      · (intro wS hSw; (try dsimp only at hSw); go_simp; try with_reducible rfl)
      try simp only [List.getElem_toArray, List.getElem_cons_zero, List.getElem_cons_succ, Act.put, List.setIfInBounds_toArray, List.set_cons_zero, List.set_cons_succ]
      refine wpAnyK_take (i := 1) (v := ?_) rfl (by kernel_rfl) (by kernel_rfl) (by kernel_rfl) (by kernel_rfl) (fun _ _ _ h => h) (Or.inl ⟨by rfl, ?_⟩) (by assumption) ?_
      rotate_left 1
      · (intro wS hSw; (try dsimp only at hSw); go_simp; try with_reducible rfl)
      try simp only [List.getElem_toArray, List.getElem_cons_zero, List.getElem_cons_succ, Act.put, List.setIfInBounds_toArray, List.set_cons_zero, List.set_cons_succ]
      refine wpAnyK_take (i := 4) (v := ?_) rfl (by kernel_rfl) (by kernel_rfl) (by kernel_rfl) (by kernel_rfl) (fun _ _ _ h => h) (Or.inl ⟨by rfl, ?_⟩) (by assumption) ?_
      rotate_left 1
      · (intro wS hSw; (try dsimp only at hSw); go_simp; try with_reducible rfl)
      try simp only [List.getElem_toArray, List.getElem_cons_zero, List.getElem_cons_succ, Act.put, List.setIfInBounds_toArray, List.set_cons_zero, List.set_cons_succ]
      refine wpAnyK_take (i := 5) (v := ?_) rfl (by kernel_rfl) (by kernel_rfl) (by kernel_rfl) (by kernel_rfl) (fun _ _ _ h => h) (Or.inl ⟨by rfl, ?_⟩) (by assumption) ?_
      rotate_left 1
      · (intro wS hSw; (try dsimp only at hSw); go_simp; try with_reducible rfl)
      try simp only [List.getElem_toArray, List.getElem_cons_zero, List.getElem_cons_succ, Act.put, List.setIfInBounds_toArray, List.set_cons_zero, List.set_cons_succ]
      refine wpAnyK_take (i := 6) (v := ?_) rfl (by kernel_rfl) (by kernel_rfl) (by kernel_rfl) (by kernel_rfl) (fun _ _ _ h => h) (Or.inl ⟨by rfl, ?_⟩) (by assumption) ?_
      rotate_left 1
      · (intro wS hSw; (try dsimp only at hSw); go_simp; try with_reducible rfl)
      try simp only [List.getElem_toArray, List.getElem_cons_zero, List.getElem_cons_succ, Act.put, List.setIfInBounds_toArray, List.set_cons_zero, List.set_cons_succ]
      refine wpAnyK_take (i := 7) (v := ?_) rfl (by kernel_rfl) (by kernel_rfl) (by kernel_rfl) (by kernel_rfl) (fun _ _ _ h => h) (Or.inl ⟨by rfl, ?_⟩) (by assumption) ?_
      rotate_left 1
      · (intro wS hSw; (try dsimp only at hSw); go_simp; try with_reducible rfl)
      try simp only [List.getElem_toArray, List.getElem_cons_zero, List.getElem_cons_succ, Act.put, List.setIfInBounds_toArray, List.set_cons_zero, List.set_cons_succ]
      refine wpAnyK_ready (rs := [2, 11]) (by kernel_rfl) (by simp) ?_
      refine AllReadyK.cons rfl (fun K hK => ?_) (AllReadyK.cons rfl (fun K hK => ?_) AllReadyK.nil)
      focus
        go_simp
        refine shutK hK (⟨((bD.alloc bD.size _).cell (p := ⟨w.heap.size + 1, 0, none⟩) hkW).trans k0, ((bD.alloc bD.size _).cell (p := ⟨w.heap.size + 1, 1, none⟩) hkW).trans k1, ((bD.alloc bD.size _).cell (p := ⟨w.heap.size, 0, none⟩) hpW).trans q0⟩) (fun hHeld => ?_)
        clear hK K
        try simp only [List.getElem_toArray, List.getElem_cons_zero, List.getElem_cons_succ, Act.put, List.setIfInBounds_toArray, List.set_cons_zero, List.set_cons_succ]
        refine wpk_name (fun W1 hW1 => ?_)
        have b1 : Below W.heap.size W W1 := by rw [hW1]; exact bD.alloc bD.size (.cells #[strV [50], strV g] 9)
        have gs : W1.heap[W.heap.size]? = some (.cells #[strV [50], strV g] 9 (0, 0)) := by rw [hW1]; exact blk_new rfl
        have ltgs : W.heap.size ≤ W.heap.size := bD.size
        clear hW1 hHeld
        have hHeld : W1.cell? ⟨w.heap.size + 1, 0, none⟩ = some (.int .u64 k.1) ∧ W1.cell? ⟨w.heap.size + 1, 1, none⟩ = some (.int .u64 k.2) ∧ W1.cell? ⟨w.heap.size, 0, none⟩ = some (.int .i64 p.len) := ⟨(b1.cell (p := ⟨w.heap.size + 1, 0, none⟩) hkW).trans k0, (b1.cell (p := ⟨w.heap.size + 1, 1, none⟩) hkW).trans k1, (b1.cell (p := ⟨w.heap.size, 0, none⟩) hpW).trans q0⟩
        refine wpAnyK_ready (rs := [3, 11]) (by kernel_rfl) (by simp) ?_
        refine AllReadyK.cons rfl (fun K hK => ?_) (AllReadyK.cons rfl (fun K hK => ?_) AllReadyK.nil)
        focus
          go_simp
          refine (sparts_two k.1 k.2 [50] g (by decide) hg _ _ gs).mono ?_
          rintro e W2 ⟨rfl, hb⟩
          have b2 := b1.trans (hb.mono b1.size)
          clear hb
          refine shutK hK (⟨(b2.cell (p := ⟨w.heap.size + 1, 0, none⟩) hkW).trans k0, (b2.cell (p := ⟨w.heap.size + 1, 1, none⟩) hkW).trans k1, (b2.cell (p := ⟨w.heap.size, 0, none⟩) hpW).trans q0⟩) (fun hHeld => ?_)
          clear hK K
          try simp only [List.getElem_toArray, List.getElem_cons_zero, List.getElem_cons_succ, Act.put, List.setIfInBounds_toArray, List.set_cons_zero, List.set_cons_succ]
          refine wpAnyK_take (i := 8) (v := ?_) rfl (by kernel_rfl) (by kernel_rfl) (by kernel_rfl) (by kernel_rfl) (fun _ _ _ h => h) (Or.inl ⟨by rfl, ?_⟩) (by assumption) ?_
          rotate_left 1
          · (intro wS hSw; (try dsimp only at hSw); go_simp; try with_reducible rfl)
          try simp only [List.getElem_toArray, List.getElem_cons_zero, List.getElem_cons_succ, Act.put, List.setIfInBounds_toArray, List.set_cons_zero, List.set_cons_succ]
          refine wpAnyK_take (i := 9) (v := ?_) rfl (by kernel_rfl) (by kernel_rfl) (by kernel_rfl) (by kernel_rfl) (fun _ _ _ h => h) (Or.inl ⟨by rfl, ?_⟩) (by assumption) ?_
          rotate_left 1
          · (intro wS hSw; (try dsimp only at hSw); go_simp; try with_reducible rfl)
          try simp only [List.getElem_toArray, List.getElem_cons_zero, List.getElem_cons_succ, Act.put, List.setIfInBounds_toArray, List.set_cons_zero, List.set_cons_succ]
          refine wpAnyK_take (i := 10) (v := ?_) rfl (by kernel_rfl) (by kernel_rfl) (by kernel_rfl) (by kernel_rfl) (fun _ _ _ h => h) (Or.inl ⟨by rfl, ?_⟩) (by assumption) ?_
          rotate_left 1
          · (intro wS hSw; (try dsimp only at hSw); go_simp; try with_reducible rfl)
          try simp only [List.getElem_toArray, List.getElem_cons_zero, List.getElem_cons_succ, Act.put, List.setIfInBounds_toArray, List.set_cons_zero, List.set_cons_succ]
          refine wpAnyK_ready (rs := [11]) (by kernel_rfl) (by simp) ?_
          refine AllReadyK.cons rfl (fun K hK => ?_) AllReadyK.nil
          go_simp
          refine shutK hK (⟨((b2.alloc b2.size _).cell (p := ⟨w.heap.size + 1, 0, none⟩) hkW).trans k0, ((b2.alloc b2.size _).cell (p := ⟨w.heap.size + 1, 1, none⟩) hkW).trans k1, ((b2.alloc b2.size _).cell (p := ⟨w.heap.size, 0, none⟩) hpW).trans q0⟩) (fun hHeld => ?_)
          clear hK K
          try simp only [List.getElem_toArray, List.getElem_cons_zero, List.getElem_cons_succ, Act.put, List.setIfInBounds_toArray, List.set_cons_zero, List.set_cons_succ]
          refine wpk_name (fun W3 hW3 => ?_)
          have b3 : Below W.heap.size W W3 := by rw [hW3]; exact b2.alloc b2.size (.cells #[.int .i64 0] 3)
          have ga : W3.heap[W2.heap.size]? = some (oneI 0) := by rw [hW3]; exact blk_new rfl
          have ltga : W.heap.size ≤ W2.heap.size := b2.size
          clear hW3 hHeld
          have hHeld : W3.cell? ⟨w.heap.size + 1, 0, none⟩ = some (.int .u64 k.1) ∧ W3.cell? ⟨w.heap.size + 1, 1, none⟩ = some (.int .u64 k.2) ∧ W3.cell? ⟨w.heap.size, 0, none⟩ = some (.int .i64 p.len) := ⟨(b3.cell (p := ⟨w.heap.size + 1, 0, none⟩) hkW).trans k0, (b3.cell (p := ⟨w.heap.size + 1, 1, none⟩) hkW).trans k1, (b3.cell (p := ⟨w.heap.size, 0, none⟩) hpW).trans q0⟩
        rotate_left 1
        focus
          go_simp
          refine shutK hK (⟨((b1.alloc b1.size _).cell (p := ⟨w.heap.size + 1, 0, none⟩) hkW).trans k0, ((b1.alloc b1.size _).cell (p := ⟨w.heap.size + 1, 1, none⟩) hkW).trans k1, ((b1.alloc b1.size _).cell (p := ⟨w.heap.size, 0, none⟩) hpW).trans q0⟩) (fun hHeld => ?_)
          clear hK K
          try simp only [List.getElem_toArray, List.getElem_cons_zero, List.getElem_cons_succ, Act.put, List.setIfInBounds_toArray, List.set_cons_zero, List.set_cons_succ]
          refine wpk_name (fun W2 hW2 => ?_)
          have b2 : Below W.heap.size W W2 := by rw [hW2]; exact b1.alloc b1.size (.cells #[.int .i64 0] 3)
          have ga : W2.heap[W1.heap.size]? = some (oneI 0) := by rw [hW2]; exact blk_new rfl
          have ltga : W.heap.size ≤ W1.heap.size := b1.size
          have gs := (show W2.heap[_]? = some _ by rw [hW2]; exact blk_old gs)
          clear hW2 hHeld
          have hHeld : W2.cell? ⟨w.heap.size + 1, 0, none⟩ = some (.int .u64 k.1) ∧ W2.cell? ⟨w.heap.size + 1, 1, none⟩ = some (.int .u64 k.2) ∧ W2.cell? ⟨w.heap.size, 0, none⟩ = some (.int .i64 p.len) := ⟨(b2.cell (p := ⟨w.heap.size + 1, 0, none⟩) hkW).trans k0, (b2.cell (p := ⟨w.heap.size + 1, 1, none⟩) hkW).trans k1, (b2.cell (p := ⟨w.heap.size, 0, none⟩) hpW).trans q0⟩
          refine wpAnyK_ready (rs := [3]) (by kernel_rfl) (by simp) ?_
          refine AllReadyK.cons rfl (fun K hK => ?_) AllReadyK.nil
          go_simp
          refine (sparts_two k.1 k.2 [50] g (by decide) hg _ _ gs).mono ?_
          rintro e W3 ⟨rfl, hb⟩
          have b3 := b2.trans (hb.mono b2.size)
          have ga := blk_below hb (lt_of_blk ga) ga
          clear hb
          refine shutK hK (⟨(b3.cell (p := ⟨w.heap.size + 1, 0, none⟩) hkW).trans k0, (b3.cell (p := ⟨w.heap.size + 1, 1, none⟩) hkW).trans k1, (b3.cell (p := ⟨w.heap.size, 0, none⟩) hpW).trans q0⟩) (fun hHeld => ?_)
          clear hK K
          try simp only [List.getElem_toArray, List.getElem_cons_zero, List.getElem_cons_succ, Act.put, List.setIfInBounds_toArray, List.set_cons_zero, List.set_cons_succ]
          refine wpAnyK_take (i := 8) (v := ?_) rfl (by kernel_rfl) (by kernel_rfl) (by kernel_rfl) (by kernel_rfl) (fun _ _ _ h => h) (Or.inl ⟨by rfl, ?_⟩) (by assumption) ?_
          rotate_left 1
          · (intro wS hSw; (try dsimp only at hSw); go_simp; try with_reducible rfl)
          try simp only [List.getElem_toArray, List.getElem_cons_zero, List.getElem_cons_succ, Act.put, List.setIfInBounds_toArray, List.set_cons_zero, List.set_cons_succ]
          refine wpAnyK_take (i := 9) (v := ?_) rfl (by kernel_rfl) (by kernel_rfl) (by kernel_rfl) (by kernel_rfl) (fun _ _ _ h => h) (Or.inl ⟨by rfl, ?_⟩) (by assumption) ?_
          rotate_left 1
          · (intro wS hSw; (try dsimp only at hSw); go_simp; try with_reducible rfl)
          try simp only [List.getElem_toArray, List.getElem_cons_zero, List.getElem_cons_succ, Act.put, List.setIfInBounds_toArray, List.set_cons_zero, List.set_cons_succ]
          refine wpAnyK_take (i := 10) (v := ?_) rfl (by kernel_rfl) (by kernel_rfl) (by kernel_rfl) (by kernel_rfl) (fun _ _ _ h => h) (Or.inl ⟨by rfl, ?_⟩) (by assumption) ?_
          rotate_left 1
          · (intro wS hSw; (try dsimp only at hSw); go_simp; try with_reducible rfl)
          try simp only [List.getElem_toArray, List.getElem_cons_zero, List.getElem_cons_succ, Act.put, List.setIfInBounds_toArray, List.set_cons_zero, List.set_cons_succ]
      rotate_left 2
      focus
        go_simp
        refine shutK hK (⟨((bD.alloc bD.size _).cell (p := ⟨w.heap.size + 1, 0, none⟩) hkW).trans k0, ((bD.alloc bD.size _).cell (p := ⟨w.heap.size + 1, 1, none⟩) hkW).trans k1, ((bD.alloc bD.size _).cell (p := ⟨w.heap.size, 0, none⟩) hpW).trans q0⟩) (fun hHeld => ?_)
        clear hK K
        try simp only [List.getElem_toArray, List.getElem_cons_zero, List.getElem_cons_succ, Act.put, List.setIfInBounds_toArray, List.set_cons_zero, List.set_cons_succ]
        refine wpk_name (fun W1 hW1 => ?_)
        have b1 : Below W.heap.size W W1 := by rw [hW1]; exact bD.alloc bD.size (.cells #[.int .i64 0] 3)
        have ga : W1.heap[W.heap.size]? = some (oneI 0) := by rw [hW1]; exact blk_new rfl
        have ltga : W.heap.size ≤ W.heap.size := bD.size
        clear hW1 hHeld
        have hHeld : W1.cell? ⟨w.heap.size + 1, 0, none⟩ = some (.int .u64 k.1) ∧ W1.cell? ⟨w.heap.size + 1, 1, none⟩ = some (.int .u64 k.2) ∧ W1.cell? ⟨w.heap.size, 0, none⟩ = some (.int .i64 p.len) := ⟨(b1.cell (p := ⟨w.heap.size + 1, 0, none⟩) hkW).trans k0, (b1.cell (p := ⟨w.heap.size + 1, 1, none⟩) hkW).trans k1, (b1.cell (p := ⟨w.heap.size, 0, none⟩) hpW).trans q0⟩
        refine wpAnyK_ready (rs := [2]) (by kernel_rfl) (by simp) ?_
        refine AllReadyK.cons rfl (fun K hK => ?_) AllReadyK.nil
        go_simp
        refine shutK hK (⟨((b1.alloc b1.size _).cell (p := ⟨w.heap.size + 1, 0, none⟩) hkW).trans k0, ((b1.alloc b1.size _).cell (p := ⟨w.heap.size + 1, 1, none⟩) hkW).trans k1, ((b1.alloc b1.size _).cell (p := ⟨w.heap.size, 0, none⟩) hpW).trans q0⟩) (fun hHeld => ?_)
        clear hK K
        try simp only [List.getElem_toArray, List.getElem_cons_zero, List.getElem_cons_succ, Act.put, List.setIfInBounds_toArray, List.set_cons_zero, List.set_cons_succ]
        refine wpk_name (fun W2 hW2 => ?_)
        have b2 : Below W.heap.size W W2 := by rw [hW2]; exact b1.alloc b1.size (.cells #[strV [50], strV g] 9)
        have gs : W2.heap[W1.heap.size]? = some (.cells #[strV [50], strV g] 9 (0, 0)) := by rw [hW2]; exact blk_new rfl
        have ltgs : W.heap.size ≤ W1.heap.size := b1.size
        have ga := (show W2.heap[_]? = some _ by rw [hW2]; exact blk_old ga)
        clear hW2 hHeld
        have hHeld : W2.cell? ⟨w.heap.size + 1, 0, none⟩ = some (.int .u64 k.1) ∧ W2.cell? ⟨w.heap.size + 1, 1, none⟩ = some (.int .u64 k.2) ∧ W2.cell? ⟨w.heap.size, 0, none⟩ = some (.int .i64 p.len) := ⟨(b2.cell (p := ⟨w.heap.size + 1, 0, none⟩) hkW).trans k0, (b2.cell (p := ⟨w.heap.size + 1, 1, none⟩) hkW).trans k1, (b2.cell (p := ⟨w.heap.size, 0, none⟩) hpW).trans q0⟩
        refine wpAnyK_ready (rs := [3]) (by kernel_rfl) (by simp) ?_
        refine AllReadyK.cons rfl (fun K hK => ?_) AllReadyK.nil
        go_simp
        refine (sparts_two k.1 k.2 [50] g (by decide) hg _ _ gs).mono ?_
        rintro e W3 ⟨rfl, hb⟩
        have b3 := b2.trans (hb.mono b2.size)
        have ga := blk_below hb (lt_of_blk ga) ga
        clear hb
        refine shutK hK (⟨(b3.cell (p := ⟨w.heap.size + 1, 0, none⟩) hkW).trans k0, (b3.cell (p := ⟨w.heap.size + 1, 1, none⟩) hkW).trans k1, (b3.cell (p := ⟨w.heap.size, 0, none⟩) hpW).trans q0⟩) (fun hHeld => ?_)
        clear hK K
        try simp only [List.getElem_toArray, List.getElem_cons_zero, List.getElem_cons_succ, Act.put, List.setIfInBounds_toArray, List.set_cons_zero, List.set_cons_succ]
        refine wpAnyK_take (i := 8) (v := ?_) rfl (by kernel_rfl) (by kernel_rfl) (by kernel_rfl) (by kernel_rfl) (fun _ _ _ h => h) (Or.inl ⟨by rfl, ?_⟩) (by assumption) ?_
        rotate_left 1
        · (intro wS hSw; (try dsimp only at hSw); go_simp; try with_reducible rfl)
        try simp only [List.getElem_toArray, List.getElem_cons_zero, List.getElem_cons_succ, Act.put, List.setIfInBounds_toArray, List.set_cons_zero, List.set_cons_succ]
        refine wpAnyK_take (i := 9) (v := ?_) rfl (by kernel_rfl) (by kernel_rfl) (by kernel_rfl) (by kernel_rfl) (fun _ _ _ h => h) (Or.inl ⟨by rfl, ?_⟩) (by assumption) ?_
        rotate_left 1
        · (intro wS hSw; (try dsimp only at hSw); go_simp; try with_reducible rfl)
        try simp only [List.getElem_toArray, List.getElem_cons_zero, List.getElem_cons_succ, Act.put, List.setIfInBounds_toArray, List.set_cons_zero, List.set_cons_succ]
        refine wpAnyK_take (i := 10) (v := ?_) rfl (by kernel_rfl) (by kernel_rfl) (by kernel_rfl) (by kernel_rfl) (fun _ _ _ h => h) (Or.inl ⟨by rfl, ?_⟩) (by assumption) ?_
        rotate_left 1
        · (intro wS hSw; (try dsimp only at hSw); go_simp; try with_reducible rfl)
        try simp only [List.getElem_toArray, List.getElem_cons_zero, List.getElem_cons_succ, Act.put, List.setIfInBounds_toArray, List.set_cons_zero, List.set_cons_succ]
      all_goals
        have ca := cell1 ga; have fa := frozen_of_row _ _ 0 _ _ ga; have za := lt_of_blk ga
        refine wpAnyK_ready (rs := [12]) (by kernel_rfl) (by simp) ?_
        refine AllReadyK.cons rfl (fun K hK => ?_) AllReadyK.nil
        go_simp
        refine shutK_off hK (by decide) ?_
        clear hK K
        try simp only [List.getElem_toArray, List.getElem_cons_zero, List.getElem_cons_succ, Act.put, List.setIfInBounds_toArray, List.set_cons_zero, List.set_cons_succ]
        refine wpAnyK_done (by kernel_rfl) ?_ _
        refine NoPanic.normal ?_
        go_wp2_with fail
        go_meet
        exact ⟨_, rfl, ltga, blk_set (i := 0) (v := .int .i64 (1 + Y)) ga, b3.setCell (p := ⟨_, 0, none⟩) ltga _⟩
    case rest =>
      obtain ⟨yb, rfl, hyb, hy, hby⟩ := hcut
      have hx2 := blk_below hby hxlt HC.out
      have cx := cell1 hx2
      have hp2 := blk_below hby hpW HP1.out
      have zc := lt_of_blk hy; have hz3 := HBX.out.size; have hz4 := HB0.out.size; have hz5 := hby.size
      have HY2 := Lib.hid hy; have HX2 := Lib.hid hx2; have HP2 := Lib.hid hp2; have HBY := Lib.hid hby
      clear hy hx2 hp2 hby
      go_wp2_with fail
      go_ret
      refine ⟨wc.heap.size, yb, w.heap.size, xb, rfl, ⟨?_, ?_, blk_old HP2.out, ⟨X, blk_old HX2.out⟩, by omega, by omega, by omega, by omega, by omega⟩, ⟨by omega, by omega, by omega, by omega⟩, ?_⟩
      · rw [HX.out]; exact blk_new rfl
      · rw [HY.out]; exact blk_old HY2.out
      · exact (HB0.out.trans ((HBX.out.mono HB0.out.size).trans (HBY.out.mono (by omega)))).alloc (by omega) _
end Go.Proofs.YtmakailcpkogdaaGreatDoor
end
section
/- The sanity check of the laws of schemas. -/
set_option linter.unusedSimpArgs false
set_option linter.unusedVariables false
set_option maxRecDepth 100000
namespace Go.Proofs.YtmakailcpkogdaaGreatDoor
open Go.RowKit Cal
attribute [local go_sem] toList_mk mk_size
def birthL : List UInt8 := [98, 105, 114, 116, 104]
def awS : SchemaL := ⟨[(birthL, 2)], [[100, 114]], [], []⟩
def rawL0 : List UInt8 := [50, 48, 48, 48, 45, 48, 50, 45, 48, 51]
def normL0 : List UInt8 := [50, 48, 48, 48, 48, 50, 48, 51]
theorem aw_check : checkS awS = 0 := by kernel_rfl
theorem aw_find : findN awS 0 = (2, 0) := by kernel_rfl
theorem aw_value : valueN awS 0 rawL0 = (normL0, 0) := by kernel_rfl
theorem aw_normal : normalB awS 0 normL0 = true := by kernel_rfl
theorem aw_word : wordB [97, 98] = true := by kernel_rfl
theorem aw_text : textL awS = [102, 105, 101, 108, 100, 32, 98, 105, 114, 116, 104, 32, 100, 97, 116, 101, 10, 116, 105, 116, 108, 101, 32, 100, 114, 10] := by kernel_rfl
theorem vecF_one {w : World} {A : Nat} {x : F2} (h : w.heap[A]? = some (.cells #[strV x.1, .int .i64 x.2] 33 (0, 0))) : Vec w Any1 2 encF (.slice (some ⟨A, 0, none⟩) 1 1) [x] :=
  ⟨_, 1, rfl, by simp, fun _ => ⟨A, 0, rfl, trivial, lt_of_blk h, fun j y hj i u hu => by
    have hj0 : j = 0 := by
      have := (List.getElem?_eq_some_iff.1 hj).1
      simp at this; exact this
    subst hj0
    simp at hj; subst hj
    rw [cell_of_row _ _ _ _ _ _ h]
    match i, hu with
    | 0, hu => simpa [encF] using hu
    | 1, hu => simpa [encF] using hu
    | i + 2, hu => simp [encF] at hu⟩⟩
/-- a call's world under a name of its own -/
theorem wp_calls_world {P : Program} {f : FuncId} {args : Array Value} {W : World} {K : Ending → World → Prop} (h : ∀ w', w' = W → Calls P f args w' K) : Calls P f args W K := h W rfl
end Go.Proofs.YtmakailcpkogdaaGreatDoor
end
section
/- bloom, the program's: Positions. -/
set_option linter.unusedSimpArgs false
set_option linter.unusedVariables false
set_option maxRecDepth 100000
namespace Go.Proofs.YtmakailcpkogdaaGreatDoor
open Go.RowKit
def itN (len y : Int) : Nat → Int → Int
  | 0, x => x
  | n + 1, x => itN len y n ((x + y) % len)
theorem itN_succ (len y : Int) : ∀ n x, itN len y (n + 1) x = (itN len y n x + y) % len := by
  intro n
  induction n with
  | zero => intro x; rfl
  | succ n ih => intro x; rw [itN, ih]; rfl
theorem posN_snoc (len y : Int) : ∀ n x, posN len y (n + 1) x = posN len y n x ++ [itN len y n x] := by
  intro n
  induction n with
  | zero => intro x; rfl
  | succ n ih => intro x; rw [posN, ih]; rfl
theorem posN_len (len y : Int) : ∀ n x, (posN len y n x).length = n := by
  intro n
  induction n with
  | zero => intro x; rfl
  | succ n ih => intro x; simp [posN, ih]
theorem itN_bd (len y : Int) (hl : 0 < len) (x : Int) (h0 : 0 ≤ x) (h1 : x < len) : ∀ n, 0 ≤ itN len y n x ∧ itN len y n x < len := by
  intro n
  cases n with
  | zero => exact ⟨h0, h1⟩
  | succ n => rw [itN_succ]; exact ⟨Int.emod_nonneg _ (by omega), Int.emod_lt_of_pos _ hl⟩
theorem posN_bd (len y : Int) (hl : 0 < len) : ∀ n x, 0 ≤ x → x < len → ∀ i ∈ posN len y n x, 0 ≤ i ∧ i < len := by
  intro n
  induction n with
  | zero => intro x _ _ i hi; simp [posN] at hi
  | succ n ih =>
    intro x h0 h1 i hi
    simp only [posN, List.mem_cons] at hi
    rcases hi with rfl | hi
    · exact ⟨h0, h1⟩
    · exact ih _ (Int.emod_nonneg _ (by omega)) (Int.emod_lt_of_pos _ hl) i hi
abbrev encI (x : Int) : List Value := [.int .i64 x]
theorem made_ints (m : Nat) : madeCells #[.int .i64 0] m = ((List.replicate m (0 : Int)).flatMap encI).toArray := by
  apply Array.ext'
  have : ∀ k, (List.replicate k (0 : Int)).flatMap encI = List.replicate k (.int .i64 0) := by
    intro k; induction k with
    | zero => rfl
    | succ k ih => rw [List.replicate_succ, List.flatMap_cons, ih]; rfl
  rw [this]
  unfold madeCells
  rw [Array.toList_map, Array.toList_range]
  refine List.ext_getElem (by simp) fun i h1 h2 => ?_
  simp [Nat.mod_one]
theorem infoI : (Tryz.prog.info? 3).map (fun i => (i.zero, i.size, i.bytes)) = some (some (.int .i64 0), 1, 8) := by kernel_rfl
/-- the row of positions: j of them are there -/
theorem prow_step (len y : Int) (H j : Nat) (x : Int) (hj : j < H) : (((posN len y j x ++ List.replicate (H - j) 0).flatMap encI).toArray).setIfInBounds j (.int .i64 (itN len y j x)) = ((posN len y (j + 1) x ++ List.replicate (H - (j + 1)) 0).flatMap encI).toArray := by
  have fl : ∀ l : List Int, l.flatMap encI = l.map (Value.int .i64) := by
    intro l; induction l with
    | nil => rfl
    | cons a l ih => simp only [List.flatMap_cons, List.map_cons, ih]; rfl
  rw [fl, fl, List.setIfInBounds_toArray, show H - j = (H - (j + 1)) + 1 by omega, List.replicate_succ, posN_snoc]
  congr 1
  rw [List.map_append, List.set_append_right _ _ (by rw [List.length_map, posN_len]; exact Nat.le_refl _), List.length_map, posN_len, Nat.sub_self]
  simp
theorem row_cell (len y : Int) (H j : Nat) (x : Int) (hj : j < H) : (((posN len y j x ++ List.replicate (H - j) 0).flatMap encI).toArray)[j]? = some (.int .i64 0) := by
  have fl : ∀ l : List Int, l.flatMap encI = l.map (Value.int .i64) := by
    intro l; induction l with
    | nil => rfl
    | cons a l ih => simp only [List.flatMap_cons, List.map_cons, ih]; rfl
  rw [fl, List.getElem?_toArray, List.getElem?_map, List.getElem?_append_right (by rw [posN_len]; exact Nat.le_refl _), posN_len, Nat.sub_self, show H - j = (H - (j + 1)) + 1 by omega, List.replicate_succ]
  rfl
theorem fun_cell {w : World} {gb : Nat} {t : TypeId} {fr : Nat × Nat} {L : List Int} (hr : w.heap[gb]? = some (.cells (L.flatMap encI).toArray t fr)) {i : Nat} {x : Int} (hi : L[i]? = some x) {u : Nat} {v : Value} (hu : (encI x)[u]? = some v) : w.cell? ⟨gb, 0 + i * 1 + u, none⟩ = some v := by
  rw [cell_of_row _ _ _ _ _ _ hr, Nat.zero_add, List.getElem?_toArray]
  have hul : u < 1 := (List.getElem?_eq_some_iff.1 hu).1
  rw [flat_get (enc := encI) (fun _ => rfl) L i x hi u hul]; exact hu
theorem wph_name {P : Program} {md : Region.Mode} {ops : Array Oper} {Q : Exit → Act → World → Prop} {S : World → Prop} {fuel : Nat} {listed : Array Bool} {a : Act} {W : World} (h : ∀ w', w' = W → wpAnyH P md ops Q S fuel listed a w') : wpAnyH P md ops Q S fuel listed a W := h W rfl
def PosPost (p : ParL) (k : Int × Int) (g : List UInt8) (w : World) (e : Ending) (w' : World) : Prop :=
  ∃ v, e = .returned (.tuple #[v, .int .i64 0]) ∧ Vec w' (fun b => w.heap.size ≤ b) 1 encI v (positionsN p k g) ∧ Below w.heap.size w w'
theorem ClosAt.later {w : World} {nb yb pb xb : Nat} {p : ParL} {x y : Int} (h : ClosAt w nb yb pb xb p x y) {o : Obj} : ClosAt (w.alloc o) nb yb pb xb p x y :=
  ⟨blk_old h.n, blk_old h.y, blk_old h.p, h.x.imp fun _ hz => blk_old hz, h.ne1, h.ne2, h.ne3, h.ne4, h.ne5⟩
theorem ClosAt.set {w : World} {nb yb pb xb gb i : Nat} {p : ParL} {x y : Int} {v : Value} (h : ClosAt w nb yb pb xb p x y) (h1 : gb ≠ nb) (h2 : gb ≠ yb) (h3 : gb ≠ pb) (h4 : gb ≠ xb) : ClosAt (w.setCell ⟨gb, i, none⟩ v) nb yb pb xb p x y :=
  ⟨blk_far h.n (Ne.symm h1), blk_far h.y (Ne.symm h2), blk_far h.p (Ne.symm h3), h.x.imp fun _ hz => blk_far hz (Ne.symm h4), h.ne1, h.ne2, h.ne3, h.ne4, h.ne5⟩
set_option maxHeartbeats 4000000 in
theorem positions_yes (p : ParL) (k : Int × Int) (g : List UInt8) (w : World) (hp : ParOk p) (hg : g.length ≤ 60000) :
    Calls Tryz.prog 230 #[.agg (parC p), .agg #[.int .u64 k.1, .int .u64 k.2], strV g] w (PosPost p k g w) := by
  have hl1 := hp.len1; have hl2 := hp.len2; have hh1 := hp.h1; have hh2 := hp.h2
  obtain ⟨H, hH⟩ : ∃ H : Nat, p.hashes = H := ⟨p.hashes.toNat, by omega⟩
  have hmk := run_make_row' (P := Tryz.prog) 22 3 (.int .i64 0) 8 Tryz.underlying22 infoI rfl .i64 .i64 H (by omega) (by omega)
  rw [made_ints, ← hH] at hmk
  have F0 : 0 ≤ firstP p k g := Int.emod_nonneg _ (by omega)
  have F1 : firstP p k g < p.len := Int.emod_lt_of_pos _ (by omega)
  have Y0 : 1 ≤ stepP p k g := by have : 0 ≤ (partsP k.1 k.2 [[50], g]) % (p.len - 1) := Int.emod_nonneg _ (by omega); unfold stepP; omega
  have Y1 : stepP p k g ≤ 1000 := by have : (partsP k.1 k.2 [[50], g]) % (p.len - 1) < p.len - 1 := Int.emod_lt_of_pos _ (by omega); unfold stepP; omega
  have hHb : H ≤ 16 := by omega
  have HP := Lib.hid hp; have HH := Lib.hid hH
  clear hp hH
  go_enter Tryz.func230, Tryz.ntmps230
  go_wp2_with fail
  refine wp_calls_world (fun W hW => ?_)
  have hb0 : Below w.heap.size w W := by rw [hW]; exact ((Below.refl _ _).alloc (Nat.le_refl _) _).alloc (by simp) _
  have hp0 : W.heap[w.heap.size]? = some (.cells (parC p) 64 (0, 0)) := by rw [hW]; exact blk_old (blk_new rfl)
  have hk0 : W.heap[w.heap.size + 1]? = some (.cells #[.int .u64 k.1, .int .u64 k.2] 41 (0, 0)) := by rw [hW]; exact blk_new (by simp)
  clear hW
  refine (bcheck_yes p W HP.out).mono ?_
  rintro e w1 ⟨rfl, hb⟩
  have hp1 := blk_below hb (lt_of_blk hp0) hp0; have hk1 := blk_below hb (lt_of_blk hk0) hk0
  have hb1 := hb0.trans (hb.mono hb0.size)
  have HB1 := Lib.hid hb1; have HP1 := Lib.hid hp1; have HK1 := Lib.hid hk1
  have hpW := lt_of_blk hp1; have hkW := lt_of_blk hk1
  obtain ⟨q0, q1, q2⟩ := cells3 hp1; obtain ⟨k0, k1⟩ := cells2K hk1
  clear hb0 hp0 hk0 hb hp1 hk1 hb1
  go_wp2_with fail
  have bD : Below w1.heap.size w1 w1.drew := (Below.refl _ _).drew
  go_cut [9, 10] (fun s9 s10 wx => ∃ gb nb yb pb xb : Nat, s9 = .slice (some ⟨gb, 0, none⟩) H H ∧ s10 = .func (.func 314) #[] #[.pointer (some ⟨nb, 0, none⟩), .pointer (some ⟨yb, 0, none⟩), .pointer (some ⟨pb, 0, none⟩), .pointer (some ⟨xb, 0, none⟩)] ∧
    ClosAt wx nb yb pb xb p (firstP p k g) (stepP p k g) ∧ wx.heap[gb]? = some (.cells ((List.replicate H (0 : Int)).flatMap encI).toArray 3 (0, 0)) ∧ (gb ≠ nb ∧ gb ≠ yb ∧ gb ≠ pb ∧ gb ≠ xb) ∧ (w1.heap.size ≤ gb ∧ w1.heap.size ≤ nb ∧ w1.heap.size ≤ xb) ∧ Below w1.heap.size w1 wx)
  case first =>
    refine wp_region_noPanic ?_
    refine wp_region_held_drew (S := (fun w' => w'.cell? ⟨w.heap.size + 1, 0, none⟩ = some (.int .u64 k.1) ∧ w'.cell? ⟨w.heap.size + 1, 1, none⟩ = some (.int .u64 k.2) ∧ w'.cell? ⟨w.heap.size, 0, none⟩ = some (.int .i64 p.len) ∧ w'.cell? ⟨w.heap.size, 1, none⟩ = some (.int .i64 p.hashes) ∧ w'.cell? ⟨w.heap.size, 2, none⟩ = some (.int .i64 p.salt))) (by kernel_rfl) (⟨k0, k1, q0, q1, q2⟩) (fun hHeld => ?_)
    refine wpAnyH_take (i := 0) (v := ?_) rfl (by kernel_rfl) (by kernel_rfl) (by kernel_rfl) (fun _ _ _ h => h) (Or.inl ⟨by rfl, ?_⟩) (by assumption) ?_
    rotate_left 1
    · (intro wS hSw; (try dsimp only at hSw); go_simp; try with_reducible rfl)
    try simp only [List.getElem_toArray, List.getElem_cons_zero, List.getElem_cons_succ, Act.put, List.setIfInBounds_toArray, List.set_cons_zero, List.set_cons_succ]
    refine wpAnyH_take (i := 1) (v := ?_) rfl (by kernel_rfl) (by kernel_rfl) (by kernel_rfl) (fun _ _ _ h => h) (Or.inl ⟨by rfl, ?_⟩) (by assumption) ?_
    rotate_left 1
    · (intro wS hSw; (try dsimp only at hSw); go_simp; try with_reducible rfl)
    try simp only [List.getElem_toArray, List.getElem_cons_zero, List.getElem_cons_succ, Act.put, List.setIfInBounds_toArray, List.set_cons_zero, List.set_cons_succ]
    refine wpAnyH_take (i := 3) (v := ?_) rfl (by kernel_rfl) (by kernel_rfl) (by kernel_rfl) (fun _ _ _ h => h) (Or.inl ⟨by rfl, ?_⟩) (by assumption) ?_
    rotate_left 1
    · (intro wS hSw; (try dsimp only at hSw); go_simp; try with_reducible rfl)
    try simp only [List.getElem_toArray, List.getElem_cons_zero, List.getElem_cons_succ, Act.put, List.setIfInBounds_toArray, List.set_cons_zero, List.set_cons_succ]
    refine wpAnyH_take (i := 4) (v := ?_) rfl (by kernel_rfl) (by kernel_rfl) (by kernel_rfl) (fun _ _ _ h => h) (Or.inl ⟨by rfl, ?_⟩) (by assumption) ?_
    rotate_left 1
    · (intro wS hSw; (try dsimp only at hSw); go_simp; try with_reducible rfl)
    try simp only [List.getElem_toArray, List.getElem_cons_zero, List.getElem_cons_succ, Act.put, List.setIfInBounds_toArray, List.set_cons_zero, List.set_cons_succ]
    refine wpAnyH_take (i := 5) (v := ?_) rfl (by kernel_rfl) (by kernel_rfl) (by kernel_rfl) (fun _ _ _ h => h) (Or.inl ⟨by rfl, ?_⟩) (by assumption) ?_
    rotate_left 1
    · (intro wS hSw; (try dsimp only at hSw); go_simp; try with_reducible rfl)
    try simp only [List.getElem_toArray, List.getElem_cons_zero, List.getElem_cons_succ, Act.put, List.setIfInBounds_toArray, List.set_cons_zero, List.set_cons_succ]
    refine wpAnyH_ready (rs := [2, 6]) (by kernel_rfl) (by simp) ?_
    refine AllReadyH.cons rfl (fun K hK => ?_) (AllReadyH.cons rfl (fun K hK => ?_) AllReadyH.nil)
    focus
      go_simp
      refine hK.out _ _ (⟨((bD.alloc bD.size _).cell (p := ⟨w.heap.size + 1, 0, none⟩) hkW).trans k0, ((bD.alloc bD.size _).cell (p := ⟨w.heap.size + 1, 1, none⟩) hkW).trans k1, ((bD.alloc bD.size _).cell (p := ⟨w.heap.size, 0, none⟩) hpW).trans q0, ((bD.alloc bD.size _).cell (p := ⟨w.heap.size, 1, none⟩) hpW).trans q1, ((bD.alloc bD.size _).cell (p := ⟨w.heap.size, 2, none⟩) hpW).trans q2⟩) (fun hHeld => ?_)
      clear hK K
      try simp only [List.getElem_toArray, List.getElem_cons_zero, List.getElem_cons_succ, Act.put, List.setIfInBounds_toArray, List.set_cons_zero, List.set_cons_succ]
      refine wph_name (fun W1 hW1 => ?_)
      have b1 : Below w1.heap.size w1 W1 := by rw [hW1]; exact bD.alloc bD.size (.cells ((List.replicate H (0 : Int)).flatMap encI).toArray 3)
      have ga : W1.heap[w1.heap.size]? = some (.cells ((List.replicate H (0 : Int)).flatMap encI).toArray 3 (0, 0)) := by rw [hW1]; exact blk_new rfl
      have zz : W1.heap.size = w1.heap.size + 1 := by rw [hW1]; simp
      clear hW1 hHeld
      have hHeld : W1.cell? ⟨w.heap.size + 1, 0, none⟩ = some (.int .u64 k.1) ∧ W1.cell? ⟨w.heap.size + 1, 1, none⟩ = some (.int .u64 k.2) ∧ W1.cell? ⟨w.heap.size, 0, none⟩ = some (.int .i64 p.len) ∧ W1.cell? ⟨w.heap.size, 1, none⟩ = some (.int .i64 p.hashes) ∧ W1.cell? ⟨w.heap.size, 2, none⟩ = some (.int .i64 p.salt) := ⟨(b1.cell (p := ⟨w.heap.size + 1, 0, none⟩) hkW).trans k0, (b1.cell (p := ⟨w.heap.size + 1, 1, none⟩) hkW).trans k1, (b1.cell (p := ⟨w.heap.size, 0, none⟩) hpW).trans q0, (b1.cell (p := ⟨w.heap.size, 1, none⟩) hpW).trans q1, (b1.cell (p := ⟨w.heap.size, 2, none⟩) hpW).trans q2⟩
      refine wpAnyH_ready (rs := [6]) (by kernel_rfl) (by simp) ?_
      refine AllReadyH.cons rfl (fun K hK => ?_) AllReadyH.nil
      go_simp
      refine (drawn_any p k g _ HP.out hg).mono ?_; rintro e w2 ⟨nb, yb, pb, xb, rfl, hc, ⟨hn1, hx1, hy1, hp1⟩, hb2⟩; have b2 := b1.trans (hb2.mono b1.size); have ga2 := blk_below hb2 (lt_of_blk ga) ga
      refine hK.out _ _ (⟨(b2.cell (p := ⟨w.heap.size + 1, 0, none⟩) hkW).trans k0, (b2.cell (p := ⟨w.heap.size + 1, 1, none⟩) hkW).trans k1, (b2.cell (p := ⟨w.heap.size, 0, none⟩) hpW).trans q0, (b2.cell (p := ⟨w.heap.size, 1, none⟩) hpW).trans q1, (b2.cell (p := ⟨w.heap.size, 2, none⟩) hpW).trans q2⟩) (fun hHeld => ?_)
      clear hK K
      try simp only [List.getElem_toArray, List.getElem_cons_zero, List.getElem_cons_succ, Act.put, List.setIfInBounds_toArray, List.set_cons_zero, List.set_cons_succ]
      refine wpAnyH_take (i := 7) (v := ?_) rfl (by kernel_rfl) (by kernel_rfl) (by kernel_rfl) (fun _ _ _ h => h) (Or.inl ⟨by rfl, ?_⟩) (by assumption) ?_
      rotate_left 1
      · (intro wS hSw; (try dsimp only at hSw); go_simp; try with_reducible rfl)
      try simp only [List.getElem_toArray, List.getElem_cons_zero, List.getElem_cons_succ, Act.put, List.setIfInBounds_toArray, List.set_cons_zero, List.set_cons_succ]
      refine wpAnyH_take (i := 8) (v := ?_) rfl (by kernel_rfl) (by kernel_rfl) (by kernel_rfl) (fun _ _ _ h => h) (Or.inl ⟨by rfl, ?_⟩) (by assumption) ?_
      rotate_left 1
      · (intro wS hSw; (try dsimp only at hSw); go_simp; try with_reducible rfl)
      try simp only [List.getElem_toArray, List.getElem_cons_zero, List.getElem_cons_succ, Act.put, List.setIfInBounds_toArray, List.set_cons_zero, List.set_cons_succ]
      refine wpAnyH_done (by kernel_rfl) ?_ _
      refine NoPanic.normal ?_
      go_wp2_with fail
      go_meet
      exact ⟨_, nb, yb, pb, xb, rfl, rfl, hc, ga2, ⟨by omega, by omega, by omega, by omega⟩, ⟨by omega, by omega, by omega⟩, b2⟩
    rotate_left 1
    focus
      go_simp
      refine (drawn_any p k g _ HP.out hg).mono ?_
      rintro e w2 ⟨nb, yb, pb, xb, rfl, hc, ⟨hn1, hx1, hy1, hp1⟩, hb2⟩
      have b2 := bD.trans hb2
      refine hK.out _ _ (⟨(b2.cell (p := ⟨w.heap.size + 1, 0, none⟩) hkW).trans k0, (b2.cell (p := ⟨w.heap.size + 1, 1, none⟩) hkW).trans k1, (b2.cell (p := ⟨w.heap.size, 0, none⟩) hpW).trans q0, (b2.cell (p := ⟨w.heap.size, 1, none⟩) hpW).trans q1, (b2.cell (p := ⟨w.heap.size, 2, none⟩) hpW).trans q2⟩) (fun hHeld => ?_)
      clear hK K
      try simp only [List.getElem_toArray, List.getElem_cons_zero, List.getElem_cons_succ, Act.put, List.setIfInBounds_toArray, List.set_cons_zero, List.set_cons_succ]
      refine wpAnyH_ready (rs := [2]) (by kernel_rfl) (by simp) ?_
      refine AllReadyH.cons rfl (fun K hK => ?_) AllReadyH.nil
      go_simp
      refine hK.out _ _ (⟨((b2.alloc b2.size _).cell (p := ⟨w.heap.size + 1, 0, none⟩) hkW).trans k0, ((b2.alloc b2.size _).cell (p := ⟨w.heap.size + 1, 1, none⟩) hkW).trans k1, ((b2.alloc b2.size _).cell (p := ⟨w.heap.size, 0, none⟩) hpW).trans q0, ((b2.alloc b2.size _).cell (p := ⟨w.heap.size, 1, none⟩) hpW).trans q1, ((b2.alloc b2.size _).cell (p := ⟨w.heap.size, 2, none⟩) hpW).trans q2⟩) (fun hHeld => ?_)
      clear hK K
      try simp only [List.getElem_toArray, List.getElem_cons_zero, List.getElem_cons_succ, Act.put, List.setIfInBounds_toArray, List.set_cons_zero, List.set_cons_succ]
      refine wpAnyH_take (i := 7) (v := ?_) rfl (by kernel_rfl) (by kernel_rfl) (by kernel_rfl) (fun _ _ _ h => h) (Or.inl ⟨by rfl, ?_⟩) (by assumption) ?_
      rotate_left 1
      · (intro wS hSw; (try dsimp only at hSw); go_simp; try with_reducible rfl)
      try simp only [List.getElem_toArray, List.getElem_cons_zero, List.getElem_cons_succ, Act.put, List.setIfInBounds_toArray, List.set_cons_zero, List.set_cons_succ]
      refine wpAnyH_take (i := 8) (v := ?_) rfl (by kernel_rfl) (by kernel_rfl) (by kernel_rfl) (fun _ _ _ h => h) (Or.inl ⟨by rfl, ?_⟩) (by assumption) ?_
      rotate_left 1
      · (intro wS hSw; (try dsimp only at hSw); go_simp; try with_reducible rfl)
      try simp only [List.getElem_toArray, List.getElem_cons_zero, List.getElem_cons_succ, Act.put, List.setIfInBounds_toArray, List.set_cons_zero, List.set_cons_succ]
      refine wpAnyH_done (by kernel_rfl) ?_ _
      refine NoPanic.normal ?_
      have l1 := lt_of_blk hc.n; have l2 := lt_of_blk hc.y; have l3 := lt_of_blk hc.p; obtain ⟨zx, hzx⟩ := hc.x; have l4 := lt_of_blk hzx
      have hc2 := hc.later (o := (.cells ((List.replicate H (0 : Int)).flatMap encI).toArray 3))
      go_wp2_with fail
      go_meet
      exact ⟨_, nb, yb, pb, xb, rfl, rfl, hc2, blk_new rfl, ⟨by omega, by omega, by omega, by omega⟩, ⟨hb2.size, hn1, hx1⟩, b2.alloc b2.size _⟩
  case rest =>
    obtain ⟨gb, nb, yb, pb, xb, rfl, rfl, hc, hga, ⟨n1, n2, n3, n4⟩, ⟨m1, m2, m3⟩, hbc⟩ := hcut
    have HC := Lib.hid hc; have HG := Lib.hid hga; have HBC := Lib.hid hbc
    have hbz := HB1.out.size
    clear hc hga hbc bD hmk q0 q1 q2 k0 k1
    go_wp2_with fail
    go_loopw [11, 26] (fun _ i wr => ∃ j : Nat, i = .int .i64 j ∧ j ≤ H ∧ ClosAt wr nb yb pb xb p (itN p.len (stepP p k g) j (firstP p k g)) (stepP p k g) ∧ wr.heap[gb]? = some (.cells ((posN p.len (stepP p k g) j (firstP p k g) ++ List.replicate (H - j) 0).flatMap encI).toArray 3 (0, 0)) ∧ KeptBut (fun b => w1.heap.size ≤ b) w1 wr) (fun _ i _ => H - (intOf i).toNat)
    case atStart => exact ⟨0, rfl, by omega, HC.out, HG.out, .ofBelow HBC.out⟩
    case round =>
      obtain ⟨j, rfl, hj, hc, hga, hkb⟩ := hrel
      have HC2 := Lib.hid hc; have HG2 := Lib.hid hga; have HK2 := Lib.hid hkb
      clear hc hga hkb HC HG
      by_cases hlt : j < H
      · have hq : decide ((j : Int) < H) = true := by simp; omega
        have hb3 := itN_bd p.len (stepP p k g) (by omega) (firstP p k g) F0 F1 j
        obtain ⟨xj, hxj⟩ : ∃ xj, itN p.len (stepP p k g) j (firstP p k g) = xj := ⟨_, rfl⟩
        rw [hxj] at HC2 hb3
        have HXJ := Lib.hid hxj; clear hxj
        go_wp2_with fail
        refine (bnext_any nb yb pb xb p xj (stepP p k g) _ HC2.out HP.out hb3.1 hb3.2 Y0 Y1).mono ?_
        rintro e wq ⟨rfl, hcq, hkq⟩
        have hgq := hkq.blk (by intro h; omega) HG2.out
        have cq : wq.cell? ⟨gb, j, none⟩ = some (.int .i64 0) := by rw [cell_of_row _ _ _ _ _ _ hgq, row_cell _ _ _ _ _ hlt]
        have fq := frozen_of_row _ _ j _ _ hgq
        have zq := lt_of_blk hgq
        have HCQ := Lib.hid hcq; have HKQ := Lib.hid hkq; have HGQ := Lib.hid hgq
        clear hcq hkq hgq HC2 HG2
        go_wp2_with fail
        go_roundw
        case rel =>
          refine ⟨j + 1, by go_num, by omega, ?_, ?_, ?_⟩
          · rw [itN_succ, HXJ.out]; exact HCQ.out.set n1 n2 n3 n4
          · rw [← prow_step _ _ _ _ _ hlt, HXJ.out]; exact blk_set HGQ.out
          · exact (HK2.out.trans ⟨HKQ.out.os, HKQ.out.tape, HKQ.out.output, HKQ.out.size, fun i hi hn => HKQ.out.block i hi (by have hn' : i < w1.heap.size := Nat.lt_of_not_le hn; intro h; rcases h with rfl | rfl <;> omega)⟩).set (p := ⟨gb, j, none⟩) m1 _
        case measure => simp [intOf]; omega
      · have hq : decide ((j : Int) < H) = false := by simp; omega
        obtain rfl : j = H := by omega
        go_wp2_with fail
        go_ret2
        refine ⟨_, rfl, ?_, HB1.out.trans (HK2.out.below (B := w.heap.size) (fun i hi h => by have h' : w1.heap.size ≤ i := h; omega) hbz)⟩
        have hr : wr.heap[gb]? = some (.cells ((positionsN p k g).flatMap encI).toArray 3 (0, 0)) := by
          have := HG2.out
          rw [Nat.sub_self, List.replicate_zero, List.append_nil] at this
          unfold positionsN
          rw [HH.out, Int.toNat_natCast]; exact this
        have hlen : j = (positionsN p k g).length := by unfold positionsN; rw [posN_len, HH.out, Int.toNat_natCast]
        refine ⟨some ⟨gb, 0, none⟩, j, by rw [← hlen]; rfl, by rw [← hlen]; exact Nat.le_refl _, fun h0 => ⟨gb, 0, rfl, by omega, lt_of_blk hr, fun i x hi u v hu => fun_cell hr hi hu⟩⟩
end Go.Proofs.YtmakailcpkogdaaGreatDoor
end
section
/- recordlinkmake: One, Pick, tokens: some text of bounded length. -/
set_option linter.unusedSimpArgs false
set_option linter.unusedVariables false
set_option maxRecDepth 100000
namespace Go.Proofs.YtmakailcpkogdaaGreatDoor
open Go.RowKit
attribute [local go_sem] toList_mk mk_size
@[local go_sem] theorem str_append (a b : List UInt8) : (⟨a.toArray⟩ : ByteArray) ++ ⟨b.toArray⟩ = ⟨(a ++ b).toArray⟩ := by
  apply ByteArray.ext; simp
def SomeBool (D : Nat) (w : World) (e : Ending) (w' : World) : Prop := ∃ b : Bool, e = .returned (.bool b) ∧ Moved D w w'
def SomeText (D N : Nat) (w : World) (e : Ending) (w' : World) : Prop := ∃ l : List UInt8, e = .returned (strV l) ∧ l.length ≤ N ∧ Moved D w w'
set_option maxHeartbeats 400000 in
theorem one_any (D : Nat) (w : World) (k : Int) (h : DeckAt w D) (hk : 1 ≤ k) (hk2 : k ≤ 1000000000) :
    Calls Tryz.prog 61 #[.pointer (some ⟨D, 0, none⟩), .int .i64 k] w (SomeBool D w) := by
  go_enter Tryz.func61, Tryz.ntmps61
  go_wp2_with fail
  refine (next_any D _ k h hk hk2).mono ?_
  rintro e w1 ⟨r, rfl, h0, h1, h2⟩
  have H2 := Lib.hid h2; clear h2
  go_wp2_with fail
  go_ret
  exact ⟨_, rfl, H2.out⟩
theorem Vec.moved {α : Type} {D : Nat} {w w' : World} {k : Nat} {enc : α → List Value} {v : Value} {L : List α} (h : Vec w (fun b => b ≠ D) k enc v L) (m : Moved D w w') : Vec w' (fun b => b ≠ D) k enc v L :=
  h.move m.size fun b hb hD => ⟨m.grown.block b hb (by simp; omega), hD⟩
/-- one of some texts -/
def PickPost (D : Nat) (L : List (List UInt8)) (w : World) (e : Ending) (w' : World) : Prop := ∃ l : List UInt8, e = .returned (strV l) ∧ l ∈ L ∧ Moved D w w'
set_option maxHeartbeats 400000 in
theorem pick_any (D : Nat) (w : World) (v : Value) (L : List (List UInt8)) (h : DeckAt w D) (hV : Vec w (fun b => b ≠ D) 1 encS v L) (h1 : 1 ≤ L.length) (h2 : L.length ≤ 1000) :
    Calls Tryz.prog 69 #[.pointer (some ⟨D, 0, none⟩), v] w (PickPost D L w) := by
  obtain ⟨a, cap, rfl⟩ := hV.slice
  have HV := Lib.hid hV
  clear hV
  go_enter Tryz.func69, Tryz.ntmps69
  go_wp2_with fail
  refine (next_any D _ _ h (by omega) (by omega)).mono ?_
  rintro e w1 ⟨r, rfl, r0, r1, mv⟩
  have MV := Lib.hid mv; clear mv
  obtain ⟨r, rfl⟩ := Int.eq_ofNat_of_zero_le r0
  obtain ⟨b, off, rfl, _, hb, hc⟩ := vec_cell1 (HV.out.moved MV.out) (by omega)
  have hr : r < L.length := by omega
  have hc1 := hc r hr
  have hmem : L.getD r [] ∈ L := by rw [List.getD, List.getElem?_eq_getElem hr]; exact List.getElem_mem hr
  obtain ⟨x, hx⟩ : ∃ x, L.getD r [] = x := ⟨_, rfl⟩
  rw [hx] at hc1 hmem
  have HMem := Lib.hid hmem
  clear hc hmem hx
  go_wp2_with fail
  go_ret
  exact ⟨x, rfl, HMem.out, MV.out⟩
theorem pick_vec (D : Nat) (w : World) (v : Value) (L : List (List UInt8)) (h : DeckAt w D) (hV : Vec w (fun b => b ≠ D) 1 encS v L) (h1 : 1 ≤ L.length) (h2 : L.length ≤ 1000) (N : Nat) (hN : ∀ t ∈ L, t.length ≤ N) :
    Calls Tryz.prog 69 #[.pointer (some ⟨D, 0, none⟩), v] w (SomeText D N w) :=
  (pick_any D w v L h hV h1 h2).mono fun _ _ ⟨l, he, hl, hm⟩ => ⟨l, he, hN l hl, hm⟩
def givenL : List (List UInt8) := [[114, 111, 98, 101, 114, 116], [98, 111, 98], [97, 110, 110], [97, 110, 110, 97], [114, 117, 112, 101, 114, 116], [109, 97, 114, 105, 97], [112, 101, 116, 101, 114], [100, 114], [106, 111], [97, 115, 104, 99, 114, 97, 102, 116], [108, 105]]
def familyL : List (List UInt8) := [[115, 109, 105, 116, 104], [115, 99, 104, 109, 105, 100, 116], [109, 105, 108, 108, 101, 114], [111, 110, 101, 105, 108, 108], [115, 116, 114, 97, 117, 115, 115], [118, 97, 110], [109, 97, 105, 110], [115, 116], [115, 116, 114, 101, 101, 116], [114, 100], [112, 97, 114, 107]]
set_option maxHeartbeats 1000000 in
theorem given_any (w : World) : Calls Tryz.prog 63 #[] w fun e w' => e = .returned (.slice (some ⟨w.heap.size, 0, none⟩) 11 11) ∧ RowB w' w.heap.size givenL ∧ Below w.heap.size w w' := by
  go_enter Tryz.func63, Tryz.ntmps63
  go_wp2
  go_ret
  exact ⟨rfl, blk_new rfl, (Below.refl _ _).alloc (Nat.le_refl _) _⟩
set_option maxHeartbeats 1000000 in
theorem family_any (w : World) : Calls Tryz.prog 64 #[] w fun e w' => e = .returned (.slice (some ⟨w.heap.size, 0, none⟩) 11 11) ∧ RowB w' w.heap.size familyL ∧ Below w.heap.size w w' := by
  go_enter Tryz.func64, Tryz.ntmps64
  go_wp2
  go_ret
  exact ⟨rfl, blk_new rfl, (Below.refl _ _).alloc (Nat.le_refl _) _⟩
end Go.Proofs.YtmakailcpkogdaaGreatDoor
end
section
/- recordlinkmake: Token: some word of at most 16 letters. -/
set_option linter.unusedSimpArgs false
set_option linter.unusedVariables false
set_option maxRecDepth 100000
namespace Go.Proofs.YtmakailcpkogdaaGreatDoor
open Go.RowKit
attribute [local go_sem] toList_mk mk_size str_append
theorem one_byte (w : World) (a : UInt8) : (convert 73 9 (.slice (some ⟨w.heap.size, 0, none⟩) 1 1)).run Tryz.prog (w.alloc (.cells #[.int .u8 a.toNat] 5)) = .ok (strV [a]) (w.alloc (.cells #[.int .u8 a.toNat] 5)) := by
  have ho : (w.alloc (.cells (([a] : List UInt8).map byteV).toArray 5)).ownsRow 0 5 1 (.slice (some ⟨w.heap.size, 0, none⟩) 1 1) 1 (([a] : List UInt8).map byteV) :=
    ⟨by simp, .inr ⟨_, _, _, rfl, Nat.zero_le _, blk_new rfl, Nat.le_refl _, size_le_maxLen (by omega), by simp, by simp⟩⟩
  exact run_convert_owned [a] ho Tryz.underlying73 Tryz.underlying5 Tryz.underlying9
theorem moved_row {D A : Nat} {w w' : World} {L : List (List UInt8)} (h : RowB w A L) (hA : A ≠ D) (m : Moved D w w') : RowB w' A L := m.blk hA h
/-- a word: letters from a to z, at least one -/
def WordL (l : List UInt8) : Prop := l ≠ [] ∧ (∀ b ∈ l, isLow b = true) ∧ l.length ≤ 16
def wordD (l : List UInt8) : Bool := !l.isEmpty && l.all isLow && decide (l.length ≤ 16)
theorem wordD_is {l : List UInt8} (h : wordD l = true) : WordL l := by
  simp only [wordD, Bool.and_eq_true, Bool.not_eq_true', decide_eq_true_iff, List.all_eq_true] at h
  exact ⟨by intro e; subst e; simp at h, h.1.2, h.2⟩
def TokPost (D : Nat) (w : World) (e : Ending) (w' : World) : Prop := ∃ l : List UInt8, e = .returned (strV l) ∧ WordL l ∧ Moved D w w'
theorem low_deal (q : Nat) (h : q < 26) : isLow (UInt8.ofNat (97 + q)) = true := by
  rw [low_iff, decide_eq_true_iff, UInt8.toNat_ofNat']; omega
set_option maxHeartbeats 4000000 in
theorem token_word (D : Nat) (w : World) (h : DeckAt w D) :
    Calls Tryz.prog 21 #[.pointer (some ⟨D, 0, none⟩)] w (TokPost D w) := by
  go_enter Tryz.func21, Tryz.ntmps21
  go_wp2_with fail
  refine (one_any D _ 6 h (by omega) (by omega)).mono ?_
  rintro e w1 ⟨u, rfl, mv⟩
  have M1 := Lib.hid mv; clear mv
  cases u
  · go_wp2_with fail
    refine (one_any D _ 2 M1.out.deck (by omega) (by omega)).mono ?_
    rintro e w2 ⟨u, rfl, mv⟩
    have M2 := Lib.hid (M1.out.trans mv); clear mv M1
    have zD := M2.out.deck.lt
    cases u
    · go_wp2_with fail
      refine (family_any _).mono ?_
      rintro e w3 ⟨rfl, r3, hb3⟩
      have M3 := Lib.hid (M2.out.below hb3)
      have R3 := Lib.hid r3
      clear r3 hb3
      go_wp2_with fail
      refine (family_any _).mono ?_
      rintro e w4 ⟨rfl, r4, hb4⟩
      have M4 := Lib.hid (M3.out.below hb4)
      have R4 := Lib.hid (show RowB w4 w2.heap.size familyL from blk_below hb4 (lt_of_blk R3.out) R3.out)
      clear r4 hb4
      go_wp2_with fail
      refine (next_any D _ 11 M4.out.deck (by omega) (by omega)).mono ?_
      rintro e w5 ⟨r, rfl, r0, r1, mv⟩
      obtain ⟨r, rfl⟩ := Int.eq_ofNat_of_zero_le r0
      have hr : r < familyL.length := by show r < 11; omega
      have c5 := (moved_row R4.out (by omega) mv).cell r hr
      have hl : WordL (familyL.getD r []) := by
        have : ∀ j : Fin 11, wordD (familyL.getD j []) = true := by decide
        exact wordD_is (this ⟨r, hr⟩)
      have HLn := Lib.hid hl; clear hl
      have M5 := Lib.hid (M4.out.trans mv)
      obtain ⟨x, hx⟩ : ∃ x, familyL.getD r [] = x := ⟨_, rfl⟩
      rw [hx] at c5 HLn
      clear mv hx
      go_wp2_with fail
      go_ret
      exact ⟨x, rfl, HLn.out, M5.out⟩
    · go_wp2_with fail
      refine (given_any _).mono ?_
      rintro e w3 ⟨rfl, r3, hb3⟩
      have M3 := Lib.hid (M2.out.below hb3)
      have R3 := Lib.hid r3
      clear r3 hb3
      go_wp2_with fail
      refine (given_any _).mono ?_
      rintro e w4 ⟨rfl, r4, hb4⟩
      have M4 := Lib.hid (M3.out.below hb4)
      have R4 := Lib.hid (show RowB w4 w2.heap.size givenL from blk_below hb4 (lt_of_blk R3.out) R3.out)
      clear r4 hb4
      go_wp2_with fail
      refine (next_any D _ 11 M4.out.deck (by omega) (by omega)).mono ?_
      rintro e w5 ⟨r, rfl, r0, r1, mv⟩
      obtain ⟨r, rfl⟩ := Int.eq_ofNat_of_zero_le r0
      have hr : r < givenL.length := by show r < 11; omega
      have c5 := (moved_row R4.out (by omega) mv).cell r hr
      have hl : WordL (givenL.getD r []) := by
        have : ∀ j : Fin 11, wordD (givenL.getD j []) = true := by decide
        exact wordD_is (this ⟨r, hr⟩)
      have HLn := Lib.hid hl; clear hl
      have M5 := Lib.hid (M4.out.trans mv)
      obtain ⟨x, hx⟩ : ∃ x, givenL.getD r [] = x := ⟨_, rfl⟩
      rw [hx] at c5 HLn
      clear mv hx
      go_wp2_with fail
      go_ret
      exact ⟨x, rfl, HLn.out, M5.out⟩
  · go_wp2_with fail
    refine (next_any D _ 5 M1.out.deck (by omega) (by omega)).mono ?_
    rintro e w2 ⟨r, rfl, r0, r1, mv⟩
    obtain ⟨r, rfl⟩ := Int.eq_ofNat_of_zero_le r0
    have M2 := Lib.hid (M1.out.trans mv); clear mv M1
    go_wp2_with fail
    go_loopw [3, 4] (fun s i wr => ∃ (l : List UInt8) (k : Nat), s = strV l ∧ i = .int .i64 k ∧ l.length + k ≤ 5 ∧ 1 ≤ l.length + k ∧ Hid (∀ b ∈ l, isLow b = true) ∧ Moved D w wr) (fun _ i _ => (intOf i).toNat)
    case atStart => exact ⟨[], 1 + r, rfl, by congr 1, by simp; omega, by simp, Lib.hid (by simp), M2.out⟩
    case round =>
      obtain ⟨l, k, rfl, rfl, hlk, hlk1, HLow, mv⟩ := hrel
      have MW := Lib.hid mv; clear mv
      by_cases hk : 0 < k
      · have hq : decide ((0 : Int) < k) = true := by simp; omega
        go_wp2_with fail
        refine (next_any D _ 26 MW.out.deck (by omega) (by omega)).mono ?_
        rintro e w3 ⟨q, rfl, q0, q1, mv⟩
        obtain ⟨q, rfl⟩ := Int.eq_ofNat_of_zero_le q0
        have M3 := Lib.hid (MW.out.trans mv)
        have ha : ((UInt8.ofNat (97 + q)).toNat : Int) = 97 + (q : Int) := by rw [UInt8.toNat_ofNat']; omega
        have hcv := one_byte w3 (UInt8.ofNat (97 + q))
        rw [ha] at hcv
        have hlo := low_deal q (by omega)
        obtain ⟨c, hc⟩ : ∃ c, UInt8.ofNat (97 + q) = c := ⟨_, rfl⟩
        rw [hc] at hcv hlo
        have HLo := Lib.hid hlo; clear hlo
        clear mv ha hc
        go_wp2_with fail
        go_roundw
        case rel => exact ⟨l ++ [c], k - 1, rfl, by congr 1; omega, by simp; omega, by simp; omega, Lib.hid (fun b hb => (List.mem_append.1 hb).elim (HLow.out b) (fun h => by simp at h; subst h; exact HLo.out)), M3.out.alloc _⟩
        case measure => simp [intOf]; omega
      · have hq : decide ((0 : Int) < k) = false := by simp; omega
        go_wp2_with fail
        go_ret
        exact ⟨l, rfl, ⟨by intro e; subst e; simp at hlk1; omega, HLow.out, by omega⟩, MW.out⟩
theorem token_deal (D : Nat) (w : World) (h : DeckAt w D) :
    Calls Tryz.prog 21 #[.pointer (some ⟨D, 0, none⟩)] w (SomeText D 16 w) :=
  (token_word D w h).mono fun _ _ ⟨l, he, hl, hm⟩ => ⟨l, he, hl.2.2, hm⟩
end Go.Proofs.YtmakailcpkogdaaGreatDoor
end
section
/- Plain law: a text in other dress has the same tokens. -/
set_option linter.unusedSimpArgs false
set_option linter.unusedVariables false
set_option maxRecDepth 100000
namespace Go.Proofs.YtmakailcpkogdaaGreatDoor
open Go.RowKit
/-- two beginnings of a text that any rest continues to the same tokens -/
def EqL (a b : List UInt8) : Prop := ∀ r, toksA [] (a ++ r) = toksA [] (b ++ r)
theorem EqL.refl (a : List UInt8) : EqL a a := fun _ => rfl
theorem EqL.app {a b : List UInt8} (h : EqL a b) (c : List UInt8) : EqL (a ++ c) (b ++ c) := fun r => by rw [List.append_assoc, List.append_assoc]; exact h _
theorem EqL.trans {a b c : List UInt8} (h : EqL a b) (h' : EqL b c) : EqL a c := fun r => (h r).trans (h' r)
theorem EqL.lead : EqL [32] [] := fun r => toksA_sp0 r
theorem toksA_two (l : List UInt8) : ∀ p r, toksA p (l ++ 32 :: 32 :: r) = toksA p (l ++ 32 :: r) := by
  induction l with
  | nil =>
    intro p r
    simp only [List.nil_append]
    by_cases hp : p = []
    · subst hp; rw [toksA_sp0]
    · rw [toksA_sp _ _ hp, toksA_sp _ _ hp, toksA_sp0]
  | cons c l ih =>
    intro p r
    simp only [List.cons_append]
    by_cases hc : c = 32
    · subst hc
      by_cases hp : p = []
      · subst hp; rw [toksA_sp0, toksA_sp0, ih]
      · rw [toksA_sp _ _ hp, toksA_sp _ _ hp, ih]
    · rw [toksA_ch _ _ _ hc, toksA_ch _ _ _ hc, ih]
theorem EqL.two (a : List UInt8) : EqL (a ++ [32, 32]) (a ++ [32]) := fun r => by
  rw [List.append_assoc, List.append_assoc]; exact toksA_two a [] r
theorem toksA_last (l : List UInt8) : ∀ p, toksA p (l ++ [32]) = toksA p l := by
  induction l with
  | nil =>
    intro p
    simp only [List.nil_append]
    by_cases hp : p = []
    · subst hp; rw [toksA_sp0]
    · rw [toksA_sp _ _ hp, toksA_end _ hp]; rfl
  | cons c l ih =>
    intro p
    simp only [List.cons_append]
    by_cases hc : c = 32
    · subst hc
      by_cases hp : p = []
      · subst hp; rw [toksA_sp0, toksA_sp0, ih]
      · rw [toksA_sp _ _ hp, toksA_sp _ _ hp, ih]
    · rw [toksA_ch _ _ _ hc, toksA_ch _ _ _ hc, ih]
def allOk (l : List UInt8) : Prop := ∀ b ∈ l, okByte b = true
theorem allOk.app {a b : List UInt8} (h : allOk a) (h' : allOk b) : allOk (a ++ b) := fun c hc => (List.mem_append.1 hc).elim (h c) (h' c)
def plainL (l : List UInt8) : List UInt8 := l.flatMap plainB
theorem plainL_app (a b : List UInt8) : plainL (a ++ b) = plainL a ++ plainL b := List.flatMap_append
theorem byte_pair {a b : UInt8} (h : okByte a = true) : isPair a b = false := by
  rw [ok_iff, decide_eq_true_iff] at h
  rw [pair_iff]; simp; omega
theorem raw_flat (l : List UInt8) (h : allOk l) : rawL l = plainL l ∧ validL l = true := by
  induction l using rawL.induct with
  | case1 => exact ⟨rfl, rfl⟩
  | case2 a => exact ⟨by simp [rawL, plainL], by simp only [validL]; exact h a (by simp)⟩
  | case3 a b r hp ih => exfalso; rw [byte_pair (h a (by simp))] at hp; cases hp
  | case4 a b r hp ih =>
    have hp' := byte_pair (a := a) (b := b) (h a (by simp))
    have := ih fun x hx => h x (List.mem_cons_of_mem _ hx)
    refine ⟨?_, ?_⟩
    · rw [rawL, hp']; simp only [Bool.false_eq_true, if_false]; rw [this.1]; simp [plainL]
    · rw [validL, hp']; simp only [Bool.false_eq_true, if_false]; rw [this.2, h a (by simp)]; rfl
/-- what a beginning of a folded text becomes -/
structure DressTo (p o : List UInt8) : Prop where
  ok : allOk o
  eq : EqL (plainL o) p
  len : o.length ≤ 1 + 2 * p.length
/-- a text in another dress -/
structure DressOf (l o : List UInt8) : Prop where
  ok : allOk o
  eq : toks (rawL o) = toks l
  len : o.length ≤ 2 + 2 * l.length
def dressA : List (List UInt8) := [[], [], [32], [45]]
def dressB : List (List UInt8) := [[32], [45], [44, 32], [46], [32, 32], [47]]
def dressC : List (List UInt8) := [[], [], [32], [46]]
theorem allOk_dec {l : List UInt8} (h : l.all okByte = true) : allOk l := List.all_eq_true.1 h
theorem DressTo.start {o : List UInt8} (h : o ∈ dressA) : DressTo [] o := by
  simp [dressA] at h
  rcases h with rfl | rfl | rfl
  · exact ⟨allOk_dec rfl, EqL.refl _, by simp⟩
  · exact ⟨allOk_dec rfl, EqL.lead, by simp⟩
  · exact ⟨allOk_dec rfl, EqL.lead, by simp⟩
theorem DressTo.space {p o x : List UInt8} (h : DressTo p o) (hx : x ∈ dressB) : DressTo (p ++ [32]) (o ++ x) := by
  simp [dressB] at hx
  rcases hx with rfl | rfl | rfl | rfl | rfl | rfl
  · exact ⟨h.ok.app (allOk_dec rfl), by rw [plainL_app]; exact h.eq.app [32], by have := h.len; simp; omega⟩
  · exact ⟨h.ok.app (allOk_dec rfl), by rw [plainL_app]; exact h.eq.app [32], by have := h.len; simp; omega⟩
  · exact ⟨h.ok.app (allOk_dec rfl), by rw [plainL_app]; exact (EqL.two _).trans (h.eq.app [32]), by have := h.len; simp; omega⟩
  · exact ⟨h.ok.app (allOk_dec rfl), by rw [plainL_app]; exact h.eq.app [32], by have := h.len; simp; omega⟩
  · exact ⟨h.ok.app (allOk_dec rfl), by rw [plainL_app]; exact (EqL.two _).trans (h.eq.app [32]), by have := h.len; simp; omega⟩
  · exact ⟨h.ok.app (allOk_dec rfl), by rw [plainL_app]; exact h.eq.app [32], by have := h.len; simp; omega⟩
theorem DressTo.byte {p o : List UInt8} {c x : UInt8} (h : DressTo p o) (hx : okByte x = true) (hp : plainB x = [c]) : DressTo (p ++ [c]) (o ++ [x]) :=
  ⟨h.ok.app (fun b hb => by simp at hb; subst hb; exact hx), by rw [plainL_app, show plainL [x] = [c] by simp [plainL, hp]]; exact h.eq.app [c], by have := h.len; simp; omega⟩
theorem DressTo.mark {p o : List UInt8} {c x : UInt8} (h : DressTo p o) (hx : okByte x = true) (hp : plainB x = [c]) : DressTo (p ++ [c]) (o ++ [x] ++ [39]) :=
  ⟨(h.ok.app (fun b hb => by simp at hb; subst hb; exact hx)).app (allOk_dec rfl), by rw [plainL_app, plainL_app, show plainL [39] = [] from rfl, List.append_nil, show plainL [x] = [c] by simp [plainL, hp]]; exact h.eq.app [c], by have := h.len; simp; omega⟩
theorem DressTo.done {p o x : List UInt8} (h : DressTo p o) (hx : x ∈ dressC) : DressOf p (o ++ x) := by
  have e : ∀ q : List UInt8, toks (plainL o ++ q) = toksA [] (p ++ q) := fun q => h.eq q
  have e0 := h.eq []
  simp only [List.append_nil] at e0
  simp [dressC] at hx
  rcases hx with rfl | rfl | rfl
  · exact ⟨h.ok.app (allOk_dec rfl), by rw [(raw_flat _ (h.ok.app (allOk_dec rfl))).1, List.append_nil]; exact e0, by have := h.len; simp; omega⟩
  · exact ⟨h.ok.app (allOk_dec rfl), by rw [(raw_flat _ (h.ok.app (allOk_dec rfl))).1, plainL_app]; exact (e [32]).trans (toksA_last p []), by have := h.len; simp; omega⟩
  · exact ⟨h.ok.app (allOk_dec rfl), by rw [(raw_flat _ (h.ok.app (allOk_dec rfl))).1, plainL_app]; exact (e [32]).trans (toksA_last p []), by have := h.len; simp; omega⟩
/-- a byte of a folded text that is no space stands for itself -/
theorem plain_self {c : UInt8} (h : okB c = true) : okByte c = true ∧ plainB c = [c] := ⟨ok_byte h, ok_plain h⟩
/-- .. and so does a letter written great -/
theorem plain_up {c : UInt8} (h : isLow c = true) : okByte (c - 32) = true ∧ plainB (c - 32) = [c] := by
  rw [low_iff, decide_eq_true_iff] at h
  have e : (c - 32).toNat = c.toNat - 32 := by
    rw [UInt8.toNat_sub_of_le]
    · rfl
    · rw [UInt8.le_iff_toNat_le]; show 32 ≤ _; omega
  have hu : isUp (c - 32) = true := by rw [up_iff, decide_eq_true_iff, e]; omega
  refine ⟨?_, ?_⟩
  · rw [ok_iff, decide_eq_true_iff, e]; omega
  · unfold plainB; rw [if_pos hu, UInt8.sub_add_cancel]
end Go.Proofs.YtmakailcpkogdaaGreatDoor
end
section
/- Plain law: the rules and schemas that the deck deals are valid. -/
set_option linter.unusedSimpArgs false
set_option linter.unusedVariables false
set_option maxRecDepth 100000
namespace Go.Proofs.YtmakailcpkogdaaGreatDoor
open Go.RowKit
def t1L : List (List UInt8) := [[100, 114], [118, 97, 110]]
def n1L : List P2 := [([97, 110, 110, 97], [97, 110, 110]), ([98, 111, 98], [114, 111, 98, 101, 114, 116])]
def s1L : List P2 := [([114, 100], [114, 111, 97, 100]), ([115, 116], [115, 116, 114, 101, 101, 116])]
/-- rules that are dealt -/
structure RulesD (r : RulesL) : Prop where
  t : r.titles = [] ∨ r.titles = t1L
  n : r.nicks = [] ∨ r.nicks = n1L
  s : r.streets = [] ∨ r.streets = s1L
theorem RulesD.check {r : RulesL} (h : RulesD r) : checkR r = 0 := by
  obtain ⟨t, n, s⟩ := r
  obtain ⟨h1, h2, h3⟩ := h
  dsimp only at h1 h2 h3
  rcases h1 with rfl | rfl <;> rcases h2 with rfl | rfl <;> rcases h3 with rfl | rfl <;> decide
def namesD : List (List UInt8) := [[102, 97, 109, 105, 108, 121], [103, 105, 118, 101, 110], [98, 105, 114, 116, 104], [115, 116, 114, 101, 101, 116], [99, 111, 100, 101]]
/-- the first fields of a schema that is dealt -/
structure FieldsD (F : List F2) : Prop where
  len : F.length ≤ 4
  names : F.map (·.1) = namesD.take F.length
  kinds : ∀ x ∈ F, 1 ≤ x.2 ∧ x.2 ≤ 4
theorem FieldsD.nil : FieldsD [] := ⟨by simp, rfl, by simp⟩
theorem FieldsD.snoc {F : List F2} (h : FieldsD F) (hl : F.length < 4) {k : Int} (h1 : 1 ≤ k) (h2 : k ≤ 4) : FieldsD (F ++ [(namesD.getD F.length [], k)]) := by
  refine ⟨by simp; omega, ?_, fun x hx => ?_⟩
  · have hn : F.length < namesD.length := by show F.length < 5; omega
    rw [List.map_append, h.names, List.length_append, List.length_singleton, List.take_succ_eq_append_getElem hn, List.getD, List.getElem?_eq_getElem hn]
    rfl
  · rcases List.mem_append.1 hx with hx | hx
    · exact h.kinds x hx
    · simp at hx; subst hx; exact ⟨h1, h2⟩
theorem names_ok : ∀ n : Fin 5, ∀ j : Fin n, (wordB (namesD.getD j []) && !(((namesD.take n).take j).any fun x => x == namesD.getD j [])) = true := by decide
theorem FieldsD.check {F : List F2} (h : FieldsD F) (h1 : 1 ≤ F.length) {r : RulesL} (hr : checkR r = 0) : checkS ⟨F, r⟩ = 0 := by
  have hl := h.len
  have hf : fieldsB F = true := by
    refine List.all_eq_true.2 fun j hj => ?_
    have hj' : j < F.length := List.mem_range.1 hj
    have hk := names_ok ⟨F.length, by omega⟩ ⟨j, hj'⟩
    have e1 : (F.getD j default).1 = namesD.getD j [] := by
      have hjn : j < (F.map (·.1)).length := by simpa using hj'
      have : (F.map (·.1)).getD j [] = namesD.getD j [] := by
        rw [h.names, List.getD, List.getElem?_take, if_pos hj', List.getD]
      rw [← this, List.getD, List.getElem?_eq_getElem hj', List.getD, List.getElem?_map, List.getElem?_eq_getElem hj']; rfl
    have e2 : ((F.take j).any fun x => x.1 == (F.getD j default).1) = ((namesD.take F.length).take j).any fun x => x == namesD.getD j [] := by
      rw [e1, ← h.names, ← List.map_take, List.any_map]; rfl
    have hm : F.getD j default ∈ F := by rw [List.getD, List.getElem?_eq_getElem hj']; exact List.getElem_mem hj'
    obtain ⟨k1, k2⟩ := h.kinds _ hm
    unfold fieldAtB
    rw [e2, e1]
    dsimp only at hk
    rw [hk, decide_eq_true k1, decide_eq_true k2]; rfl
  unfold checkS
  rw [if_neg (by dsimp only; omega), if_pos hf]; exact hr
end Go.Proofs.YtmakailcpkogdaaGreatDoor
end
section
/- recordlinkmake: Rules: some valid rules. -/
set_option linter.unusedSimpArgs false
set_option linter.unusedVariables false
set_option maxRecDepth 100000
namespace Go.Proofs.YtmakailcpkogdaaGreatDoor
open Go.RowKit
attribute [local go_sem] toList_mk mk_size str_append
theorem blockVec {w : World} {A : Nat} {α : Type} {k : Nat} {enc : α → List Value} (hk : ∀ x, (enc x).length = k) {t : TypeId} {L : List α} {S : Nat → Prop} (h : w.heap[A]? = some (.cells (L.flatMap enc).toArray t (0, 0))) (hS : S A) (n : Nat) (hn : n = L.length) : Vec w S k enc (.slice (some ⟨A, 0, none⟩) n n) L := by
  subst hn
  refine ⟨_, _, rfl, Nat.le_refl _, fun _ => ⟨A, 0, rfl, hS, lt_of_blk h, fun j x hj i u hu => ?_⟩⟩
  have hi : i < k := by rw [← hk x]; exact (List.getElem?_eq_some_iff.1 hu).1
  rw [cell_of_row _ _ _ _ _ _ h, Nat.zero_add, List.getElem?_toArray, flat_get hk L j x hj i hi]
  exact hu
theorem Vec.put {α : Type} {w : World} {S : Nat → Prop} {k : Nat} {enc : α → List Value} {v : Value} {L : List α} (h : Vec w S k enc v L) {a : Addr} (ha : ∀ b, S b → b ≠ a.block) (x : Value) (o : Obj) : Vec ((w.setCell a x).alloc o) S k enc v L :=
  h.move (by simp [World.setCell]) fun b hb hS => ⟨by rw [heap_alloc_old _ _ (by simpa [World.setCell] using hb), heap_setCell_other _ _ _ _ (ha b hS)], hS⟩
theorem Vec.weaken {α : Type} {w : World} {S S' : Nat → Prop} {k : Nat} {enc : α → List Value} {v : Value} {L : List α} (h : Vec w S k enc v L) (hs : ∀ b, S b → S' b) : Vec w S' k enc v L := h.move (Nat.le_refl _) fun b _ h => ⟨rfl, hs b h⟩
theorem set_new (v : World) (a : Addr) (x : Value) (o : Obj) : ((v.setCell a x).alloc o).heap[v.heap.size]? = some o := blk_new (by simp [World.setCell])
theorem Vec.set1 {α : Type} {w : World} {S : Nat → Prop} {k : Nat} {enc : α → List Value} {v : Value} {L : List α} (h : Vec w S k enc v L) {a : Addr} (ha : ∀ b, S b → b ≠ a.block) (x : Value) : Vec (w.setCell a x) S k enc v L :=
  h.move (by simp [World.setCell]) fun b hb hS => ⟨by rw [heap_setCell_other _ _ _ _ (ha b hS)], hS⟩
theorem RulesAt.set3 {w : World} {S : Nat → Prop} {vt vn vs : Value} {r : RulesL} (h : RulesAt w S vt vn vs r) {a b c : Addr} (ha : ∀ k, S k → k ≠ a.block) (hb : ∀ k, S k → k ≠ b.block) (hc : ∀ k, S k → k ≠ c.block) (x y z : Value) : RulesAt (((w.setCell a x).setCell b y).setCell c z) S vt vn vs r :=
  ⟨((h.1.set1 ha x).set1 hb y).set1 hc z, ((h.2.1.set1 ha x).set1 hb y).set1 hc z, ((h.2.2.set1 ha x).set1 hb y).set1 hc z⟩
theorem RulesAt.weaken {w : World} {S S' : Nat → Prop} {vt vn vs : Value} {r : RulesL} (h : RulesAt w S vt vn vs r) (hs : ∀ b, S b → S' b) : RulesAt w S' vt vn vs r := ⟨h.1.weaken hs, h.2.1.weaken hs, h.2.2.weaken hs⟩
/-- while rules are dealt: the result's block, the block of the rules, what these hold -/
def RMid (D : Nat) (w wc : World) : Prop := ∃ vt vn vs r, wc.heap[w.heap.size]? = some (.cells #[.slice none 0 0, .slice none 0 0, .slice none 0 0] 30 (0, 0)) ∧ wc.heap[w.heap.size + 1]? = some (.cells #[vt, vn, vs] 30 (0, 0)) ∧ RulesAt wc (fun b => w.heap.size + 1 < b) vt vn vs r ∧ RulesD r ∧ Moved D w wc
theorem RMid.moved {D : Nat} {w wc wd : World} (h : RMid D w wc) (hD : D < w.heap.size) (m : Moved D wc wd) : RMid D w wd := by
  obtain ⟨vt, vn, vs, r, hz, hy, hr, hd, hm⟩ := h
  refine ⟨vt, vn, vs, r, m.blk (by omega) hz, m.blk (by omega) hy, ?_, hd, hm.trans m⟩
  exact ⟨hr.1.move m.size fun b hb hS => ⟨m.grown.block b hb (by simp; omega), hS⟩, hr.2.1.move m.size fun b hb hS => ⟨m.grown.block b hb (by simp; omega), hS⟩, hr.2.2.move m.size fun b hb hS => ⟨m.grown.block b hb (by simp; omega), hS⟩⟩
theorem rmid_t {D : Nat} {w v : World} {vt vn vs : Value} {r : RulesL} (hD : D < w.heap.size) (hz : v.heap[w.heap.size]? = some (.cells #[.slice none 0 0, .slice none 0 0, .slice none 0 0] 30 (0, 0))) (hy : v.heap[w.heap.size + 1]? = some (.cells #[vt, vn, vs] 30 (0, 0))) (hr : RulesAt v (fun b => w.heap.size + 1 < b) vt vn vs r) (hd : RulesD r) (hm : Moved D w v) :
    RMid D w ((v.setCell ⟨w.heap.size + 1, 0, none⟩ (.slice (some ⟨v.heap.size, 0, none⟩) 2 2)).alloc (.cells (t1L.flatMap encS).toArray 9)) := by
  have h1 := lt_of_blk hy
  refine ⟨_, vn, vs, ⟨t1L, r.nicks, r.streets⟩, blk_old (blk_far hz (by simp)), blk_old (blk_set hy), ⟨blockVec (k := 1) (enc := encS) (L := t1L) (S := fun b => w.heap.size + 1 < b) (A := v.heap.size) (fun _ => rfl) (set_new _ _ _ _) (by omega) 2 rfl, hr.2.1.put (fun b h => by simp at h ⊢; omega) _ _, hr.2.2.put (fun b h => by simp at h ⊢; omega) _ _⟩, ⟨.inr rfl, hd.n, hd.s⟩, (hm.set (by simp) _).alloc _⟩
theorem rmid_n {D : Nat} {w v : World} {vt vn vs : Value} {r : RulesL} (hD : D < w.heap.size) (hz : v.heap[w.heap.size]? = some (.cells #[.slice none 0 0, .slice none 0 0, .slice none 0 0] 30 (0, 0))) (hy : v.heap[w.heap.size + 1]? = some (.cells #[vt, vn, vs] 30 (0, 0))) (hr : RulesAt v (fun b => w.heap.size + 1 < b) vt vn vs r) (hd : RulesD r) (hm : Moved D w v) :
    RMid D w ((v.setCell ⟨w.heap.size + 1, 1, none⟩ (.slice (some ⟨v.heap.size, 0, none⟩) 2 2)).alloc (.cells (n1L.flatMap encP).toArray 118)) := by
  have h1 := lt_of_blk hy
  refine ⟨vt, _, vs, ⟨r.titles, n1L, r.streets⟩, blk_old (blk_far hz (by simp)), blk_old (blk_set hy), ⟨hr.1.put (fun b h => by simp at h ⊢; omega) _ _, blockVec (k := 2) (enc := encP) (L := n1L) (S := fun b => w.heap.size + 1 < b) (A := v.heap.size) (fun _ => rfl) (set_new _ _ _ _) (by omega) 2 rfl, hr.2.2.put (fun b h => by simp at h ⊢; omega) _ _⟩, ⟨hd.t, .inr rfl, hd.s⟩, (hm.set (by simp) _).alloc _⟩
theorem rmid_s {D : Nat} {w v : World} {vt vn vs : Value} {r : RulesL} (hD : D < w.heap.size) (hz : v.heap[w.heap.size]? = some (.cells #[.slice none 0 0, .slice none 0 0, .slice none 0 0] 30 (0, 0))) (hy : v.heap[w.heap.size + 1]? = some (.cells #[vt, vn, vs] 30 (0, 0))) (hr : RulesAt v (fun b => w.heap.size + 1 < b) vt vn vs r) (hd : RulesD r) (hm : Moved D w v) :
    RMid D w ((v.setCell ⟨w.heap.size + 1, 2, none⟩ (.slice (some ⟨v.heap.size, 0, none⟩) 2 2)).alloc (.cells (s1L.flatMap encP).toArray 118)) := by
  have h1 := lt_of_blk hy
  refine ⟨vt, vn, _, ⟨r.titles, r.nicks, s1L⟩, blk_old (blk_far hz (by simp)), blk_old (blk_set hy), ⟨hr.1.put (fun b h => by simp at h ⊢; omega) _ _, hr.2.1.put (fun b h => by simp at h ⊢; omega) _ _, blockVec (k := 2) (enc := encP) (L := s1L) (S := fun b => w.heap.size + 1 < b) (A := v.heap.size) (fun _ => rfl) (set_new _ _ _ _) (by omega) 2 rfl⟩, ⟨hd.t, hd.n, .inr rfl⟩, (hm.set (by simp) _).alloc _⟩
def RulesPost (D : Nat) (w : World) (e : Ending) (w' : World) : Prop := ∃ vt vn vs r, e = .returned (.agg #[vt, vn, vs]) ∧ RulesAt w' (fun b => w.heap.size ≤ b) vt vn vs r ∧ RulesD r ∧ Moved D w w'
set_option maxHeartbeats 8000000 in
theorem rules_deal (D : Nat) (w : World) (h : DeckAt w D) :
    Calls Tryz.prog 18 #[.pointer (some ⟨D, 0, none⟩)] w (RulesPost D w) := by
  have zD := h.lt
  have HD := Lib.hid h
  clear h
  go_enter Tryz.func18, Tryz.ntmps18
  go_wp2_with fail
  have K := Lib.hid (show RMid D w ((w.alloc (.cells #[.slice none 0 0, .slice none 0 0, .slice none 0 0] 30)).alloc (.cells #[.slice none 0 0, .slice none 0 0, .slice none 0 0] 30)) from
    ⟨_, _, _, ⟨[], [], []⟩, blk_old (blk_new rfl), blk_new (by simp), ⟨Vec.nil _ _ _ _, Vec.nil _ _ _ _, Vec.nil _ _ _ _⟩, ⟨.inl rfl, .inl rfl, .inl rfl⟩, ((Moved.start HD.out).alloc _).alloc _⟩)
  refine (one_any D _ 2 (by obtain ⟨_, _, _, _, _, _, _, _, m⟩ := K.out; exact m.deck) (by omega) (by omega)).mono ?_
  rintro e v0 ⟨u, rfl, mv⟩
  have K0 := Lib.hid (K.out.moved zD mv)
  clear K mv
  go_upto_if 5 with fail
  go_cut [] (fun wc => RMid D w wc)
  case first =>
    obtain ⟨vt, vn, vs, r, hz, hy, hr, hd, hm⟩ := K0.out
    have HZ := Lib.hid hz; have HY := Lib.hid hy; have HR := Lib.hid hr; have HDd := Lib.hid hd; have HM := Lib.hid hm
    obtain ⟨c0, c1, c2⟩ := cells3 hy; obtain ⟨f0, f1, f2⟩ := free3 hy
    have q := lt_of_blk hy
    clear hz hy hr hd hm
    cases u
    · go_wp2_with fail
      go_meet
      exact K0.out
    · go_wp2_with fail
      go_meet
      exact rmid_t zD HZ.out HY.out HR.out HDd.out HM.out
  case rest =>
    have K1 := Lib.hid hcut; clear hcut K0
    go_wp2_with fail
    refine (one_any D _ 2 (by obtain ⟨_, _, _, _, _, _, _, _, m⟩ := K1.out; exact m.deck) (by omega) (by omega)).mono ?_
    rintro e v1 ⟨u, rfl, mv⟩
    have K2 := Lib.hid (K1.out.moved zD mv)
    clear K1 mv
    go_upto_if 9 with fail
    go_cut [] (fun wc => RMid D w wc)
    case first =>
      obtain ⟨vt, vn, vs, r, hz, hy, hr, hd, hm⟩ := K2.out
      have HZ := Lib.hid hz; have HY := Lib.hid hy; have HR := Lib.hid hr; have HDd := Lib.hid hd; have HM := Lib.hid hm
      obtain ⟨c0, c1, c2⟩ := cells3 hy; obtain ⟨f0, f1, f2⟩ := free3 hy
      have q := lt_of_blk hy
      clear hz hy hr hd hm
      cases u
      · go_wp2_with fail
        go_meet
        exact K2.out
      · go_wp2_with fail
        go_meet
        exact rmid_n zD HZ.out HY.out HR.out HDd.out HM.out
    case rest =>
      have K3 := Lib.hid hcut; clear hcut K2
      go_wp2_with fail
      refine (one_any D _ 2 (by obtain ⟨_, _, _, _, _, _, _, _, m⟩ := K3.out; exact m.deck) (by omega) (by omega)).mono ?_
      rintro e v2 ⟨u, rfl, mv⟩
      have K4 := Lib.hid (K3.out.moved zD mv)
      clear K3 mv
      go_upto_if 15 with fail
      go_cut [] (fun wc => RMid D w wc)
      case first =>
        obtain ⟨vt, vn, vs, r, hz, hy, hr, hd, hm⟩ := K4.out
        have HZ := Lib.hid hz; have HY := Lib.hid hy; have HR := Lib.hid hr; have HDd := Lib.hid hd; have HM := Lib.hid hm
        obtain ⟨c0, c1, c2⟩ := cells3 hy; obtain ⟨f0, f1, f2⟩ := free3 hy
        have q := lt_of_blk hy
        clear hz hy hr hd hm
        cases u
        · go_wp2_with fail
          go_meet
          exact K4.out
        · go_wp2_with fail
          go_meet
          exact rmid_s zD HZ.out HY.out HR.out HDd.out HM.out
      case rest =>
        obtain ⟨vt, vn, vs, r, hz, hy, hr, hd, hm⟩ := hcut
        obtain ⟨at', ct, rfl⟩ := hr.1.slice
        obtain ⟨an, cn, rfl⟩ := hr.2.1.slice
        obtain ⟨as', cs, rfl⟩ := hr.2.2.slice
        have HZ := Lib.hid hz; have HY := Lib.hid hy; have HR := Lib.hid hr; have HDd := Lib.hid hd; have HM := Lib.hid hm
        obtain ⟨c0, c1, c2⟩ := cells3 hy; obtain ⟨f0, f1, f2⟩ := free3 hy
        obtain ⟨d0, d1, d2⟩ := cells3 hz; obtain ⟨g0, g1, g2⟩ := free3 hz
        have q := lt_of_blk hy; have q' := lt_of_blk hz
        clear hz hy hr hd hm K4
        go_wp2_with fail
        have hz := blk_set (i := 2) (v := .slice as' r.streets.length cs) (blk_set (i := 1) (v := .slice an r.nicks.length cn) (blk_set (i := 0) (v := .slice at' r.titles.length ct) HZ.out))
        have hm := ((HM.out.set (a := ⟨w.heap.size, 0, none⟩) (Nat.le_refl _) (.slice at' r.titles.length ct)).set (a := ⟨w.heap.size, 1, none⟩) (Nat.le_refl _) (.slice an r.nicks.length cn)).set (a := ⟨w.heap.size, 2, none⟩) (Nat.le_refl _) (.slice as' r.streets.length cs)
        have hr := HR.out.set3 (a := ⟨w.heap.size, 0, none⟩) (b := ⟨w.heap.size, 1, none⟩) (c := ⟨w.heap.size, 2, none⟩) (fun b h => by simp at h ⊢; omega) (fun b h => by simp at h ⊢; omega) (fun b h => by simp at h ⊢; omega) (.slice at' r.titles.length ct) (.slice an r.nicks.length cn) (.slice as' r.streets.length cs)
        exact bodyPost_row1 rfl rfl hz Tryz.underlying30 rfl (by kernel_rfl) ⟨_, _, _, r, rfl, hr.weaken fun b h => by have h' : w.heap.size + 1 < b := h; show w.heap.size ≤ b; omega, HDd.out, hm⟩
end Go.Proofs.YtmakailcpkogdaaGreatDoor
end
