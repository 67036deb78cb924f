/- Parts of one proof: SipA, AppendNil, OwnV, SipB, MakeQ, SipC, BitsA, BloomA, SchJ, BloomB, MakeS, MakeT, Dress, DeckPlain, MakeU, Shelf2, MakeV, MakeX, EncA, Splice, EncC, EncD, RecA, DeckKey, RefTextA, RefTextB, FoldPlain, RefTextC, RefTextD. -/
import Derived.Test.YthnfmolkppbbpaaGreatDoorPartRe2
import Derived.Deep.AppendLies
import Derived.Deep.RegionLaw
import Derived.Lib.AppendStr
import Derived.Deep.DeepCutAuto
import Derived.Shelf.Small.Utf8
import Derived.Laws.CopyRow
set_option linter.unusedSimpArgs false
set_option linter.unusedVariables false
namespace Go.Proofs.YthnfmolkppbbpaaGreatDoor
section
set_option maxRecDepth 100000
open Go.RowKit
abbrev sipC (s : Sip) : Array Value := #[.int .u64 s.a, .int .u64 s.b, .int .u64 s.c, .int .u64 s.d]
set_option maxHeartbeats 400000 in
theorem rot13 (x : Int) (w : World) : Calls Tryz.prog 190 #[.int .u64 x, .int .i64 13] w fun e w' => e = .returned (.int .u64 (rotP 8192 2251799813685248 x)) ∧ w = w' := by
 have hb : bits .and .u64 13 63 = 13 := by decide +kernel
 go_enter Tryz.func190, Tryz.ntmps190
 go_wp2
 go_ret
 exact ⟨rfl, rfl⟩
set_option maxHeartbeats 400000 in
theorem rot32 (x : Int) (w : World) : Calls Tryz.prog 190 #[.int .u64 x, .int .i64 32] w fun e w' => e = .returned (.int .u64 (rotP 4294967296 4294967296 x)) ∧ w = w' := by
 have hb : bits .and .u64 32 63 = 32 := by decide +kernel
 go_enter Tryz.func190, Tryz.ntmps190
 go_wp2
 go_ret
 exact ⟨rfl, rfl⟩
set_option maxHeartbeats 400000 in
theorem rot16 (x : Int) (w : World) : Calls Tryz.prog 190 #[.int .u64 x, .int .i64 16] w fun e w' => e = .returned (.int .u64 (rotP 65536 281474976710656 x)) ∧ w = w' := by
 have hb : bits .and .u64 16 63 = 16 := by decide +kernel
 go_enter Tryz.func190, Tryz.ntmps190
 go_wp2
 go_ret
 exact ⟨rfl, rfl⟩
set_option maxHeartbeats 400000 in
theorem rot21 (x : Int) (w : World) : Calls Tryz.prog 190 #[.int .u64 x, .int .i64 21] w fun e w' => e = .returned (.int .u64 (rotP 2097152 8796093022208 x)) ∧ w = w' := by
 have hb : bits .and .u64 21 63 = 21 := by decide +kernel
 go_enter Tryz.func190, Tryz.ntmps190
 go_wp2
 go_ret
 exact ⟨rfl, rfl⟩
set_option maxHeartbeats 400000 in
theorem rot17 (x : Int) (w : World) : Calls Tryz.prog 190 #[.int .u64 x, .int .i64 17] w fun e w' => e = .returned (.int .u64 (rotP 131072 140737488355328 x)) ∧ w = w' := by
 have hb : bits .and .u64 17 63 = 17 := by decide +kernel
 go_enter Tryz.func190, Tryz.ntmps190
 go_wp2
 go_ret
 exact ⟨rfl, rfl⟩
theorem cellsS {w : World} {b : Nat} {x y z u : Value} {t : TypeId} {fr : Nat × Nat} (h : w.heap[b]? = some (.cells #[x, y, z, u] t fr)) :
  w.cell? ⟨b, 0, none⟩ = some x ∧ w.cell? ⟨b, 1, none⟩ = some y ∧ w.cell? ⟨b, 2, none⟩ = some z ∧ w.cell? ⟨b, 3, none⟩ = some u := by
 refine ⟨?_, ?_, ?_, ?_⟩ <;> (rw [cell_of_row _ _ _ _ _ _ h]; rfl)
theorem freeS {w : World} {b : Nat} {cs : Array Value} {t : TypeId} (h : w.heap[b]? = some (.cells cs t (0, 0))) :
  w.frozen? ⟨b, 0, none⟩ = false ∧ w.frozen? ⟨b, 1, none⟩ = false ∧ w.frozen? ⟨b, 2, none⟩ = false ∧ w.frozen? ⟨b, 3, none⟩ = false := ⟨frozen_of_row _ _ _ _ _ h, frozen_of_row _ _ _ _ _ h, frozen_of_row _ _ _ _ _ h, frozen_of_row _ _ _ _ _ h⟩
/-- s lies in block b; all but that block is as it was -/
def SipAt (w : World) (b : Nat) (s : Sip) (w' : World) : Prop := w'.heap[b]? = some (.cells (sipC s) 161 (0, 0)) ∧ w.grownBy w' (some b)
theorem SipAt.read {w w' : World} {b : Nat} {s : Sip} (h : SipAt w b s w') : (w'.cell? ⟨b, 0, none⟩ = some (.int .u64 s.a) ∧ w'.cell? ⟨b, 1, none⟩ = some (.int .u64 s.b) ∧ w'.cell? ⟨b, 2, none⟩ = some (.int .u64 s.c) ∧ w'.cell? ⟨b, 3, none⟩ = some (.int .u64 s.d)) ∧
  (w'.frozen? ⟨b, 0, none⟩ = false ∧ w'.frozen? ⟨b, 1, none⟩ = false ∧ w'.frozen? ⟨b, 2, none⟩ = false ∧ w'.frozen? ⟨b, 3, none⟩ = false) := ⟨cellsS h.1, freeS h.1⟩
theorem SipAt.set {w w' : World} {b i : Nat} {s s' : Sip} {v : Value} {n : Nat} (h : SipAt w b s w') (e : (sipC s).setIfInBounds i v = sipC s') : SipAt w b s' ((w'.drewN n).setCell ⟨b, i, none⟩ v) :=
 ⟨by rw [← e]; exact blk_set h.1, grown_set (grown_drewN h.2 n)⟩
/-- .. behind a region -/
theorem exitk_world {K : Act → World → Prop} {Q : Exit → Act → World → Prop} {x : Exit} {a : Act} {W : World} (h : ∀ w', w' = W → Exit.then K Q x a w') : Exit.then K Q x a W := h W rfl
def rndI : Nat → Sip → Sip
 | 0, s => s
 | n + 1, s => rndP (rndI n s)
set_option maxHeartbeats 4000000 in
theorem rounds_any (b : Nat) (s : Sip) (n : Nat) (w : World) (hb : w.heap[b]? = some (.cells (sipC s) 161 (0, 0))) (hn : n ≤ 4) :
  Calls Tryz.prog 143 #[.pointer (some ⟨b, 0, none⟩), .int .i64 n] w fun e w' => e = .returned (.tuple #[]) ∧ SipAt w b (rndI n s) w' := by
 have HB := Lib.hid hb; clear hb
 go_enter Tryz.func143, Tryz.ntmps143
 go_wp2_with fail
 go_loopw [5] (fun i wr => ∃ k : Nat, i = .int .i64 k ∧ k ≤ n ∧ SipAt w b (rndI k s) wr) (fun i _ => n - (intOf i).toNat)
 case atStart => exact ⟨0, rfl, by omega, HB.out, grown_refl _ _⟩
 case round =>
  obtain ⟨k, rfl, hk, hs⟩ := hrel
  have HS := Lib.hid hs; clear hs
  by_cases hlt : k < n
  ·have hq : decide ((k : Int) < n) = true := by simp; omega
   obtain ⟨s0, hs0⟩ : ∃ s0, rndI k s = s0 := ⟨_, rfl⟩
   rw [hs0] at HS
   obtain ⟨a, b0, c, d⟩ := s0
   obtain ⟨⟨c0, c1, c2, c3⟩, f0, f1, f2, f3⟩ := HS.out.read
   dsimp only at c0 c1 c2 c3
   go_wp2_with fail
   refine wp_region_noPanic ?_
   refine wp_region_k (by kernel_rfl) (fun w' => w'.cell? ⟨b, 0, none⟩ = some (.int .u64 a) ∧ w'.cell? ⟨b, 1, none⟩ = some (.int .u64 b0) ∧ w'.cell? ⟨b, 2, none⟩ = some (.int .u64 c) ∧ w'.cell? ⟨b, 3, none⟩ = some (.int .u64 d) ∧ w'.frozen? ⟨b, 0, none⟩ = false ∧ w'.frozen? ⟨b, 1, none⟩ = false ∧ w'.frozen? ⟨b, 2, none⟩ = false ∧ w'.frozen? ⟨b, 3, none⟩ = false) 11 (⟨c0, c1, c2, c3, f0, f1, f2, f3⟩) (fun hHeld => ?_)
   refine tK 0 (h := ?_)
   refine tK 1 (h := ?_)
   refine tK 2 (h := ?_)
   refine tK 3 (h := ?_)
   refine tK 4 (h := ?_)
   refine tK 5 (h := ?_)
   refine tK 6 (h := ?_)
   refine tK 7 (h := ?_)
   refine tK 8 (h := ?_)
   refine tK 9 (h := ?_)
   refine tK 10 (h := ?_)
   refine wpAnyK_ready (rs := [11]) (by kernel_rfl) (by simp) ?_
   refine AllReadyK.cons rfl (fun K hK => ?_) AllReadyK.nil
   go_simp
   refine shutK_off hK (by decide) ?_
   clear hK K
   try simp only [List.getElem_toArray, List.getElem_cons_zero, List.getElem_cons_succ, Act.put, List.setIfInBounds_toArray, List.set_cons_zero, List.set_cons_succ]
   refine wpAnyK_done (by kernel_rfl) ?_ _
   refine NoPanic.normal ?_
   first | refine wp_world (fun w1 hw1 => ?_) | refine exitk_world (fun w1 hw1 => ?_)
   have hs : SipAt w b ⟨ad a b0, b0, c, d⟩ w1 := by rw [hw1]; first | exact HS.out.set (n := 0) rfl | exact HS.out.set (n := 1) rfl
   obtain ⟨x1, hx1⟩ : ∃ x, ad a b0 = x := ⟨_, rfl⟩
   rw [hx1] at hs
   have Hx1 := Lib.hid hx1; clear hx1
   clear hw1 HS c0 c1 c2 c3 f0 f1 f2 f3; have HS := Lib.hid hs; clear hs
   obtain ⟨⟨c0, c1, c2, c3⟩, f0, f1, f2, f3⟩ := HS.out.read
   dsimp only at c0 c1 c2 c3
   go_wp2_with fail
   refine wp_region_noPanic ?_
   refine wp_region_k (by kernel_rfl) (fun w' => w'.cell? ⟨b, 0, none⟩ = some (.int .u64 x1) ∧ w'.cell? ⟨b, 1, none⟩ = some (.int .u64 b0) ∧ w'.cell? ⟨b, 2, none⟩ = some (.int .u64 c) ∧ w'.cell? ⟨b, 3, none⟩ = some (.int .u64 d) ∧ w'.frozen? ⟨b, 0, none⟩ = false ∧ w'.frozen? ⟨b, 1, none⟩ = false ∧ w'.frozen? ⟨b, 2, none⟩ = false ∧ w'.frozen? ⟨b, 3, none⟩ = false) 13 (⟨c0, c1, c2, c3, f0, f1, f2, f3⟩) (fun hHeld => ?_)
   refine tK 0 (h := ?_)
   refine tK 1 (h := ?_)
   refine tK 2 (h := ?_)
   refine tK 3 (h := ?_)
   refine tK 4 (h := ?_)
   refine tK 6 (h := ?_)
   refine tK 7 (h := ?_)
   refine tK 8 (h := ?_)
   refine tK 9 (h := ?_)
   refine wpAnyK_ready (rs := [5]) (by kernel_rfl) (by simp) ?_
   refine AllReadyK.cons rfl (fun K hK => ?_) AllReadyK.nil
   go_simp
   refine (rot13 _ _).mono ?_; rintro e wq ⟨rfl, rfl⟩
   refine shutK hK (⟨c0, c1, c2, c3, f0, f1, f2, f3⟩) (fun hHeld => ?_)
   clear hK K
   try simp only [List.getElem_toArray, List.getElem_cons_zero, List.getElem_cons_succ, Act.put, List.setIfInBounds_toArray, List.set_cons_zero, List.set_cons_succ]
   refine tK 10 (h := ?_)
   refine tK 11 (h := ?_)
   refine tK 12 (h := ?_)
   refine wpAnyK_ready (rs := [13]) (by kernel_rfl) (by simp) ?_
   refine AllReadyK.cons rfl (fun K hK => ?_) AllReadyK.nil
   go_simp
   refine shutK_off hK (by decide) ?_
   clear hK K
   try simp only [List.getElem_toArray, List.getElem_cons_zero, List.getElem_cons_succ, Act.put, List.setIfInBounds_toArray, List.set_cons_zero, List.set_cons_succ]
   refine wpAnyK_done (by kernel_rfl) ?_ _
   refine NoPanic.normal ?_
   first | refine wp_world (fun w1 hw1 => ?_) | refine exitk_world (fun w1 hw1 => ?_)
   have hs : SipAt w b ⟨x1, xr (rotP 8192 2251799813685248 b0) x1, c, d⟩ w1 := by rw [hw1]; first | exact HS.out.set (n := 0) rfl | exact HS.out.set (n := 1) rfl
   obtain ⟨x2, hx2⟩ : ∃ x, xr (rotP 8192 2251799813685248 b0) x1 = x := ⟨_, rfl⟩
   rw [hx2] at hs
   have Hx2 := Lib.hid hx2; clear hx2
   clear hw1 HS c0 c1 c2 c3 f0 f1 f2 f3; have HS := Lib.hid hs; clear hs
   obtain ⟨⟨c0, c1, c2, c3⟩, f0, f1, f2, f3⟩ := HS.out.read
   dsimp only at c0 c1 c2 c3
   go_wp2_with fail
   refine (rot32 _ _).mono ?_; rintro e wq ⟨rfl, rfl⟩
   go_wp2_with fail
   first | refine wp_world (fun w1 hw1 => ?_) | refine exitk_world (fun w1 hw1 => ?_)
   have hs : SipAt w b ⟨rotP 4294967296 4294967296 x1, x2, c, d⟩ w1 := by rw [hw1]; first | exact HS.out.set (n := 0) rfl | exact HS.out.set (n := 1) rfl
   obtain ⟨x3, hx3⟩ : ∃ x, rotP 4294967296 4294967296 x1 = x := ⟨_, rfl⟩
   rw [hx3] at hs
   have Hx3 := Lib.hid hx3; clear hx3
   clear hw1 HS c0 c1 c2 c3 f0 f1 f2 f3; have HS := Lib.hid hs; clear hs
   obtain ⟨⟨c0, c1, c2, c3⟩, f0, f1, f2, f3⟩ := HS.out.read
   dsimp only at c0 c1 c2 c3
   go_wp2_with fail
   refine wp_region_noPanic ?_
   refine wp_region_k (by kernel_rfl) (fun w' => w'.cell? ⟨b, 0, none⟩ = some (.int .u64 x3) ∧ w'.cell? ⟨b, 1, none⟩ = some (.int .u64 x2) ∧ w'.cell? ⟨b, 2, none⟩ = some (.int .u64 c) ∧ w'.cell? ⟨b, 3, none⟩ = some (.int .u64 d) ∧ w'.frozen? ⟨b, 0, none⟩ = false ∧ w'.frozen? ⟨b, 1, none⟩ = false ∧ w'.frozen? ⟨b, 2, none⟩ = false ∧ w'.frozen? ⟨b, 3, none⟩ = false) 11 (⟨c0, c1, c2, c3, f0, f1, f2, f3⟩) (fun hHeld => ?_)
   refine tK 0 (h := ?_)
   refine tK 1 (h := ?_)
   refine tK 2 (h := ?_)
   refine tK 3 (h := ?_)
   refine tK 4 (h := ?_)
   refine tK 5 (h := ?_)
   refine tK 6 (h := ?_)
   refine tK 7 (h := ?_)
   refine tK 8 (h := ?_)
   refine tK 9 (h := ?_)
   refine tK 10 (h := ?_)
   refine wpAnyK_ready (rs := [11]) (by kernel_rfl) (by simp) ?_
   refine AllReadyK.cons rfl (fun K hK => ?_) AllReadyK.nil
   go_simp
   refine shutK_off hK (by decide) ?_
   clear hK K
   try simp only [List.getElem_toArray, List.getElem_cons_zero, List.getElem_cons_succ, Act.put, List.setIfInBounds_toArray, List.set_cons_zero, List.set_cons_succ]
   refine wpAnyK_done (by kernel_rfl) ?_ _
   refine NoPanic.normal ?_
   first | refine wp_world (fun w1 hw1 => ?_) | refine exitk_world (fun w1 hw1 => ?_)
   have hs : SipAt w b ⟨x3, x2, ad c d, d⟩ w1 := by rw [hw1]; first | exact HS.out.set (n := 0) rfl | exact HS.out.set (n := 1) rfl
   obtain ⟨x4, hx4⟩ : ∃ x, ad c d = x := ⟨_, rfl⟩
   rw [hx4] at hs
   have Hx4 := Lib.hid hx4; clear hx4
   clear hw1 HS c0 c1 c2 c3 f0 f1 f2 f3; have HS := Lib.hid hs; clear hs
   obtain ⟨⟨c0, c1, c2, c3⟩, f0, f1, f2, f3⟩ := HS.out.read
   dsimp only at c0 c1 c2 c3
   go_wp2_with fail
   refine wp_region_noPanic ?_
   refine wp_region_k (by kernel_rfl) (fun w' => w'.cell? ⟨b, 0, none⟩ = some (.int .u64 x3) ∧ w'.cell? ⟨b, 1, none⟩ = some (.int .u64 x2) ∧ w'.cell? ⟨b, 2, none⟩ = some (.int .u64 x4) ∧ w'.cell? ⟨b, 3, none⟩ = some (.int .u64 d) ∧ w'.frozen? ⟨b, 0, none⟩ = false ∧ w'.frozen? ⟨b, 1, none⟩ = false ∧ w'.frozen? ⟨b, 2, none⟩ = false ∧ w'.frozen? ⟨b, 3, none⟩ = false) 13 (⟨c0, c1, c2, c3, f0, f1, f2, f3⟩) (fun hHeld => ?_)
   refine tK 0 (h := ?_)
   refine tK 1 (h := ?_)
   refine tK 2 (h := ?_)
   refine tK 3 (h := ?_)
   refine tK 4 (h := ?_)
   refine tK 6 (h := ?_)
   refine tK 7 (h := ?_)
   refine tK 8 (h := ?_)
   refine tK 9 (h := ?_)
   refine wpAnyK_ready (rs := [5]) (by kernel_rfl) (by simp) ?_
   refine AllReadyK.cons rfl (fun K hK => ?_) AllReadyK.nil
   go_simp
   refine (rot16 _ _).mono ?_; rintro e wq ⟨rfl, rfl⟩
   refine shutK hK (⟨c0, c1, c2, c3, f0, f1, f2, f3⟩) (fun hHeld => ?_)
   clear hK K
   try simp only [List.getElem_toArray, List.getElem_cons_zero, List.getElem_cons_succ, Act.put, List.setIfInBounds_toArray, List.set_cons_zero, List.set_cons_succ]
   refine tK 10 (h := ?_)
   refine tK 11 (h := ?_)
   refine tK 12 (h := ?_)
   refine wpAnyK_ready (rs := [13]) (by kernel_rfl) (by simp) ?_
   refine AllReadyK.cons rfl (fun K hK => ?_) AllReadyK.nil
   go_simp
   refine shutK_off hK (by decide) ?_
   clear hK K
   try simp only [List.getElem_toArray, List.getElem_cons_zero, List.getElem_cons_succ, Act.put, List.setIfInBounds_toArray, List.set_cons_zero, List.set_cons_succ]
   refine wpAnyK_done (by kernel_rfl) ?_ _
   refine NoPanic.normal ?_
   first | refine wp_world (fun w1 hw1 => ?_) | refine exitk_world (fun w1 hw1 => ?_)
   have hs : SipAt w b ⟨x3, x2, x4, xr (rotP 65536 281474976710656 d) x4⟩ w1 := by rw [hw1]; first | exact HS.out.set (n := 0) rfl | exact HS.out.set (n := 1) rfl
   obtain ⟨x5, hx5⟩ : ∃ x, xr (rotP 65536 281474976710656 d) x4 = x := ⟨_, rfl⟩
   rw [hx5] at hs
   have Hx5 := Lib.hid hx5; clear hx5
   clear hw1 HS c0 c1 c2 c3 f0 f1 f2 f3; have HS := Lib.hid hs; clear hs
   obtain ⟨⟨c0, c1, c2, c3⟩, f0, f1, f2, f3⟩ := HS.out.read
   dsimp only at c0 c1 c2 c3
   go_wp2_with fail
   refine wp_region_noPanic ?_
   refine wp_region_k (by kernel_rfl) (fun w' => w'.cell? ⟨b, 0, none⟩ = some (.int .u64 x3) ∧ w'.cell? ⟨b, 1, none⟩ = some (.int .u64 x2) ∧ w'.cell? ⟨b, 2, none⟩ = some (.int .u64 x4) ∧ w'.cell? ⟨b, 3, none⟩ = some (.int .u64 x5) ∧ w'.frozen? ⟨b, 0, none⟩ = false ∧ w'.frozen? ⟨b, 1, none⟩ = false ∧ w'.frozen? ⟨b, 2, none⟩ = false ∧ w'.frozen? ⟨b, 3, none⟩ = false) 11 (⟨c0, c1, c2, c3, f0, f1, f2, f3⟩) (fun hHeld => ?_)
   refine tK 0 (h := ?_)
   refine tK 1 (h := ?_)
   refine tK 2 (h := ?_)
   refine tK 3 (h := ?_)
   refine tK 4 (h := ?_)
   refine tK 5 (h := ?_)
   refine tK 6 (h := ?_)
   refine tK 7 (h := ?_)
   refine tK 8 (h := ?_)
   refine tK 9 (h := ?_)
   refine tK 10 (h := ?_)
   refine wpAnyK_ready (rs := [11]) (by kernel_rfl) (by simp) ?_
   refine AllReadyK.cons rfl (fun K hK => ?_) AllReadyK.nil
   go_simp
   refine shutK_off hK (by decide) ?_
   clear hK K
   try simp only [List.getElem_toArray, List.getElem_cons_zero, List.getElem_cons_succ, Act.put, List.setIfInBounds_toArray, List.set_cons_zero, List.set_cons_succ]
   refine wpAnyK_done (by kernel_rfl) ?_ _
   refine NoPanic.normal ?_
   first | refine wp_world (fun w1 hw1 => ?_) | refine exitk_world (fun w1 hw1 => ?_)
   have hs : SipAt w b ⟨ad x3 x5, x2, x4, x5⟩ w1 := by rw [hw1]; first | exact HS.out.set (n := 0) rfl | exact HS.out.set (n := 1) rfl
   obtain ⟨x6, hx6⟩ : ∃ x, ad x3 x5 = x := ⟨_, rfl⟩
   rw [hx6] at hs
   have Hx6 := Lib.hid hx6; clear hx6
   clear hw1 HS c0 c1 c2 c3 f0 f1 f2 f3; have HS := Lib.hid hs; clear hs
   obtain ⟨⟨c0, c1, c2, c3⟩, f0, f1, f2, f3⟩ := HS.out.read
   dsimp only at c0 c1 c2 c3
   go_wp2_with fail
   refine wp_region_noPanic ?_
   refine wp_region_k (by kernel_rfl) (fun w' => w'.cell? ⟨b, 0, none⟩ = some (.int .u64 x6) ∧ w'.cell? ⟨b, 1, none⟩ = some (.int .u64 x2) ∧ w'.cell? ⟨b, 2, none⟩ = some (.int .u64 x4) ∧ w'.cell? ⟨b, 3, none⟩ = some (.int .u64 x5) ∧ w'.frozen? ⟨b, 0, none⟩ = false ∧ w'.frozen? ⟨b, 1, none⟩ = false ∧ w'.frozen? ⟨b, 2, none⟩ = false ∧ w'.frozen? ⟨b, 3, none⟩ = false) 13 (⟨c0, c1, c2, c3, f0, f1, f2, f3⟩) (fun hHeld => ?_)
   refine tK 0 (h := ?_)
   refine tK 1 (h := ?_)
   refine tK 2 (h := ?_)
   refine tK 3 (h := ?_)
   refine tK 4 (h := ?_)
   refine tK 6 (h := ?_)
   refine tK 7 (h := ?_)
   refine tK 8 (h := ?_)
   refine tK 9 (h := ?_)
   refine wpAnyK_ready (rs := [5]) (by kernel_rfl) (by simp) ?_
   refine AllReadyK.cons rfl (fun K hK => ?_) AllReadyK.nil
   go_simp
   refine (rot21 _ _).mono ?_; rintro e wq ⟨rfl, rfl⟩
   refine shutK hK (⟨c0, c1, c2, c3, f0, f1, f2, f3⟩) (fun hHeld => ?_)
   clear hK K
   try simp only [List.getElem_toArray, List.getElem_cons_zero, List.getElem_cons_succ, Act.put, List.setIfInBounds_toArray, List.set_cons_zero, List.set_cons_succ]
   refine tK 10 (h := ?_)
   refine tK 11 (h := ?_)
   refine tK 12 (h := ?_)
   refine wpAnyK_ready (rs := [13]) (by kernel_rfl) (by simp) ?_
   refine AllReadyK.cons rfl (fun K hK => ?_) AllReadyK.nil
   go_simp
   refine shutK_off hK (by decide) ?_
   clear hK K
   try simp only [List.getElem_toArray, List.getElem_cons_zero, List.getElem_cons_succ, Act.put, List.setIfInBounds_toArray, List.set_cons_zero, List.set_cons_succ]
   refine wpAnyK_done (by kernel_rfl) ?_ _
   refine NoPanic.normal ?_
   first | refine wp_world (fun w1 hw1 => ?_) | refine exitk_world (fun w1 hw1 => ?_)
   have hs : SipAt w b ⟨x6, x2, x4, xr (rotP 2097152 8796093022208 x5) x6⟩ w1 := by rw [hw1]; first | exact HS.out.set (n := 0) rfl | exact HS.out.set (n := 1) rfl
   obtain ⟨x7, hx7⟩ : ∃ x, xr (rotP 2097152 8796093022208 x5) x6 = x := ⟨_, rfl⟩
   rw [hx7] at hs
   have Hx7 := Lib.hid hx7; clear hx7
   clear hw1 HS c0 c1 c2 c3 f0 f1 f2 f3; have HS := Lib.hid hs; clear hs
   obtain ⟨⟨c0, c1, c2, c3⟩, f0, f1, f2, f3⟩ := HS.out.read
   dsimp only at c0 c1 c2 c3
   go_wp2_with fail
   refine wp_region_noPanic ?_
   refine wp_region_k (by kernel_rfl) (fun w' => w'.cell? ⟨b, 0, none⟩ = some (.int .u64 x6) ∧ w'.cell? ⟨b, 1, none⟩ = some (.int .u64 x2) ∧ w'.cell? ⟨b, 2, none⟩ = some (.int .u64 x4) ∧ w'.cell? ⟨b, 3, none⟩ = some (.int .u64 x7) ∧ w'.frozen? ⟨b, 0, none⟩ = false ∧ w'.frozen? ⟨b, 1, none⟩ = false ∧ w'.frozen? ⟨b, 2, none⟩ = false ∧ w'.frozen? ⟨b, 3, none⟩ = false) 11 (⟨c0, c1, c2, c3, f0, f1, f2, f3⟩) (fun hHeld => ?_)
   refine tK 0 (h := ?_)
   refine tK 1 (h := ?_)
   refine tK 2 (h := ?_)
   refine tK 3 (h := ?_)
   refine tK 4 (h := ?_)
   refine tK 5 (h := ?_)
   refine tK 6 (h := ?_)
   refine tK 7 (h := ?_)
   refine tK 8 (h := ?_)
   refine tK 9 (h := ?_)
   refine tK 10 (h := ?_)
   refine wpAnyK_ready (rs := [11]) (by kernel_rfl) (by simp) ?_
   refine AllReadyK.cons rfl (fun K hK => ?_) AllReadyK.nil
   go_simp
   refine shutK_off hK (by decide) ?_
   clear hK K
   try simp only [List.getElem_toArray, List.getElem_cons_zero, List.getElem_cons_succ, Act.put, List.setIfInBounds_toArray, List.set_cons_zero, List.set_cons_succ]
   refine wpAnyK_done (by kernel_rfl) ?_ _
   refine NoPanic.normal ?_
   first | refine wp_world (fun w1 hw1 => ?_) | refine exitk_world (fun w1 hw1 => ?_)
   have hs : SipAt w b ⟨x6, x2, ad x4 x2, x7⟩ w1 := by rw [hw1]; first | exact HS.out.set (n := 0) rfl | exact HS.out.set (n := 1) rfl
   obtain ⟨x8, hx8⟩ : ∃ x, ad x4 x2 = x := ⟨_, rfl⟩
   rw [hx8] at hs
   have Hx8 := Lib.hid hx8; clear hx8
   clear hw1 HS c0 c1 c2 c3 f0 f1 f2 f3; have HS := Lib.hid hs; clear hs
   obtain ⟨⟨c0, c1, c2, c3⟩, f0, f1, f2, f3⟩ := HS.out.read
   dsimp only at c0 c1 c2 c3
   go_wp2_with fail
   refine wp_region_noPanic ?_
   refine wp_region_k (by kernel_rfl) (fun w' => w'.cell? ⟨b, 0, none⟩ = some (.int .u64 x6) ∧ w'.cell? ⟨b, 1, none⟩ = some (.int .u64 x2) ∧ w'.cell? ⟨b, 2, none⟩ = some (.int .u64 x8) ∧ w'.cell? ⟨b, 3, none⟩ = some (.int .u64 x7) ∧ w'.frozen? ⟨b, 0, none⟩ = false ∧ w'.frozen? ⟨b, 1, none⟩ = false ∧ w'.frozen? ⟨b, 2, none⟩ = false ∧ w'.frozen? ⟨b, 3, none⟩ = false) 13 (⟨c0, c1, c2, c3, f0, f1, f2, f3⟩) (fun hHeld => ?_)
   refine tK 0 (h := ?_)
   refine tK 1 (h := ?_)
   refine tK 2 (h := ?_)
   refine tK 3 (h := ?_)
   refine tK 4 (h := ?_)
   refine tK 6 (h := ?_)
   refine tK 7 (h := ?_)
   refine tK 8 (h := ?_)
   refine tK 9 (h := ?_)
   refine wpAnyK_ready (rs := [5]) (by kernel_rfl) (by simp) ?_
   refine AllReadyK.cons rfl (fun K hK => ?_) AllReadyK.nil
   go_simp
   refine (rot17 _ _).mono ?_; rintro e wq ⟨rfl, rfl⟩
   refine shutK hK (⟨c0, c1, c2, c3, f0, f1, f2, f3⟩) (fun hHeld => ?_)
   clear hK K
   try simp only [List.getElem_toArray, List.getElem_cons_zero, List.getElem_cons_succ, Act.put, List.setIfInBounds_toArray, List.set_cons_zero, List.set_cons_succ]
   refine tK 10 (h := ?_)
   refine tK 11 (h := ?_)
   refine tK 12 (h := ?_)
   refine wpAnyK_ready (rs := [13]) (by kernel_rfl) (by simp) ?_
   refine AllReadyK.cons rfl (fun K hK => ?_) AllReadyK.nil
   go_simp
   refine shutK_off hK (by decide) ?_
   clear hK K
   try simp only [List.getElem_toArray, List.getElem_cons_zero, List.getElem_cons_succ, Act.put, List.setIfInBounds_toArray, List.set_cons_zero, List.set_cons_succ]
   refine wpAnyK_done (by kernel_rfl) ?_ _
   refine NoPanic.normal ?_
   first | refine wp_world (fun w1 hw1 => ?_) | refine exitk_world (fun w1 hw1 => ?_)
   have hs : SipAt w b ⟨x6, xr (rotP 131072 140737488355328 x2) x8, x8, x7⟩ w1 := by rw [hw1]; first | exact HS.out.set (n := 0) rfl | exact HS.out.set (n := 1) rfl
   obtain ⟨x9, hx9⟩ : ∃ x, xr (rotP 131072 140737488355328 x2) x8 = x := ⟨_, rfl⟩
   rw [hx9] at hs
   have Hx9 := Lib.hid hx9; clear hx9
   clear hw1 HS c0 c1 c2 c3 f0 f1 f2 f3; have HS := Lib.hid hs; clear hs
   obtain ⟨⟨c0, c1, c2, c3⟩, f0, f1, f2, f3⟩ := HS.out.read
   dsimp only at c0 c1 c2 c3
   go_wp2_with fail
   refine (rot32 _ _).mono ?_; rintro e wq ⟨rfl, rfl⟩
   go_wp2_with fail
   go_roundw
   case rel =>
    refine ⟨k + 1, by go_num, by omega, ?_⟩
    have hs : SipAt w b ⟨x6, x9, rotP 4294967296 4294967296 x8, x7⟩ (w1.setCell ⟨b, 2, none⟩ (.int .u64 (rotP 4294967296 4294967296 x8))) := HS.out.set (n := 0) rfl
    have e : (⟨x6, x9, rotP 4294967296 4294967296 x8, x7⟩ : Sip) = rndP ⟨a, b0, c, d⟩ := by rw [← Hx9.out, ← Hx8.out, ← Hx7.out, ← Hx6.out, ← Hx5.out, ← Hx4.out, ← Hx3.out, ← Hx2.out, ← Hx1.out]; rfl
    rw [rndI, hs0, ← e]; exact hs
   case measure => simp [intOf]; omega
  ·have hq : decide ((k : Int) < n) = false := by simp; omega
   obtain rfl : k = n := by omega
   go_wp2_with fail
   go_end0
   exact ⟨rfl, HS.out⟩
set_option maxHeartbeats 1000000 in
theorem sword_any (b : Nat) (s : Sip) (m : Int) (w : World) (hb : w.heap[b]? = some (.cells (sipC s) 161 (0, 0))) :
  Calls Tryz.prog 141 #[.pointer (some ⟨b, 0, none⟩), .int .u64 m] w fun e w' => e = .returned (.tuple #[]) ∧ SipAt w b (wordP s m) w' := by
 have hs : SipAt w b s w := ⟨hb, grown_refl _ _⟩
 have HS := Lib.hid hs; clear hs hb
 obtain ⟨⟨c0, c1, c2, c3⟩, f0, f1, f2, f3⟩ := HS.out.read
 go_enter Tryz.func141, Tryz.ntmps141
 go_wp2_with fail
 have hs1 : SipAt w b ⟨s.a, s.b, s.c, xr s.d m⟩ (w.setCell ⟨b, 3, none⟩ (.int .u64 (xr s.d m))) := HS.out.set (n := 0) rfl
 refine (rounds_any b ⟨s.a, s.b, s.c, xr s.d m⟩ 2 _ hs1.1 (by omega)).mono ?_
 rintro e w1 ⟨rfl, hs2⟩
 have hs3 : SipAt w b (rndP (rndP ⟨s.a, s.b, s.c, xr s.d m⟩)) w1 := ⟨hs2.1, grown_trans hs1.2 hs2.2⟩
 obtain ⟨t, ht⟩ : ∃ t, rndP (rndP ⟨s.a, s.b, s.c, xr s.d m⟩) = t := ⟨_, rfl⟩
 rw [ht] at hs3
 have hw : wordP s m = ⟨xr t.a m, t.b, t.c, t.d⟩ := by rw [← ht]; rfl
 have HW := Lib.hid hw
 clear hs1 hs2 ht hw HS c0 c1 c2 c3 f0 f1 f2 f3
 have HS := Lib.hid hs3; clear hs3
 obtain ⟨⟨c0, c1, c2, c3⟩, f0, f1, f2, f3⟩ := HS.out.read
 go_wp2_with fail
 go_end0
 exact ⟨rfl, by rw [HW.out]; exact HS.out.set (n := 0) rfl⟩
/-- a slice of bytes -/
abbrev encB (c : UInt8) : List Value := [byteV c]
set_option maxHeartbeats 1000000 in
theorem snumber_any (S : Nat → Prop) (v : Value) (l : List UInt8) (w : World) (h : Vec w S 1 encB v l) (hl : l.length ≤ 8) :
  Calls Tryz.prog 142 #[v] w fun e w' => e = .returned (.int .u64 (numP 0 0 l)) ∧ w = w' := by
 obtain ⟨a, cap, rfl⟩ := h.slice
 have HV := Lib.hid h; clear h
 go_enter Tryz.func142, Tryz.ntmps142
 go_wp2_with fail
 go_loopw [3, 4, 5, 8] (fun m _ _ i wr => wr = w ∧ ∃ (k : Nat) (mm : Int), i = .int .i64 k ∧ k ≤ l.length ∧ m = .int .u64 mm ∧ Hid (numP k mm (l.drop k) = numP 0 0 l)) (fun _ _ _ i _ => l.length - (intOf i).toNat)
 case atStart => exact ⟨rfl, 0, 0, rfl, by omega, rfl, Lib.hid rfl⟩
 case round =>
  obtain ⟨rfl, k, mm, rfl, hk, rfl, HT⟩ := hrel
  by_cases hlt : k < l.length
  ·have hq : decide ((k : Int) < l.length) = true := by simp; omega
   obtain ⟨b, off, rfl, hb, hc⟩ := HV.out.get k hlt
   have c0 := hc 0 _ rfl
   rw [Nat.mul_one, Nat.add_zero] at c0
   unfold byteV at c0
   go_wp2_with fail
   go_roundw
   case rel => exact ⟨trivial, k + 1, _, by go_num, by omega, rfl, Lib.hid (by rw [← HT.out, List.drop_eq_getElem_cons hlt]; rfl)⟩
   case measure => simp [intOf]; omega
  ·have hq : decide ((k : Int) < l.length) = false := by simp; omega
   have hd : l.drop k = [] := List.drop_eq_nil_of_le (by omega)
   rw [hd] at HT
   obtain rfl : mm = numP 0 0 l := HT.out
   clear HT hd
   go_wp2_with fail
   go_ret
   exact ⟨rfl, rfl⟩
end
section
open Go
theorem run_load_zero {P : Program} (a : Addr) (w : World) : Sem.run P (loadCells a 0) w = .ok #[] w := rfl
theorem run_append_zero {P : Program} {w : World} (base : Nat) (t ty e : TypeId) (i : TypeInfo) (size : Nat) (ht : P.underlying t = some (.slice e)) (hi : P.info? e = some i)
  (v : Value) (n : Nat) (xs : List Value) (hown : w.ownsRow base e size v n xs) (ad : Option Addr) (c : Nat) :
  (Builtin.append_ #[t, t] ty #[v, .slice ad 0 c]).run P w = .ok v w := by
 have lz := fun a => run_load_zero (P := P) a w
 rcases hown.2 with ⟨rfl, rfl⟩ | ⟨g, cap, cur, rfl, _, _, hnc, _⟩
 ·cases ad <;> simp [Builtin.append_, run_underlying ht, sizeOf, typeInfo, hi, Builtin.lenOf, Builtin.firstCells, lz, Sem.run_pure, Result.andThen]
 ·cases ad <;> simp [Builtin.append_, run_underlying ht, sizeOf, typeInfo, hi, Builtin.lenOf, Builtin.firstCells, hnc, storeCells, lz, Sem.run_pure, Result.andThen]
theorem wp_append_zero {P : Program} {w : World} {o : Oper} {a : Act} {K : Act → World → Prop} {Q : Exit → Act → World → Prop} (s x : Operand) (t : TypeId)
  (ho : o.op = .call { callee := .builtin .append, args := #[s, x], argTypes := #[t, t] })
  (base : Nat) (e : TypeId) (i : TypeInfo) (size : Nat) (ht : P.underlying t = some (.slice e)) (hi : P.info? e = some i)
  (v : Value) (n : Nat) (xs : List Value) (hs : a.eval s = v) (hown : w.ownsRow base e size v n xs) (ad : Option Addr) (c : Nat) (hx : a.eval x = .slice ad 0 c)
  (h : K (a.put o.dst v) w) : Oper.wp P o a w K Q := by
 have hrun := run_append_zero (P := P) (w := w) base t o.type e i size ht hi v n xs hown ad c
 unfold Oper.wp execOp
 simp only [ho, resolve, invoke, builtin, Sem.run_bind, Sem.run_pure, Result.andThen_ok, List.map_toArray, List.map_cons, List.map_nil, hs, hx, hrun]
 exact h
/-- a slice's elements can be read: m of them, of size cells each -/
def Reads (w : World) (size : Nat) (u : Value) (m : Nat) (news : List Value) : Prop :=
 ∃ ad c, u = .slice ad m c ∧ news.length = m * size ∧ (0 < m → ∃ A, ad = some A ∧ ∀ j v, news[j]? = some v → w.cell? (A.add j) = some v)
/-- append of whatever slice -/
theorem wp_append_reads {P : Program} {w : World} {o : Oper} {a : Act} {K : Act → World → Prop} {Q : Exit → Act → World → Prop} (s x : Operand) (t : TypeId)
  (ho : o.op = .call { callee := .builtin .append, args := #[s, x], argTypes := #[t, t] })
  (base : Nat) (e : TypeId) (z : Value) (size bytes : Nat) (ht : P.underlying t = some (.slice e)) (hinfo : (P.info? e).map (fun i => (i.zero, i.size, i.bytes)) = some (some z, size, bytes))
  (hzs : z.cells.size = size) (hsz : 0 < size)
  (v : Value) (n : Nat) (xs : List Value) (hs : a.eval s = v) (hown : w.ownsRow base e size v n xs)
  (u : Value) (m : Nat) (news : List Value) (hx : a.eval x = u) (hr : Reads w size u m news) (h1 : ∀ u ∈ news, u.oneCell' = true)
  (h63 : n + m ≤ maxLen) (hbytes : (n + m) * bytes ≤ 140737488355328) (hbase : base ≤ w.heap.size)
  (h : ∀ v' w', w'.ownsRow base e size v' (n + m) (xs ++ news) → w.grownBy w' v.ownBlock → (v'.ownBlock = none ∨ v.ownBlock = v'.ownBlock ∨ v'.ownBlock = some w.heap.size) → K (a.put o.dst v') w') : Oper.wp P o a w K Q := by
 obtain ⟨ad, c, rfl, hl, hc⟩ := hr
 obtain ⟨i, hi, hz, h2, h3⟩ := info_parts hinfo
 by_cases hm : m = 0
 ·subst hm
  have hn : news = [] := List.length_eq_zero_iff.1 (by omega)
  subst hn
  refine wp_append_zero s x t ho base e i size ht hi v n xs hs hown ad c hx (h v w (by simpa using hown) ⟨rfl, rfl, rfl, Nat.le_refl _, fun _ _ _ => rfl⟩ (.inr (.inl rfl)))
 ·obtain ⟨A, rfl, hcell⟩ := hc (by omega)
  refine wp_append_lies w s x t ho base e i z size bytes ht hi hz h2 h3 hzs hsz v n xs hs hown A m c news hx hl hcell h1 (by omega) h63 hbytes hbase _ rfl fun g cap w' ho' hg hat hlt => ?_
  rcases hat with h4 | h4
  ·exact h _ w' ho' hg (.inr (.inl h4))
  ·exact h _ w' ho' hg (.inr (.inr (by rw [h4]; rfl)))
end
section
open Go.RowKit
variable {α : Type}
/-- v is a row of elements of type e, which lies in blocks made since w0; what lay in w0 is as it was -/
def OwnV (e : TypeId) (size : Nat) (enc : α → List Value) (w0 : World) (v : Value) (L : List α) (w : World) : Prop :=
 w.ownsRow w0.heap.size e size v L.length (L.flatMap enc) ∧ Below w0.heap.size w0 w
theorem own_below' {w w' : World} {B e size n : Nat} {v : Value} {xs : List Value} (h : w.ownsRow B e size v n xs) (hb : Below w.heap.size w w') : w'.ownsRow B e size v n xs := by
 refine ⟨h.1, ?_⟩
 rcases h.2 with h0 | ⟨g, cap, cur, hv, hg, hh, rest⟩
 ·exact .inl h0
 ·exact .inr ⟨g, cap, cur, hv, hg, (hb.block g (lt_of_blk hh)).trans hh, rest⟩
theorem OwnV.below {e size : Nat} {enc : α → List Value} {w0 w w' : World} {v : Value} {L : List α} (h : OwnV e size enc w0 v L w) (hb : Below w.heap.size w w') : OwnV e size enc w0 v L w' :=
 ⟨own_below' h.1 hb, h.2.trans (hb.mono h.2.size)⟩
theorem OwnV.start (e size : Nat) (enc : α → List Value) (w0 : World) : OwnV e size enc w0 (.slice none 0 0) [] w0 := ⟨⟨by simp, .inl ⟨rfl, rfl⟩⟩, Below.refl _ _⟩
theorem OwnV.nil {e size : Nat} {enc : α → List Value} {w0 w : World} (hb : Below w0.heap.size w0 w) : OwnV e size enc w0 (.slice none 0 0) [] w := ⟨⟨by simp, .inl ⟨rfl, rfl⟩⟩, hb⟩
theorem OwnV.vec {e size : Nat} {enc : α → List Value} (hk : ∀ x, (enc x).length = size) {w0 w : World} {v : Value} {L : List α} (h : OwnV e size enc w0 v L w) : Vec w (fun b => w0.heap.size ≤ b) size enc v L :=
 Vec.owns hk h.1 fun b hb _ => hb
theorem OwnV.form {e size : Nat} {enc : α → List Value} {w0 w : World} {v : Value} {L : List α} (h : OwnV e size enc w0 v L w) : (v = .slice none 0 0 ∧ L = []) ∨ ∃ g cap, v = .slice (some ⟨g, 0, none⟩) L.length cap ∧ L.length ≤ cap ∧ cap ≤ maxLen ∧ g < w.heap.size := by
 rcases h.1.2 with ⟨rfl, h0⟩ | ⟨g, cap, cur, rfl, _, hh, h1, h2, _⟩
 ·exact .inl ⟨rfl, List.length_eq_zero_iff.1 h0⟩
 ·exact .inr ⟨g, cap, rfl, h1, h2, lt_of_blk hh⟩
/-- one element that lies at the head of a block -/
theorem reads_block {w : World} {g : Nat} {t : TypeId} {fr : Nat × Nat} {size c : Nat} {xs : List Value} (h : w.heap[g]? = some (.cells xs.toArray t fr)) (hl : xs.length = size) : Reads w size (.slice (some ⟨g, 0, none⟩) 1 c) 1 xs :=
 ⟨_, c, rfl, by omega, fun _ => ⟨_, rfl, fun j u hj => by rw [add_plain, cell_of_row _ _ _ _ _ _ h, Nat.zero_add]; simpa using hj⟩⟩
/-- the elements of a row can be read -/
theorem Vec.reads {w : World} {S : Nat → Prop} {k : Nat} {enc : α → List Value} (hk : ∀ x, (enc x).length = k) {v : Value} {L : List α} (h : Vec w S k enc v L) : Reads w k v L.length (L.flatMap enc) := by
 obtain ⟨a, cap, rfl, _, h3⟩ := h
 refine ⟨a, cap, rfl, flat_len hk L, fun h0 => ?_⟩
 obtain ⟨b, off, rfl, _, hb, hc⟩ := h3 h0
 refine ⟨⟨b, off, none⟩, rfl, fun j u hj => ?_⟩
 rw [add_plain]
 have hjl : j < L.length * k := by rw [← flat_len hk L]; exact (List.getElem?_eq_some_iff.1 hj).1
 have hk0 : 0 < k := by
  rcases Nat.eq_zero_or_pos k with h' | h'
  ·rw [h', Nat.mul_zero] at hjl; omega
  ·exact h'
 have hq : j / k < L.length := Nat.div_lt_of_lt_mul (by rw [Nat.mul_comm]; exact hjl)
 have hr : j % k < k := Nat.mod_lt _ hk0
 have e1 : j / k * k + j % k = j := Nat.div_add_mod' j k
 have hg := flat_get hk L (j / k) _ (List.getElem?_eq_getElem hq) (j % k) hr
 rw [e1, hj] at hg
 have := hc (j / k) _ (List.getElem?_eq_getElem hq) (j % k) u hg.symm
 rwa [Nat.add_assoc, e1] at this
section
variable {P : Program} {w : World} {o : Oper} {a : Act} {K : Act → World → Prop} {Q : Exit → Act → World → Prop}
/-- append of a list, as an operation -/
theorem wp_append_v (s x : Operand) (t : TypeId) (ho : o.op = .call { callee := .builtin .append, args := #[s, x], argTypes := #[t, t] })
  (e : TypeId) (z : Value) (size bytes : Nat) (enc : α → List Value) (hk : ∀ x, (enc x).length = size) (h1 : ∀ x, ∀ u ∈ enc x, u.oneCell' = true) (ht : P.underlying t = some (.slice e)) (hinfo : (P.info? e).map (fun i => (i.zero, i.size, i.bytes)) = some (some z, size, bytes))
  (hzs : z.cells.size = size) (hsz : 0 < size) (hby : bytes ≤ 128) {w0 : World} {v u : Value} {A B : List α} (hs : a.eval s = v) (hown : OwnV e size enc w0 v A w) (hx : a.eval x = u) (hr : Reads w size u B.length (B.flatMap enc)) (hn : A.length + B.length ≤ 1000000000)
  (h : ∀ v' w', OwnV e size enc w0 v' (A ++ B) w' → (∀ k o, some k ≠ v.ownBlock → w.heap[k]? = some o → w'.heap[k]? = some o) → w.heap.size ≤ w'.heap.size → K (a.put o.dst v') w') : Oper.wp P o a w K Q := by
 refine wp_append_reads s x t ho w0.heap.size e z size bytes ht hinfo hzs hsz v A.length (A.flatMap enc) hs hown.1 u B.length (B.flatMap enc) hx hr (fun u hu => ?_) (by unfold maxLen; omega) ?_ hown.2.size ?_
 ·obtain ⟨y, _, hy⟩ := List.mem_flatMap.1 hu
  exact h1 y u hy
 ·exact Nat.le_trans (Nat.mul_le_mul hn hby) (by decide)
 ·intro v' w' ho' hg hat
  refine h v' w' ⟨by rw [List.length_append, List.flatMap_append]; exact ho', hown.2.grown hg hown.2.size fun k hk => ?_⟩ (fun k o hk hko => (hg.block k (lt_of_blk hko) hk).trans hko) hg.size
  rcases hown.1.2 with ⟨rfl, _⟩ | ⟨g, cap, cur, rfl, hg1, _⟩
  ·simp [Value.ownBlock] at hk
  ·have : g = k := by simpa [Value.ownBlock] using hk
   omega
end
end
section
set_option maxRecDepth 100000
open Go.RowKit

theorem infoBy : (Tryz.prog.info? 5).map (fun i => (i.zero, i.size, i.bytes)) = some (some (.int .u8 0), 1, 1) := by kernel_rfl
/-- all but the first m elements of a row -/
theorem Vec.dropped {α : Type} {w : World} {S : Nat → Prop} {enc : α → List Value} {b off n cap : Nat} {L : List α} (h : Vec w S 1 enc (.slice (some ⟨b, off, none⟩) n cap) L) (m : Nat) (hm : m ≤ L.length) (p : Prop) [Decidable p] (hp : p → m = L.length) (c : Nat) (hc : L.length - m ≤ c) :
  Vec w S 1 enc (.slice (if p then some ⟨b, off, none⟩ else some ⟨b, off + m, none⟩) (L.length - m) c) (L.drop m) := by
 obtain ⟨a', cap', h1, h2, h3⟩ := h
 cases h1
 refine ⟨_, c, by rw [List.length_drop], by rw [List.length_drop]; exact hc, fun h0 => ?_⟩
 rw [List.length_drop] at h0
 have hnp : ¬ p := fun hp' => by have := hp hp'; omega
 rw [if_neg hnp]
 obtain ⟨b', off', e, hS, hb, hcell⟩ := h3 (by omega)
 cases e
 refine ⟨b, off + m, rfl, hS, hb, fun j x hj i u hu => ?_⟩
 have := hcell (m + j) x (by rw [List.getElem?_drop] at hj; exact hj) i u hu
 rw [Nat.mul_one] at this ⊢
 rwa [← Nat.add_assoc] at this
theorem Vec.taken {α : Type} {w : World} {S : Nat → Prop} {k : Nat} {enc : α → List Value} {a : Option Addr} {n cap : Nat} {L : List α} (h : Vec w S k enc (.slice a n cap) L) (m c : Nat) (hm : m ≤ L.length) (hc : m ≤ c) : Vec w S k enc (.slice a m c) (L.take m) := by
 obtain ⟨a', cap', h1, h2, h3⟩ := h
 cases h1
 refine ⟨a, c, by rw [List.length_take, Nat.min_eq_left hm], by rw [List.length_take]; omega, fun h0 => ?_⟩
 rw [List.length_take] at h0
 obtain ⟨b, off, h4, h5, h5', h6⟩ := h3 (by omega)
 refine ⟨b, off, h4, h5, h5', fun j x hj => h6 j x ?_⟩
 rw [List.getElem?_take] at hj
 split at hj
 ·exact hj
 ·cases hj
theorem Vec.grown {α : Type} {w w' : World} {S : Nat → Prop} {k : Nat} {enc : α → List Value} {v : Value} {L : List α} {b : Nat} (h : Vec w S k enc v L) (hS : ∀ x, S x → x ≠ b) (g : w.grownBy w' (some b)) : Vec w' S k enc v L :=
 h.move g.size fun x hx hs => ⟨g.block x hx (by have := hS x hs; simp; omega), hs⟩
def lenOfV : Value → Nat
 | .slice _ n _ => n
 | _ => 0
theorem SipAt.base {w W w' : World} {b B : Nat} {s : Sip} (h : SipAt W b s w') (hb : Below B w W) (hB : B ≤ b) (hW : B ≤ W.heap.size) : Below B w w' :=
 hb.trans ⟨h.2.os, h.2.tape, h.2.output, h.2.size, fun k hk => h.2.block k (by omega) (by simp; omega)⟩
theorem eachP_step (s : Sip) (l : List UInt8) (n : Nat) : eachP s l (n + 1) = eachP (wordP s (numP 0 0 (l.take 8))) (l.drop 8) n := rfl
theorem eachP_more (s : Sip) (l : List UInt8) (h : 8 ≤ l.length) : eachP s l (l.length / 8) = eachP (wordP s (numP 0 0 (l.take 8))) (l.drop 8) ((l.drop 8).length / 8) := by
 rw [show l.length / 8 = (l.drop 8).length / 8 + 1 by rw [List.length_drop]; omega, eachP_step]
theorem eachP_end (s : Sip) (l : List UInt8) (h : l.length < 8) : eachP s l (l.length / 8) = (s, l) := by
 rw [show l.length / 8 = 0 by omega]; rfl
theorem sumP_of (ka kb : Int) (l : List UInt8) (s : Sip) (r : List UInt8) (h : eachP ⟨xr ka 8317987319222330741, xr kb 7237128888997146477, xr ka 7816392313619706465, xr kb 8387220255154660723⟩ l (l.length / 8) = (s, r)) (u : Sip)
  (hu : wordP s (bits .or .u64 (numP 0 0 r) (IntKind.u64.wrap ((l.length : Int) * 72057594037927936))) = u) (v : Sip) (hv : rndI 4 ⟨u.a, u.b, xr u.c 255, u.d⟩ = v) : xr (xr (xr v.a v.b) v.c) v.d = sumP ka kb l := by
 unfold sumP
 rw [h]
 dsimp only
 rw [hu, ← hv]; rfl
set_option maxHeartbeats 4000000 in
theorem ssum_any (S : Nat → Prop) (ka kb : Int) (v : Value) (l : List UInt8) (w : World) (h : Vec w S 1 encB v l) (hl : l.length ≤ 1000000000) :
  Calls Tryz.prog 102 #[.agg #[.int .u64 ka, .int .u64 kb], v] w fun e w' => e = .returned (.int .u64 (sumP ka kb l)) ∧ Below w.heap.size w w' := by
 obtain ⟨a, cap, rfl⟩ := h.slice
 have HV := Lib.hid (h.any.move (S' := fun b => b < w.heap.size) (w' := w) (Nat.le_refl _) fun b hb _ => ⟨rfl, hb⟩); clear h
 go_enter Tryz.func102, Tryz.ntmps102
 go_wp2_with fail
 refine wp_world (fun W hW => ?_)
 have hb0 : Below w.heap.size w W := by rw [hW]; exact ((Below.refl _ _).alloc (Nat.le_refl _) _).alloc (by simp) _
 have hs0 : SipAt W (w.heap.size + 1) ⟨xr ka 8317987319222330741, xr kb 7237128888997146477, xr ka 7816392313619706465, xr kb 8387220255154660723⟩ W := by rw [hW]; exact ⟨blk_new (by simp), grown_refl _ _⟩
 have hv0 := HV.out.below hb0
 clear hW HV
 have HB0 := Lib.hid hb0; have HS0 := Lib.hid hs0; have HV0 := Lib.hid hv0
 clear hb0 hs0 hv0
 go_loopw [1] (fun v wr => ∃ (r : List UInt8) (s : Sip), Vec wr (fun b => b < w.heap.size) 1 encB v r ∧ SipAt W (w.heap.size + 1) s wr ∧ Hid (eachP s r (r.length / 8) = eachP ⟨xr ka 8317987319222330741, xr kb 7237128888997146477, xr ka 7816392313619706465, xr kb 8387220255154660723⟩ l (l.length / 8)) ∧ r.length ≤ l.length) (fun v _ => lenOfV v)
 case atStart => exact ⟨l, _, HV0.out, HS0.out, Lib.hid rfl, Nat.le_refl _⟩
 case round =>
  obtain ⟨r, s, hv, hs, HE, hrl⟩ := hrel
  obtain ⟨ar, cr, rfl⟩ := hv.slice
  have HV := Lib.hid hv; have HS := Lib.hid hs
  have hcr : r.length ≤ cr := hv.len.2
  clear hv hs
  by_cases hlt : 8 ≤ r.length
  ·have hq : decide ((8 : Int) ≤ r.length) = true := by simp; omega
   have hc8 : (8 : Int) ≤ (cr : Int) := by omega
   obtain ⟨ba, oa, rfl, _, _⟩ := HV.out.get 0 (by omega)
   go_wp2_with fail
   refine (snumber_any _ _ (r.take 8) _ (HV.out.taken 8 cr hlt (by omega)) (by simp; omega)).mono ?_
   rintro e wq ⟨rfl, rfl⟩
   go_wp2_with fail
   refine (sword_any _ s _ _ HS.out.1).mono ?_
   rintro e w1 ⟨rfl, hs1⟩
   have HV1 := Lib.hid (HV.out.grown (b := w.heap.size + 1) (fun x hx => by omega) hs1.2)
   have HS1 := Lib.hid (show SipAt W (w.heap.size + 1) (wordP s (numP 0 0 (r.take 8))) w1 from ⟨hs1.1, grown_trans HS.out.2 hs1.2⟩)
   clear hs1 HS HV
   go_wp2_with fail
   go_roundw
   case rel => exact ⟨r.drop 8, _, HV1.out.dropped 8 hlt (cr = 8) (fun h => by omega) (cr - 8) (by omega), HS1.out, Lib.hid (by rw [← HE.out, eachP_more s r hlt]), by rw [List.length_drop]; omega⟩
   case measure => simp only [lenOfV]; omega
  ·have hq : decide ((8 : Int) ≤ r.length) = false := by simp; omega
   have hE := HE.out
   rw [eachP_end s r (by omega)] at hE
   have HE2 := Lib.hid hE.symm
   clear hE HE
   go_wp2_with fail
   refine (snumber_any _ _ r _ HV.out (by omega)).mono ?_
   rintro e wq ⟨rfl, rfl⟩
   go_wp2_with fail
   refine (sword_any _ s _ _ HS.out.1).mono ?_
   rintro e w1 ⟨rfl, hs1⟩
   obtain ⟨u, hu⟩ : ∃ u, wordP s (bits .or .u64 (numP 0 0 r) (IntKind.u64.wrap ((l.length : Int) * 72057594037927936))) = u := ⟨_, rfl⟩
   rw [hu] at hs1
   have HU := Lib.hid hu
   have HS1 := Lib.hid (show SipAt W (w.heap.size + 1) u w1 from ⟨hs1.1, grown_trans HS.out.2 hs1.2⟩)
   clear hs1 HS HV hu
   obtain ⟨⟨c0, c1, c2, c3⟩, f0, f1, f2, f3⟩ := HS1.out.read
   go_wp2_with fail
   have hs2 : SipAt W (w.heap.size + 1) ⟨u.a, u.b, xr u.c 255, u.d⟩ (w1.setCell ⟨w.heap.size + 1, 2, none⟩ (.int .u64 (xr u.c 255))) := HS1.out.set (n := 0) rfl
   refine (rounds_any _ ⟨u.a, u.b, xr u.c 255, u.d⟩ 4 _ hs2.1 (by omega)).mono ?_
   rintro e w2 ⟨rfl, hs3⟩
   obtain ⟨v, hv⟩ : ∃ v, rndI 4 ⟨u.a, u.b, xr u.c 255, u.d⟩ = v := ⟨_, rfl⟩
   rw [hv] at hs3
   have HVv := Lib.hid hv
   have HS3 := Lib.hid (show SipAt W (w.heap.size + 1) v w2 from ⟨hs3.1, grown_trans hs2.2 hs3.2⟩)
   clear hs2 hs3 hv HS1 c0 c1 c2 c3 f0 f1 f2 f3
   obtain ⟨⟨c0, c1, c2, c3⟩, f0, f1, f2, f3⟩ := HS3.out.read
   go_wp2_with fail
   go_ret
   refine ⟨?_, HS3.out.base HB0.out (by omega) HB0.out.size⟩
   rw [← sumP_of ka kb l s r HE2.out u HU.out v HVv.out]
   rfl
end
section
open Go.RowKit
variable {α : Type}
/-- v is a row of elements of type e, in blocks made since wA; what lay in wA is as it was, but for the deck in block D -/
def OwnM (D e size : Nat) (enc : α → List Value) (wA : World) (v : Value) (L : List α) (w : World) : Prop :=
 w.ownsRow wA.heap.size e size v L.length (L.flatMap enc) ∧ Moved D wA w
theorem OwnM.moved {D e size : Nat} {enc : α → List Value} {wA w w' : World} {v : Value} {L : List α} (h : OwnM D e size enc wA v L w) (m : Moved D w w') : OwnM D e size enc wA v L w' := by
 refine ⟨⟨h.1.1, ?_⟩, h.2.trans m⟩
 rcases h.1.2 with h0 | ⟨g, cap, cur, hv, hg, hh, rest⟩
 ·exact .inl h0
 ·exact .inr ⟨g, cap, cur, hv, hg, m.blk (by have := h.2.lt; omega) hh, rest⟩
theorem OwnM.below {D e size : Nat} {enc : α → List Value} {wA w w' : World} {v : Value} {L : List α} (h : OwnM D e size enc wA v L w) (hb : Below w.heap.size w w') : OwnM D e size enc wA v L w' :=
 h.moved ((Moved.start h.2.deck).below hb)
theorem OwnM.nil {D e size : Nat} {enc : α → List Value} {wA w : World} (m : Moved D wA w) : OwnM D e size enc wA (.slice none 0 0) [] w := ⟨⟨by simp, .inl ⟨rfl, rfl⟩⟩, m⟩
theorem OwnM.vec {D e size : Nat} {enc : α → List Value} (hk : ∀ x, (enc x).length = size) {wA w : World} {v : Value} {L : List α} (h : OwnM D e size enc wA v L w) : Vec w (fun b => wA.heap.size ≤ b) size enc v L :=
 Vec.owns hk h.1 fun b hb _ => hb
theorem Moved.grown' {D : Nat} {wA w w' : World} {row : Option Nat} (h : Moved D wA w) (hg : w.grownBy w' row) (hr : ∀ k, row = some k → wA.heap.size ≤ k) : Moved D wA w' := by
 have hlt := h.lt
 refine ⟨⟨hg.os.trans h.grown.os, hg.tape.trans h.grown.tape, hg.output.trans h.grown.output, Nat.le_trans h.size hg.size, fun k hk hne => ?_⟩, h.deck.same fun k hk => hg.block k (by have := h.size; omega) (fun e => by have := hr k e.symm; omega), hlt⟩
 rw [hg.block k (by have := h.size; omega) (fun e => by have := hr k e.symm; omega)]
 exact h.grown.block k hk hne
section
variable {P : Program} {w : World} {o : Oper} {a : Act} {K : Act → World → Prop} {Q : Exit → Act → World → Prop}
theorem wp_append_m (s x : Operand) (t : TypeId) (ho : o.op = .call { callee := .builtin .append, args := #[s, x], argTypes := #[t, t] })
  (D e : Nat) (z : Value) (size bytes : Nat) (enc : α → List Value) (hk : ∀ x, (enc x).length = size) (h1 : ∀ x, ∀ u ∈ enc x, u.oneCell' = true) (ht : P.underlying t = some (.slice e)) (hinfo : (P.info? e).map (fun i => (i.zero, i.size, i.bytes)) = some (some z, size, bytes))
  (hzs : z.cells.size = size) (hsz : 0 < size) (hby : bytes ≤ 128) {wA : World} {v u : Value} {A B : List α} (hs : a.eval s = v) (hown : OwnM D e size enc wA v A w) (hx : a.eval x = u) (hr : Reads w size u B.length (B.flatMap enc)) (hn : A.length + B.length ≤ 1000000000)
  (h : ∀ v' w', OwnM D e size enc wA v' (A ++ B) w' → (∀ k o, some k ≠ v.ownBlock → w.heap[k]? = some o → w'.heap[k]? = some o) → K (a.put o.dst v') w') : Oper.wp P o a w K Q := by
 refine wp_append_reads s x t ho wA.heap.size e z size bytes ht hinfo hzs hsz v A.length (A.flatMap enc) hs hown.1 u B.length (B.flatMap enc) hx hr (fun u hu => ?_) (by unfold maxLen; omega) ?_ hown.2.size ?_
 ·obtain ⟨y, _, hy⟩ := List.mem_flatMap.1 hu
  exact h1 y u hy
 ·exact Nat.le_trans (Nat.mul_le_mul hn hby) (by decide)
 ·intro v' w' ho' hg hat
  refine h v' w' ⟨by rw [List.length_append, List.flatMap_append]; exact ho', hown.2.grown' hg fun k hk => ?_⟩ (fun k o hk hko => (hg.block k (lt_of_blk hko) hk).trans hko)
  rcases hown.1.2 with ⟨rfl, _⟩ | ⟨g, cap, cur, rfl, hg1, _⟩
  ·simp [Value.ownBlock] at hk
  ·have : g = k := by simpa [Value.ownBlock] using hk
   omega
theorem wpList_append_m {ops : Array Oper} {rest : List Oper} (hgd : o.guard = none) (s x : Operand) (t : TypeId) (ho : o.op = .call { callee := .builtin .append, args := #[s, x], argTypes := #[t, t] })
  (D e : Nat) (z : Value) (size bytes : Nat) (enc : α → List Value) (hk : ∀ x, (enc x).length = size) (h1 : ∀ x, ∀ u ∈ enc x, u.oneCell' = true) (ht : P.underlying t = some (.slice e)) (hinfo : (P.info? e).map (fun i => (i.zero, i.size, i.bytes)) = some (some z, size, bytes))
  (hzs : z.cells.size = size) (hsz : 0 < size) (hby : bytes ≤ 128) {wA : World} {v u : Value} {A B : List α} (hs : a.eval s = v) (hown : OwnM D e size enc wA v A w) (hx : a.eval x = u) (hr : Reads w size u B.length (B.flatMap enc)) (hn : A.length + B.length ≤ 1000000000)
  (h : ∀ v' w', OwnM D e size enc wA v' (A ++ B) w' → (∀ k o, some k ≠ v.ownBlock → w.heap[k]? = some o → w'.heap[k]? = some o) → wpList P ops Q rest (a.put o.dst v') w') : wpList P ops Q (o :: rest) a w :=
 wpList_plain hgd fun _ hK => wp_append_m s x t ho D e z size bytes enc hk h1 ht hinfo hzs hsz hby hs hown hx hr hn fun v' w' h2 h3 => hK _ _ (h v' w' h2 h3)
theorem wpList_append_v {ops : Array Oper} {rest : List Oper} (hgd : o.guard = none) (s x : Operand) (t : TypeId) (ho : o.op = .call { callee := .builtin .append, args := #[s, x], argTypes := #[t, t] })
  (e : TypeId) (z : Value) (size bytes : Nat) (enc : α → List Value) (hk : ∀ x, (enc x).length = size) (h1 : ∀ x, ∀ u ∈ enc x, u.oneCell' = true) (ht : P.underlying t = some (.slice e)) (hinfo : (P.info? e).map (fun i => (i.zero, i.size, i.bytes)) = some (some z, size, bytes))
  (hzs : z.cells.size = size) (hsz : 0 < size) (hby : bytes ≤ 128) {w0 : World} {v u : Value} {A B : List α} (hs : a.eval s = v) (hown : OwnV e size enc w0 v A w) (hx : a.eval x = u) (hr : Reads w size u B.length (B.flatMap enc)) (hn : A.length + B.length ≤ 1000000000)
  (h : ∀ v' w', OwnV e size enc w0 v' (A ++ B) w' → (∀ k o, some k ≠ v.ownBlock → w.heap[k]? = some o → w'.heap[k]? = some o) → w.heap.size ≤ w'.heap.size → wpList P ops Q rest (a.put o.dst v') w') : wpList P ops Q (o :: rest) a w :=
 wpList_plain hgd fun _ hK => wp_append_v s x t ho e z size bytes enc hk h1 ht hinfo hzs hsz hby hs hown hx hr hn fun v' w' h2 h3 h4 => hK _ _ (h v' w' h2 h3 h4)
end
end
section
set_option maxRecDepth 100000
open Go.RowKit
theorem flatB (l : List UInt8) : l.flatMap encB = l.map byteV := by
 induction l with
 | nil => rfl
 | cons a l ih => simp only [List.flatMap_cons, List.map_cons, ih]; rfl
theorem strCells_mk (l : List UInt8) : Lib.strCells ⟨l.toArray⟩ = l.flatMap encB := by rw [flatB]; simp [Lib.strCells, byteV]
theorem partP_short (t : List UInt8) (h : t.length ≤ 60000) : partP t = [UInt8.ofNat (t.length / 256), UInt8.ofNat t.length] ++ t := by
 unfold partP
 rw [Nat.min_eq_left (by omega), List.take_of_length_le (by omega)]; rfl
theorem sparts_len (L : List (List UInt8)) (h : ∀ t ∈ L, t.length ≤ 60000) : (L.flatMap partP).length ≤ 60002 * L.length := by
 induction L with
 | nil => simp
 | cons a L ih =>
  have h1 := h a (by simp)
  have h2 := ih fun t ht => h t (by simp [ht])
  rw [List.flatMap_cons, List.length_append, partP_short a h1]
  simp only [List.length_append, List.length_cons, List.length_nil]; omega
theorem reads_row {w : World} {g : Nat} {t : TypeId} {fr : Nat × Nat} {c n : Nat} {xs : List Value} (h : w.heap[g]? = some (.cells xs.toArray t fr)) (hn : n = xs.length) : Reads w 1 (.slice (some ⟨g, 0, none⟩) n c) n xs := by
 subst hn
 exact ⟨_, c, rfl, by omega, fun _ => ⟨_, rfl, fun j u hj => by rw [add_plain, cell_of_row _ _ _ _ _ _ h, Nat.zero_add]; simpa using hj⟩⟩
theorem extract_all (t : List UInt8) : (⟨t.toArray⟩ : ByteArray).extract 0 t.length = ⟨t.toArray⟩ := by
 apply ByteArray.ext; simp [ByteArray.data_extract]
theorem one_encB : ∀ (x : UInt8), ∀ u ∈ encB x, u.oneCell' = true := by intro x u hu; simp [byteV] at hu; subst hu; rfl
theorem cells2K {w : World} {b : Nat} {x y : Value} {t : TypeId} {fr : Nat × Nat} (h : w.heap[b]? = some (.cells #[x, y] t fr)) : w.cell? ⟨b, 0, none⟩ = some x ∧ w.cell? ⟨b, 1, none⟩ = some y := by
 refine ⟨?_, ?_⟩ <;> (rw [cell_of_row _ _ _ _ _ _ h]; rfl)
section
variable {P : Program} {w : World} {ops : Array Oper} {rest : List Oper} {o : Oper} {a : Act} {Q : Exit → Act → World → Prop}
/-- append of a text to a row of bytes -/
theorem wpList_append_s (hgd : o.guard = none) (sl x : Operand) (t u : TypeId) (ho : o.op = .call { callee := .builtin .append, args := #[sl, x], argTypes := #[t, u] })
  (e : TypeId) (ht : P.underlying t = some (.slice e)) (hu : P.underlying u = some .string) (hinfo : (P.info? e).map (fun i => (i.zero, i.size, i.bytes)) = some (some (.int .u8 0), 1, 1)) {w0 : World} {v : Value} {A : List UInt8} (l : List UInt8) (hs : a.eval sl = v)
  (hown : OwnV e 1 encB w0 v A w) (hx : a.eval x = strV l) (hn : A.length + l.length ≤ 1000000000)
  (h : ∀ v' w', OwnV e 1 encB w0 v' (A ++ l) w' → w.heap.size ≤ w'.heap.size → wpList P ops Q rest (a.put o.dst v') w') : wpList P ops Q (o :: rest) a w := by
 obtain ⟨i, hi, hz, h2, h3⟩ := info_parts hinfo
 have hsz : (⟨l.toArray⟩ : ByteArray).size = l.length := by simp [ByteArray.size]
 refine Lib.wpList_append_own_string w hgd sl x t u ho w0.heap.size e i ht hu hi hz h2 h3 v A.length (A.flatMap encB) hs hown.1 ⟨l.toArray⟩ hx (by unfold maxLen; omega) (by omega) hown.2.size ?_
 intro v' w' ho' hg _
 rw [hsz, strCells_mk] at ho'
 refine h v' w' ⟨by rw [List.length_append, List.flatMap_append]; exact ho', hown.2.grown hg hown.2.size fun k hk => ?_⟩ hg.size
 rcases hown.1.2 with ⟨rfl, _⟩ | ⟨g, cap, cur, rfl, hg1, _⟩
 ·simp [Value.ownBlock] at hk
 ·have : g = k := by simpa [Value.ownBlock] using hk
  omega
end
set_option maxHeartbeats 4000000 in
theorem sparts_any (S : Nat → Prop) (ka kb : Int) (v : Value) (L : List (List UInt8)) (w : World) (h : Vec w S 1 encS v L) (hl : ∀ t ∈ L, t.length ≤ 60000) (hn : L.length ≤ 1000) :
  Calls Tryz.prog 69 #[.agg #[.int .u64 ka, .int .u64 kb], v] w fun e w' => e = .returned (.int .u64 (partsP ka kb L)) ∧ Below w.heap.size w w' := by
 obtain ⟨a, cap, rfl⟩ := h.slice
 have HV := Lib.hid h.any; clear h
 have HL := Lib.hid hl; clear hl
 go_enter Tryz.func69, Tryz.ntmps69
 go_wp2_with fail
 refine wp_world (fun W hW => ?_)
 have hb0 : Below w.heap.size w W := by rw [hW]; exact (Below.refl _ _).alloc (Nat.le_refl _) _
 have hk : W.heap[w.heap.size]? = some (.cells #[.int .u64 ka, .int .u64 kb] 108 (0, 0)) := by rw [hW]; exact blk_new rfl
 have HV0 := Lib.hid (HV.out.below hb0)
 have HB0 := Lib.hid hb0; have HK := Lib.hid hk
 clear hW hb0 hk HV
 go_loopw [5, 7, 10] (fun v _ i wr => ∃ k : Nat, i = .int .i64 k ∧ k ≤ L.length ∧ OwnV 5 1 encB W v ((L.take k).flatMap partP) wr) (fun _ _ i _ => L.length - (intOf i).toNat)
 case atStart => exact ⟨0, rfl, by omega, OwnV.start _ _ _ _⟩
 case round =>
  obtain ⟨k, rfl, hk, ho⟩ := hrel
  have HO := Lib.hid ho; clear ho
  by_cases hlt : k < L.length
  ·have hq : decide ((k : Int) < L.length) = true := by simp; omega
   obtain ⟨t, ht⟩ : ∃ t, L[k] = t := ⟨_, rfl⟩
   have htl : t.length ≤ 60000 := HL.out t (by rw [← ht]; exact List.getElem_mem _)
   obtain ⟨b, off, rfl, hb, hc⟩ := (HV0.out.below HO.out.2).get k hlt
   have c0 := hc 0 _ rfl
   rw [Nat.mul_one, Nat.add_zero, ht] at c0
   clear hc
   have hm : min (t.length : Int) 65535 = (t.length : Int) := by omega
   have hx := extract_all t
   obtain ⟨x, ex⟩ : ∃ x, UInt8.ofNat (t.length / 256) = x := ⟨_, rfl⟩
   obtain ⟨y, ey⟩ : ∃ y, UInt8.ofNat t.length = y := ⟨_, rfl⟩
   have hxa : (t.length : Int) / 256 = (x.toNat : Int) := by rw [← ex, UInt8.toNat_ofNat']; omega
   have hya : (t.length : Int) % 256 = (y.toNat : Int) := by rw [← ey, UInt8.toNat_ofNat']; omega
   have hp := partP_short t htl
   rw [ex, ey] at hp
   have hts : L.take (k + 1) = L.take k ++ [t] := by rw [List.take_succ_eq_append_getElem hlt, ht]
   have htk := sparts_len (L.take k) fun u hu => HL.out u (List.mem_of_mem_take hu)
   rw [List.length_take] at htk
   have HP := Lib.hid hp; have HTs := Lib.hid hts
   clear hp hts ex ey
   obtain ⟨P, hP⟩ : ∃ P, (L.take k).flatMap partP = P := ⟨_, rfl⟩
   rw [hP] at HO htk
   have HPP := Lib.hid hP; clear hP
   have HO1 := Lib.hid (HO.out.below ((Below.refl _ _).alloc (Nat.le_refl _) (.cells #[.int .u8 (x.toNat : Int), .int .u8 (y.toNat : Int)] 5)))
   have HR1 := Lib.hid (reads_row (xs := [x, y].flatMap encB) (n := 2) (c := 2) (heap_alloc_new wr (.cells #[.int .u8 (x.toNat : Int), .int .u8 (y.toNat : Int)] 5)) rfl)
   have hz0 := HO.out.2.size
   have hlen : P.length + ([x, y] : List UInt8).length ≤ 1000000000 := by simp only [List.length_cons, List.length_nil]; omega
   have hlen2 : (P ++ [x, y]).length + t.length ≤ 1000000000 := by rw [List.length_append]; simp only [List.length_cons, List.length_nil]; omega
   go_wp2_with (at_builtin; first | (refine wpList_append_v rfl (.tmp 19) (.tmp 27) 69 rfl 5 (.int .u8 0) 1 1 encB (fun _ => rfl) one_encB Tryz.underlying69 infoBy rfl (by decide) (by decide) (w0 := W) (v := u5) (A := P) (B := [x, y]) rfl HO1.out rfl HR1.out hlen ?_; intro v2 w2 ho2 hk2 hz2) | (refine wpList_append_s rfl (.tmp 29) (.tmp 30) 69 9 rfl 5 Tryz.underlying69 Tryz.underlying9 infoBy (w0 := W) (v := v2) (A := P ++ [x, y]) t rfl ho2 rfl hlen2 ?_; intro v3 w3 ho3 hz3))
   go_roundw
   case rel => exact ⟨k + 1, by go_num, by omega, by rw [HTs.out, List.flatMap_append, HPP.out, List.flatMap_cons, List.flatMap_nil, List.append_nil, HP.out, ← List.append_assoc]; exact ho3⟩
   case measure => simp [intOf]; omega
  ·have hq : decide ((k : Int) < L.length) = false := by simp; omega
   have htk := sparts_len L fun u hu => HL.out u hu
   rw [List.take_of_length_le (by omega)] at HO
   have hz0 := HO.out.2.size
   have hk2 : wr.heap[w.heap.size]? = some (.cells #[.int .u64 ka, .int .u64 kb] 108 (0, 0)) := blk_below HO.out.2 (lt_of_blk HK.out) HK.out
   obtain ⟨k0, k1⟩ := cells2K hk2
   go_wp2_with fail
   refine (ssum_any _ ka kb _ (L.flatMap partP) _ (OwnV.vec (size := 1) (enc := encB) (fun _ => rfl) HO.out) (by omega)).mono ?_
   rintro e w2 ⟨rfl, hb2⟩
   go_wp2_with fail
   go_ret
   exact ⟨rfl, HB0.out.trans ((HO.out.2.mono HB0.out.size).trans (hb2.mono (by have := HB0.out.size; omega)))⟩
theorem wpk_name {P : Program} {md : Region.Mode} {ops : Array Oper} {Q : Exit → Act → World → Prop} {S : World → Prop} {k fuel : Nat} {listed : Array Bool} {a : Act} {W : World} (h : ∀ w', w' = W → wpAnyK P md ops Q S k fuel listed a w') : wpAnyK P md ops Q S k fuel listed a W := h W rfl
end
section
set_option maxRecDepth 100000
open Go.RowKit
end
section
set_option maxRecDepth 100000
open Go.RowKit
/-- w' is w, but for blocks that meet T, and for new blocks -/
structure KeptBut (T : Nat → Prop) (w w' : World) : Prop where
 os : w'.os = w.os
 tape : w'.tape = w.tape
 output : w'.output = w.output
 size : w.heap.size ≤ w'.heap.size
 block : ∀ k, k < w.heap.size → ¬ T k → w'.heap[k]? = w.heap[k]?
end
section
set_option maxRecDepth 100000
open Go.RowKit Cal
attribute [local go_sem] toList_mk mk_size
theorem vecF_one {w : World} {A : Nat} {x : F2} (h : w.heap[A]? = some (.cells #[strV x.1, .int .i64 x.2] 62 (0, 0))) : Vec w Any1 2 encF (.slice (some ⟨A, 0, none⟩) 1 1) [x] :=
 ⟨_, 1, rfl, by simp, fun _ => ⟨A, 0, rfl, trivial, lt_of_blk h, fun j y hj i u hu => by
  have hj0 : j = 0 := by
   have := (List.getElem?_eq_some_iff.1 hj).1
   simp at this; exact this
  subst hj0
  simp at hj; subst hj
  rw [cell_of_row _ _ _ _ _ _ h]
  match i, hu with
  | 0, hu => simpa [encF] using hu
  | 1, hu => simpa [encF] using hu
  | i + 2, hu => simp [encF] at hu⟩⟩
/-- a call's world under a name of its own -/
theorem wp_calls_world {P : Program} {f : FuncId} {args : Array Value} {W : World} {K : Ending → World → Prop} (h : ∀ w', w' = W → Calls P f args w' K) : Calls P f args W K := h W rfl
end
section
set_option maxRecDepth 100000
open Go.RowKit
theorem wph_name {P : Program} {md : Region.Mode} {ops : Array Oper} {Q : Exit → Act → World → Prop} {S : World → Prop} {fuel : Nat} {listed : Array Bool} {a : Act} {W : World} (h : ∀ w', w' = W → wpAnyH P md ops Q S fuel listed a w') : wpAnyH P md ops Q S fuel listed a W := h W rfl
end
section
set_option maxRecDepth 100000
open Go.RowKit
attribute [local go_sem] toList_mk mk_size
@[local go_sem] theorem str_append (a b : List UInt8) : (⟨a.toArray⟩ : ByteArray) ++ ⟨b.toArray⟩ = ⟨(a ++ b).toArray⟩ := by
 apply ByteArray.ext; simp
def SomeBool (D : Nat) (w : World) (e : Ending) (w' : World) : Prop := ∃ b : Bool, e = .returned (.bool b) ∧ Moved D w w'
def SomeText (D N : Nat) (w : World) (e : Ending) (w' : World) : Prop := ∃ l : List UInt8, e = .returned (strV l) ∧ l.length ≤ N ∧ Moved D w w'
set_option maxHeartbeats 400000 in
theorem one_any (D : Nat) (w : World) (k : Int) (h : DeckAt w D) (hk : 1 ≤ k) (hk2 : k ≤ 1000000000) :
  Calls Tryz.prog 35 #[.pointer (some ⟨D, 0, none⟩), .int .i64 k] w (SomeBool D w) := by
 go_enter Tryz.func35, Tryz.ntmps35
 go_wp2_with fail
 refine (next_any D _ k h hk hk2).mono ?_
 rintro e w1 ⟨r, rfl, h0, h1, h2⟩
 have H2 := Lib.hid h2; clear h2
 go_wp2_with fail
 go_ret
 exact ⟨_, rfl, H2.out⟩
theorem Vec.moved {α : Type} {D : Nat} {w w' : World} {k : Nat} {enc : α → List Value} {v : Value} {L : List α} (h : Vec w (fun b => b ≠ D) k enc v L) (m : Moved D w w') : Vec w' (fun b => b ≠ D) k enc v L :=
 h.move m.size fun b hb hD => ⟨m.grown.block b hb (by simp; omega), hD⟩
/-- one of some texts -/
def PickPost (D : Nat) (L : List (List UInt8)) (w : World) (e : Ending) (w' : World) : Prop := ∃ l : List UInt8, e = .returned (strV l) ∧ l ∈ L ∧ Moved D w w'
set_option maxHeartbeats 400000 in
theorem pick_any (D : Nat) (w : World) (v : Value) (L : List (List UInt8)) (h : DeckAt w D) (hV : Vec w (fun b => b ≠ D) 1 encS v L) (h1 : 1 ≤ L.length) (h2 : L.length ≤ 1000) :
  Calls Tryz.prog 53 #[.pointer (some ⟨D, 0, none⟩), v] w (PickPost D L w) := by
 obtain ⟨a, cap, rfl⟩ := hV.slice
 have HV := Lib.hid hV
 clear hV
 go_enter Tryz.func53, Tryz.ntmps53
 go_wp2_with fail
 refine (next_any D _ _ h (by omega) (by omega)).mono ?_
 rintro e w1 ⟨r, rfl, r0, r1, mv⟩
 have MV := Lib.hid mv; clear mv
 obtain ⟨r, rfl⟩ := Int.eq_ofNat_of_zero_le r0
 obtain ⟨b, off, rfl, _, hb, hc⟩ := vec_cell1 (HV.out.moved MV.out) (by omega)
 have hr : r < L.length := by omega
 have hc1 := hc r hr
 have hmem : L.getD r [] ∈ L := by rw [List.getD, List.getElem?_eq_getElem hr]; exact List.getElem_mem hr
 obtain ⟨x, hx⟩ : ∃ x, L.getD r [] = x := ⟨_, rfl⟩
 rw [hx] at hc1 hmem
 have HMem := Lib.hid hmem
 clear hc hmem hx
 go_wp2_with fail
 go_ret
 exact ⟨x, rfl, HMem.out, MV.out⟩
end
section
set_option maxRecDepth 100000
open Go.RowKit
attribute [local go_sem] toList_mk mk_size str_append
theorem one_byte (w : World) (a : UInt8) : (convert 69 9 (.slice (some ⟨w.heap.size, 0, none⟩) 1 1)).run Tryz.prog (w.alloc (.cells #[.int .u8 a.toNat] 5)) = .ok (strV [a]) (w.alloc (.cells #[.int .u8 a.toNat] 5)) := by
 have ho : (w.alloc (.cells (([a] : List UInt8).map byteV).toArray 5)).ownsRow 0 5 1 (.slice (some ⟨w.heap.size, 0, none⟩) 1 1) 1 (([a] : List UInt8).map byteV) :=
  ⟨by simp, .inr ⟨_, _, _, rfl, Nat.zero_le _, blk_new rfl, Nat.le_refl _, size_le_maxLen (by omega), by simp, by simp⟩⟩
 exact run_convert_owned [a] ho Tryz.underlying69 Tryz.underlying5 Tryz.underlying9
end
section
set_option maxRecDepth 100000
open Go.RowKit
/-- two beginnings of a text that any rest continues to the same tokens -/
def EqL (a b : List UInt8) : Prop := ∀ r, toksA [] (a ++ r) = toksA [] (b ++ r)
theorem EqL.refl (a : List UInt8) : EqL a a := fun _ => rfl
theorem EqL.app {a b : List UInt8} (h : EqL a b) (c : List UInt8) : EqL (a ++ c) (b ++ c) := fun r => by rw [List.append_assoc, List.append_assoc]; exact h _
theorem EqL.trans {a b c : List UInt8} (h : EqL a b) (h' : EqL b c) : EqL a c := fun r => (h r).trans (h' r)
theorem EqL.lead : EqL [32] [] := fun r => toksA_sp0 r
theorem toksA_two (l : List UInt8) : ∀ p r, toksA p (l ++ 32 :: 32 :: r) = toksA p (l ++ 32 :: r) := by
 induction l with
 | nil =>
  intro p r
  simp only [List.nil_append]
  by_cases hp : p = []
  ·subst hp; rw [toksA_sp0]
  ·rw [toksA_sp _ _ hp, toksA_sp _ _ hp, toksA_sp0]
 | cons c l ih =>
  intro p r
  simp only [List.cons_append]
  by_cases hc : c = 32
  ·subst hc
   by_cases hp : p = []
   ·subst hp; rw [toksA_sp0, toksA_sp0, ih]
   ·rw [toksA_sp _ _ hp, toksA_sp _ _ hp, ih]
  ·rw [toksA_ch _ _ _ hc, toksA_ch _ _ _ hc, ih]
theorem EqL.two (a : List UInt8) : EqL (a ++ [32, 32]) (a ++ [32]) := fun r => by
 rw [List.append_assoc, List.append_assoc]; exact toksA_two a [] r
theorem toksA_last (l : List UInt8) : ∀ p, toksA p (l ++ [32]) = toksA p l := by
 induction l with
 | nil =>
  intro p
  simp only [List.nil_append]
  by_cases hp : p = []
  ·subst hp; rw [toksA_sp0]
  ·rw [toksA_sp _ _ hp, toksA_end _ hp]; rfl
 | cons c l ih =>
  intro p
  simp only [List.cons_append]
  by_cases hc : c = 32
  ·subst hc
   by_cases hp : p = []
   ·subst hp; rw [toksA_sp0, toksA_sp0, ih]
   ·rw [toksA_sp _ _ hp, toksA_sp _ _ hp, ih]
  ·rw [toksA_ch _ _ _ hc, toksA_ch _ _ _ hc, ih]
def allOk (l : List UInt8) : Prop := ∀ b ∈ l, okByte b = true
theorem allOk.app {a b : List UInt8} (h : allOk a) (h' : allOk b) : allOk (a ++ b) := fun c hc => (List.mem_append.1 hc).elim (h c) (h' c)
def plainL (l : List UInt8) : List UInt8 := l.flatMap plainB
theorem plainL_app (a b : List UInt8) : plainL (a ++ b) = plainL a ++ plainL b := List.flatMap_append
theorem byte_pair {a b : UInt8} (h : okByte a = true) : isPair a b = false := by
 rw [ok_iff, decide_eq_true_iff] at h
 rw [pair_iff]; simp; omega
theorem raw_flat (l : List UInt8) (h : allOk l) : rawL l = plainL l ∧ validL l = true := by
 induction l using rawL.induct with
 | case1 => exact ⟨rfl, rfl⟩
 | case2 a => exact ⟨by simp [rawL, plainL], by simp only [validL]; exact h a (by simp)⟩
 | case3 a b r hp ih => exfalso; rw [byte_pair (h a (by simp))] at hp; cases hp
 | case4 a b r hp ih =>
  have hp' := byte_pair (a := a) (b := b) (h a (by simp))
  have := ih fun x hx => h x (List.mem_cons_of_mem _ hx)
  refine ⟨?_, ?_⟩
  ·rw [rawL, hp']; simp only [Bool.false_eq_true, if_false]; rw [this.1]; simp [plainL]
  ·rw [validL, hp']; simp only [Bool.false_eq_true, if_false]; rw [this.2, h a (by simp)]; rfl
/-- what a beginning of a folded text becomes -/
structure DressTo (p o : List UInt8) : Prop where
 ok : allOk o
 eq : EqL (plainL o) p
 len : o.length ≤ 1 + 2 * p.length
/-- a text in another dress -/
structure DressOf (l o : List UInt8) : Prop where
 ok : allOk o
 eq : toks (rawL o) = toks l
 len : o.length ≤ 2 + 2 * l.length
def dressA : List (List UInt8) := [[], [], [32], [45]]
def dressB : List (List UInt8) := [[32], [45], [44, 32], [46], [32, 32], [47]]
def dressC : List (List UInt8) := [[], [], [32], [46]]
theorem allOk_dec {l : List UInt8} (h : l.all okByte = true) : allOk l := List.all_eq_true.1 h
theorem DressTo.start {o : List UInt8} (h : o ∈ dressA) : DressTo [] o := by
 simp [dressA] at h
 rcases h with rfl | rfl | rfl
 ·exact ⟨allOk_dec rfl, EqL.refl _, by simp⟩
 ·exact ⟨allOk_dec rfl, EqL.lead, by simp⟩
 ·exact ⟨allOk_dec rfl, EqL.lead, by simp⟩
theorem DressTo.space {p o x : List UInt8} (h : DressTo p o) (hx : x ∈ dressB) : DressTo (p ++ [32]) (o ++ x) := by
 simp [dressB] at hx
 rcases hx with rfl | rfl | rfl | rfl | rfl | rfl
 ·exact ⟨h.ok.app (allOk_dec rfl), by rw [plainL_app]; exact h.eq.app [32], by have := h.len; simp; omega⟩
 ·exact ⟨h.ok.app (allOk_dec rfl), by rw [plainL_app]; exact h.eq.app [32], by have := h.len; simp; omega⟩
 ·exact ⟨h.ok.app (allOk_dec rfl), by rw [plainL_app]; exact (EqL.two _).trans (h.eq.app [32]), by have := h.len; simp; omega⟩
 ·exact ⟨h.ok.app (allOk_dec rfl), by rw [plainL_app]; exact h.eq.app [32], by have := h.len; simp; omega⟩
 ·exact ⟨h.ok.app (allOk_dec rfl), by rw [plainL_app]; exact (EqL.two _).trans (h.eq.app [32]), by have := h.len; simp; omega⟩
 ·exact ⟨h.ok.app (allOk_dec rfl), by rw [plainL_app]; exact h.eq.app [32], by have := h.len; simp; omega⟩
theorem DressTo.byte {p o : List UInt8} {c x : UInt8} (h : DressTo p o) (hx : okByte x = true) (hp : plainB x = [c]) : DressTo (p ++ [c]) (o ++ [x]) :=
 ⟨h.ok.app (fun b hb => by simp at hb; subst hb; exact hx), by rw [plainL_app, show plainL [x] = [c] by simp [plainL, hp]]; exact h.eq.app [c], by have := h.len; simp; omega⟩
theorem DressTo.mark {p o : List UInt8} {c x : UInt8} (h : DressTo p o) (hx : okByte x = true) (hp : plainB x = [c]) : DressTo (p ++ [c]) (o ++ [x] ++ [39]) :=
 ⟨(h.ok.app (fun b hb => by simp at hb; subst hb; exact hx)).app (allOk_dec rfl), by rw [plainL_app, plainL_app, show plainL [39] = [] from rfl, List.append_nil, show plainL [x] = [c] by simp [plainL, hp]]; exact h.eq.app [c], by have := h.len; simp; omega⟩
theorem DressTo.done {p o x : List UInt8} (h : DressTo p o) (hx : x ∈ dressC) : DressOf p (o ++ x) := by
 have e : ∀ q : List UInt8, toks (plainL o ++ q) = toksA [] (p ++ q) := fun q => h.eq q
 have e0 := h.eq []
 simp only [List.append_nil] at e0
 simp [dressC] at hx
 rcases hx with rfl | rfl | rfl
 ·exact ⟨h.ok.app (allOk_dec rfl), by rw [(raw_flat _ (h.ok.app (allOk_dec rfl))).1, List.append_nil]; exact e0, by have := h.len; simp; omega⟩
 ·exact ⟨h.ok.app (allOk_dec rfl), by rw [(raw_flat _ (h.ok.app (allOk_dec rfl))).1, plainL_app]; exact (e [32]).trans (toksA_last p []), by have := h.len; simp; omega⟩
 ·exact ⟨h.ok.app (allOk_dec rfl), by rw [(raw_flat _ (h.ok.app (allOk_dec rfl))).1, plainL_app]; exact (e [32]).trans (toksA_last p []), by have := h.len; simp; omega⟩
/-- a byte of a folded text that is no space stands for itself -/
theorem plain_self {c : UInt8} (h : okB c = true) : okByte c = true ∧ plainB c = [c] := ⟨ok_byte h, ok_plain h⟩
/-- .. and so does a letter written great -/
theorem plain_up {c : UInt8} (h : isLow c = true) : okByte (c - 32) = true ∧ plainB (c - 32) = [c] := by
 rw [low_iff, decide_eq_true_iff] at h
 have e : (c - 32).toNat = c.toNat - 32 := by
  rw [UInt8.toNat_sub_of_le]
  ·rfl
  ·rw [UInt8.le_iff_toNat_le]; show 32 ≤ _; omega
 have hu : isUp (c - 32) = true := by rw [up_iff, decide_eq_true_iff, e]; omega
 refine ⟨?_, ?_⟩
 ·rw [ok_iff, decide_eq_true_iff, e]; omega
 ·unfold plainB; rw [if_pos hu, UInt8.sub_add_cancel]
end
section
set_option maxRecDepth 100000
open Go.RowKit
def t1L : List (List UInt8) := [[100, 114], [118, 97, 110]]
def n1L : List P2 := [([97, 110, 110, 97], [97, 110, 110]), ([98, 111, 98], [114, 111, 98, 101, 114, 116])]
def s1L : List P2 := [([114, 100], [114, 111, 97, 100]), ([115, 116], [115, 116, 114, 101, 101, 116])]
/-- rules that are dealt -/
structure RulesD (r : RulesL) : Prop where
 t : r.titles = [] ∨ r.titles = t1L
 n : r.nicks = [] ∨ r.nicks = n1L
 s : r.streets = [] ∨ r.streets = s1L
theorem RulesD.check {r : RulesL} (h : RulesD r) : checkR r = 0 := by
 obtain ⟨t, n, s⟩ := r
 obtain ⟨h1, h2, h3⟩ := h
 dsimp only at h1 h2 h3
 rcases h1 with rfl | rfl <;> rcases h2 with rfl | rfl <;> rcases h3 with rfl | rfl <;> decide
def namesD : List (List UInt8) := [[102, 97, 109, 105, 108, 121], [103, 105, 118, 101, 110], [98, 105, 114, 116, 104], [115, 116, 114, 101, 101, 116], [99, 111, 100, 101]]
/-- the first fields of a schema that is dealt -/
structure FieldsD (F : List F2) : Prop where
 len : F.length ≤ 4
 names : F.map (·.1) = namesD.take F.length
 kinds : ∀ x ∈ F, 1 ≤ x.2 ∧ x.2 ≤ 4
theorem FieldsD.nil : FieldsD [] := ⟨by simp, rfl, by simp⟩
theorem FieldsD.snoc {F : List F2} (h : FieldsD F) (hl : F.length < 4) {k : Int} (h1 : 1 ≤ k) (h2 : k ≤ 4) : FieldsD (F ++ [(namesD.getD F.length [], k)]) := by
 refine ⟨by simp; omega, ?_, fun x hx => ?_⟩
 ·have hn : F.length < namesD.length := by show F.length < 5; omega
  rw [List.map_append, h.names, List.length_append, List.length_singleton, List.take_succ_eq_append_getElem hn, List.getD, List.getElem?_eq_getElem hn]
  rfl
 ·rcases List.mem_append.1 hx with hx | hx
  ·exact h.kinds x hx
  ·simp at hx; subst hx; exact ⟨h1, h2⟩
theorem names_ok : ∀ n : Fin 5, ∀ j : Fin n, (wordB (namesD.getD j []) && !(((namesD.take n).take j).any fun x => x == namesD.getD j [])) = true := by decide
theorem FieldsD.check {F : List F2} (h : FieldsD F) (h1 : 1 ≤ F.length) {r : RulesL} (hr : checkR r = 0) : checkS ⟨F, r⟩ = 0 := by
 have hl := h.len
 have hf : fieldsB F = true := by
  refine List.all_eq_true.2 fun j hj => ?_
  have hj' : j < F.length := List.mem_range.1 hj
  have hk := names_ok ⟨F.length, by omega⟩ ⟨j, hj'⟩
  have e1 : (F.getD j default).1 = namesD.getD j [] := by
   have hjn : j < (F.map (·.1)).length := by simpa using hj'
   have : (F.map (·.1)).getD j [] = namesD.getD j [] := by
    rw [h.names, List.getD, List.getElem?_take, if_pos hj', List.getD]
   rw [← this, List.getD, List.getElem?_eq_getElem hj', List.getD, List.getElem?_map, List.getElem?_eq_getElem hj']; rfl
  have e2 : ((F.take j).any fun x => x.1 == (F.getD j default).1) = ((namesD.take F.length).take j).any fun x => x == namesD.getD j [] := by
   rw [e1, ← h.names, ← List.map_take, List.any_map]; rfl
  have hm : F.getD j default ∈ F := by rw [List.getD, List.getElem?_eq_getElem hj']; exact List.getElem_mem hj'
  obtain ⟨k1, k2⟩ := h.kinds _ hm
  unfold fieldAtB
  rw [e2, e1]
  dsimp only at hk
  rw [hk, decide_eq_true k1, decide_eq_true k2]; rfl
 unfold checkS
 rw [if_neg (by dsimp only; omega), if_pos hf]; exact hr
end
section
set_option maxRecDepth 100000
open Go.RowKit
attribute [local go_sem] toList_mk mk_size str_append
theorem blockVec {w : World} {A : Nat} {α : Type} {k : Nat} {enc : α → List Value} (hk : ∀ x, (enc x).length = k) {t : TypeId} {L : List α} {S : Nat → Prop} (h : w.heap[A]? = some (.cells (L.flatMap enc).toArray t (0, 0))) (hS : S A) (n : Nat) (hn : n = L.length) : Vec w S k enc (.slice (some ⟨A, 0, none⟩) n n) L := by
 subst hn
 refine ⟨_, _, rfl, Nat.le_refl _, fun _ => ⟨A, 0, rfl, hS, lt_of_blk h, fun j x hj i u hu => ?_⟩⟩
 have hi : i < k := by rw [← hk x]; exact (List.getElem?_eq_some_iff.1 hu).1
 rw [cell_of_row _ _ _ _ _ _ h, Nat.zero_add, List.getElem?_toArray, flat_get hk L j x hj i hi]
 exact hu
theorem Vec.put {α : Type} {w : World} {S : Nat → Prop} {k : Nat} {enc : α → List Value} {v : Value} {L : List α} (h : Vec w S k enc v L) {a : Addr} (ha : ∀ b, S b → b ≠ a.block) (x : Value) (o : Obj) : Vec ((w.setCell a x).alloc o) S k enc v L :=
 h.move (by simp [World.setCell]) fun b hb hS => ⟨by rw [heap_alloc_old _ _ (by simpa [World.setCell] using hb), heap_setCell_other _ _ _ _ (ha b hS)], hS⟩
theorem Vec.weaken {α : Type} {w : World} {S S' : Nat → Prop} {k : Nat} {enc : α → List Value} {v : Value} {L : List α} (h : Vec w S k enc v L) (hs : ∀ b, S b → S' b) : Vec w S' k enc v L := h.move (Nat.le_refl _) fun b _ h => ⟨rfl, hs b h⟩
theorem set_new (v : World) (a : Addr) (x : Value) (o : Obj) : ((v.setCell a x).alloc o).heap[v.heap.size]? = some o := blk_new (by simp [World.setCell])
theorem Vec.set1 {α : Type} {w : World} {S : Nat → Prop} {k : Nat} {enc : α → List Value} {v : Value} {L : List α} (h : Vec w S k enc v L) {a : Addr} (ha : ∀ b, S b → b ≠ a.block) (x : Value) : Vec (w.setCell a x) S k enc v L :=
 h.move (by simp [World.setCell]) fun b hb hS => ⟨by rw [heap_setCell_other _ _ _ _ (ha b hS)], hS⟩
theorem RulesAt.set3 {w : World} {S : Nat → Prop} {vt vn vs : Value} {r : RulesL} (h : RulesAt w S vt vn vs r) {a b c : Addr} (ha : ∀ k, S k → k ≠ a.block) (hb : ∀ k, S k → k ≠ b.block) (hc : ∀ k, S k → k ≠ c.block) (x y z : Value) : RulesAt (((w.setCell a x).setCell b y).setCell c z) S vt vn vs r :=
 ⟨((h.1.set1 ha x).set1 hb y).set1 hc z, ((h.2.1.set1 ha x).set1 hb y).set1 hc z, ((h.2.2.set1 ha x).set1 hb y).set1 hc z⟩
theorem RulesAt.weaken {w : World} {S S' : Nat → Prop} {vt vn vs : Value} {r : RulesL} (h : RulesAt w S vt vn vs r) (hs : ∀ b, S b → S' b) : RulesAt w S' vt vn vs r := ⟨h.1.weaken hs, h.2.1.weaken hs, h.2.2.weaken hs⟩
/-- while rules are dealt: the result's block, the block of the rules, what these hold -/
def RMid (D : Nat) (w wc : World) : Prop := ∃ vt vn vs r, wc.heap[w.heap.size]? = some (.cells #[.slice none 0 0, .slice none 0 0, .slice none 0 0] 31 (0, 0)) ∧ wc.heap[w.heap.size + 1]? = some (.cells #[vt, vn, vs] 31 (0, 0)) ∧ RulesAt wc (fun b => w.heap.size + 1 < b) vt vn vs r ∧ RulesD r ∧ Moved D w wc
theorem RMid.moved {D : Nat} {w wc wd : World} (h : RMid D w wc) (hD : D < w.heap.size) (m : Moved D wc wd) : RMid D w wd := by
 obtain ⟨vt, vn, vs, r, hz, hy, hr, hd, hm⟩ := h
 refine ⟨vt, vn, vs, r, m.blk (by omega) hz, m.blk (by omega) hy, ?_, hd, hm.trans m⟩
 exact ⟨hr.1.move m.size fun b hb hS => ⟨m.grown.block b hb (by simp; omega), hS⟩, hr.2.1.move m.size fun b hb hS => ⟨m.grown.block b hb (by simp; omega), hS⟩, hr.2.2.move m.size fun b hb hS => ⟨m.grown.block b hb (by simp; omega), hS⟩⟩
theorem rmid_t {D : Nat} {w v : World} {vt vn vs : Value} {r : RulesL} (hD : D < w.heap.size) (hz : v.heap[w.heap.size]? = some (.cells #[.slice none 0 0, .slice none 0 0, .slice none 0 0] 31 (0, 0))) (hy : v.heap[w.heap.size + 1]? = some (.cells #[vt, vn, vs] 31 (0, 0))) (hr : RulesAt v (fun b => w.heap.size + 1 < b) vt vn vs r) (hd : RulesD r) (hm : Moved D w v) :
  RMid D w ((v.setCell ⟨w.heap.size + 1, 0, none⟩ (.slice (some ⟨v.heap.size, 0, none⟩) 2 2)).alloc (.cells (t1L.flatMap encS).toArray 9)) := by
 have h1 := lt_of_blk hy
 refine ⟨_, vn, vs, ⟨t1L, r.nicks, r.streets⟩, blk_old (blk_far hz (by simp)), blk_old (blk_set hy), ⟨blockVec (k := 1) (enc := encS) (L := t1L) (S := fun b => w.heap.size + 1 < b) (A := v.heap.size) (fun _ => rfl) (set_new _ _ _ _) (by omega) 2 rfl, hr.2.1.put (fun b h => by simp at h ⊢; omega) _ _, hr.2.2.put (fun b h => by simp at h ⊢; omega) _ _⟩, ⟨.inr rfl, hd.n, hd.s⟩, (hm.set (by simp) _).alloc _⟩
theorem rmid_n {D : Nat} {w v : World} {vt vn vs : Value} {r : RulesL} (hD : D < w.heap.size) (hz : v.heap[w.heap.size]? = some (.cells #[.slice none 0 0, .slice none 0 0, .slice none 0 0] 31 (0, 0))) (hy : v.heap[w.heap.size + 1]? = some (.cells #[vt, vn, vs] 31 (0, 0))) (hr : RulesAt v (fun b => w.heap.size + 1 < b) vt vn vs r) (hd : RulesD r) (hm : Moved D w v) :
  RMid D w ((v.setCell ⟨w.heap.size + 1, 1, none⟩ (.slice (some ⟨v.heap.size, 0, none⟩) 2 2)).alloc (.cells (n1L.flatMap encP).toArray 103)) := by
 have h1 := lt_of_blk hy
 refine ⟨vt, _, vs, ⟨r.titles, n1L, r.streets⟩, blk_old (blk_far hz (by simp)), blk_old (blk_set hy), ⟨hr.1.put (fun b h => by simp at h ⊢; omega) _ _, blockVec (k := 2) (enc := encP) (L := n1L) (S := fun b => w.heap.size + 1 < b) (A := v.heap.size) (fun _ => rfl) (set_new _ _ _ _) (by omega) 2 rfl, hr.2.2.put (fun b h => by simp at h ⊢; omega) _ _⟩, ⟨hd.t, .inr rfl, hd.s⟩, (hm.set (by simp) _).alloc _⟩
theorem rmid_s {D : Nat} {w v : World} {vt vn vs : Value} {r : RulesL} (hD : D < w.heap.size) (hz : v.heap[w.heap.size]? = some (.cells #[.slice none 0 0, .slice none 0 0, .slice none 0 0] 31 (0, 0))) (hy : v.heap[w.heap.size + 1]? = some (.cells #[vt, vn, vs] 31 (0, 0))) (hr : RulesAt v (fun b => w.heap.size + 1 < b) vt vn vs r) (hd : RulesD r) (hm : Moved D w v) :
  RMid D w ((v.setCell ⟨w.heap.size + 1, 2, none⟩ (.slice (some ⟨v.heap.size, 0, none⟩) 2 2)).alloc (.cells (s1L.flatMap encP).toArray 103)) := by
 have h1 := lt_of_blk hy
 refine ⟨vt, vn, _, ⟨r.titles, r.nicks, s1L⟩, blk_old (blk_far hz (by simp)), blk_old (blk_set hy), ⟨hr.1.put (fun b h => by simp at h ⊢; omega) _ _, hr.2.1.put (fun b h => by simp at h ⊢; omega) _ _, blockVec (k := 2) (enc := encP) (L := s1L) (S := fun b => w.heap.size + 1 < b) (A := v.heap.size) (fun _ => rfl) (set_new _ _ _ _) (by omega) 2 rfl⟩, ⟨hd.t, hd.n, .inr rfl⟩, (hm.set (by simp) _).alloc _⟩
def RulesPost (D : Nat) (w : World) (e : Ending) (w' : World) : Prop := ∃ vt vn vs r, e = .returned (.agg #[vt, vn, vs]) ∧ RulesAt w' (fun b => w.heap.size ≤ b) vt vn vs r ∧ RulesD r ∧ Moved D w w'
set_option maxHeartbeats 8000000 in
theorem rules_deal (D : Nat) (w : World) (h : DeckAt w D) :
  Calls Tryz.prog 34 #[.pointer (some ⟨D, 0, none⟩)] w (RulesPost D w) := by
 have zD := h.lt
 have HD := Lib.hid h
 clear h
 go_enter Tryz.func34, Tryz.ntmps34
 go_wp2_with fail
 have K := Lib.hid (show RMid D w ((w.alloc (.cells #[.slice none 0 0, .slice none 0 0, .slice none 0 0] 31)).alloc (.cells #[.slice none 0 0, .slice none 0 0, .slice none 0 0] 31)) from
  ⟨_, _, _, ⟨[], [], []⟩, blk_old (blk_new rfl), blk_new (by simp), ⟨Vec.nil _ _ _ _, Vec.nil _ _ _ _, Vec.nil _ _ _ _⟩, ⟨.inl rfl, .inl rfl, .inl rfl⟩, ((Moved.start HD.out).alloc _).alloc _⟩)
 refine (one_any D _ 2 (by obtain ⟨_, _, _, _, _, _, _, _, m⟩ := K.out; exact m.deck) (by omega) (by omega)).mono ?_
 rintro e v0 ⟨u, rfl, mv⟩
 have K0 := Lib.hid (K.out.moved zD mv)
 clear K mv
 go_upto_if 5 with fail
 go_cut [] (fun wc => RMid D w wc)
 case first =>
  obtain ⟨vt, vn, vs, r, hz, hy, hr, hd, hm⟩ := K0.out
  have HZ := Lib.hid hz; have HY := Lib.hid hy; have HR := Lib.hid hr; have HDd := Lib.hid hd; have HM := Lib.hid hm
  obtain ⟨c0, c1, c2⟩ := cells3 hy; obtain ⟨f0, f1, f2⟩ := free3 hy
  have q := lt_of_blk hy
  clear hz hy hr hd hm
  cases u
  ·go_wp2_with fail
   go_meet
   exact K0.out
  ·go_wp2_with fail
   go_meet
   exact rmid_t zD HZ.out HY.out HR.out HDd.out HM.out
 case rest =>
  have K1 := Lib.hid hcut; clear hcut K0
  go_wp2_with fail
  refine (one_any D _ 2 (by obtain ⟨_, _, _, _, _, _, _, _, m⟩ := K1.out; exact m.deck) (by omega) (by omega)).mono ?_
  rintro e v1 ⟨u, rfl, mv⟩
  have K2 := Lib.hid (K1.out.moved zD mv)
  clear K1 mv
  go_upto_if 9 with fail
  go_cut [] (fun wc => RMid D w wc)
  case first =>
   obtain ⟨vt, vn, vs, r, hz, hy, hr, hd, hm⟩ := K2.out
   have HZ := Lib.hid hz; have HY := Lib.hid hy; have HR := Lib.hid hr; have HDd := Lib.hid hd; have HM := Lib.hid hm
   obtain ⟨c0, c1, c2⟩ := cells3 hy; obtain ⟨f0, f1, f2⟩ := free3 hy
   have q := lt_of_blk hy
   clear hz hy hr hd hm
   cases u
   ·go_wp2_with fail
    go_meet
    exact K2.out
   ·go_wp2_with fail
    go_meet
    exact rmid_n zD HZ.out HY.out HR.out HDd.out HM.out
  case rest =>
   have K3 := Lib.hid hcut; clear hcut K2
   go_wp2_with fail
   refine (one_any D _ 2 (by obtain ⟨_, _, _, _, _, _, _, _, m⟩ := K3.out; exact m.deck) (by omega) (by omega)).mono ?_
   rintro e v2 ⟨u, rfl, mv⟩
   have K4 := Lib.hid (K3.out.moved zD mv)
   clear K3 mv
   go_upto_if 15 with fail
   go_cut [] (fun wc => RMid D w wc)
   case first =>
    obtain ⟨vt, vn, vs, r, hz, hy, hr, hd, hm⟩ := K4.out
    have HZ := Lib.hid hz; have HY := Lib.hid hy; have HR := Lib.hid hr; have HDd := Lib.hid hd; have HM := Lib.hid hm
    obtain ⟨c0, c1, c2⟩ := cells3 hy; obtain ⟨f0, f1, f2⟩ := free3 hy
    have q := lt_of_blk hy
    clear hz hy hr hd hm
    cases u
    ·go_wp2_with fail
     go_meet
     exact K4.out
    ·go_wp2_with fail
     go_meet
     exact rmid_s zD HZ.out HY.out HR.out HDd.out HM.out
   case rest =>
    obtain ⟨vt, vn, vs, r, hz, hy, hr, hd, hm⟩ := hcut
    obtain ⟨at', ct, rfl⟩ := hr.1.slice
    obtain ⟨an, cn, rfl⟩ := hr.2.1.slice
    obtain ⟨as', cs, rfl⟩ := hr.2.2.slice
    have HZ := Lib.hid hz; have HY := Lib.hid hy; have HR := Lib.hid hr; have HDd := Lib.hid hd; have HM := Lib.hid hm
    obtain ⟨c0, c1, c2⟩ := cells3 hy; obtain ⟨f0, f1, f2⟩ := free3 hy
    obtain ⟨d0, d1, d2⟩ := cells3 hz; obtain ⟨g0, g1, g2⟩ := free3 hz
    have q := lt_of_blk hy; have q' := lt_of_blk hz
    clear hz hy hr hd hm K4
    go_wp2_with fail
    have hz := blk_set (i := 2) (v := .slice as' r.streets.length cs) (blk_set (i := 1) (v := .slice an r.nicks.length cn) (blk_set (i := 0) (v := .slice at' r.titles.length ct) HZ.out))
    have hm := ((HM.out.set (a := ⟨w.heap.size, 0, none⟩) (Nat.le_refl _) (.slice at' r.titles.length ct)).set (a := ⟨w.heap.size, 1, none⟩) (Nat.le_refl _) (.slice an r.nicks.length cn)).set (a := ⟨w.heap.size, 2, none⟩) (Nat.le_refl _) (.slice as' r.streets.length cs)
    have hr := HR.out.set3 (a := ⟨w.heap.size, 0, none⟩) (b := ⟨w.heap.size, 1, none⟩) (c := ⟨w.heap.size, 2, none⟩) (fun b h => by simp at h ⊢; omega) (fun b h => by simp at h ⊢; omega) (fun b h => by simp at h ⊢; omega) (.slice at' r.titles.length ct) (.slice an r.nicks.length cn) (.slice as' r.streets.length cs)
    exact bodyPost_row1 rfl rfl hz Tryz.underlying31 rfl (by kernel_rfl) ⟨_, _, _, r, rfl, hr.weaken fun b h => by have h' : w.heap.size + 1 < b := h; show w.heap.size ≤ b; omega, HDd.out, hm⟩
end
end Go.Proofs.YthnfmolkppbbpaaGreatDoor
section
namespace Go.Proofs
open Go.Shelf
def Tryz.lays171_ren : Go.Shelf.Ren := ⟨fun | 171 => 39 | 243 => 71 | 246 => 105 | 283 => 137 | 284 => 138 | 285 => 139 | 286 => 140 | 129 => 186 | 317 => 185 | 318 => 187 | 319 => 188 | 320 => 189 | 337 => 221 | 338 => 222 | n => n, fun | 3 => 3 | 9 => 9 | 2 => 2 | 4 => 4 | 171 => 155 | 0 => 0 | 53 => 63 | 37 => 69 | 5 => 5 | 173 => 158 | 212 => 187 | 51 => 164 | 20 => 20 | 213 => 188 | 46 => 87 | 232 => 227 | 233 => 228 | n => n, fun | 17 => 1 | 18 => 4 | 19 => 5 | n => n⟩
theorem Tryz.lays171 : Go.Proofs.Lays.n171 Tryz.prog Tryz.lays171_ren := {
 mixed := by kernel_rfl
 f129 := Tryz.func186.trans (congrArg some (by kernel_rfl))
 f171 := Tryz.func39.trans (congrArg some (by kernel_rfl))
 f243 := Tryz.func71.trans (congrArg some (by kernel_rfl))
 f246 := Tryz.func105.trans (congrArg some (by kernel_rfl))
 f283 := Tryz.func137.trans (congrArg some (by kernel_rfl))
 f284 := Tryz.func138.trans (congrArg some (by kernel_rfl))
 f285 := Tryz.func139.trans (congrArg some (by kernel_rfl))
 f286 := Tryz.func140.trans (congrArg some (by kernel_rfl))
 f317 := Tryz.func185.trans (congrArg some (by kernel_rfl))
 f318 := Tryz.func187.trans (congrArg some (by kernel_rfl))
 f319 := Tryz.func188.trans (congrArg some (by kernel_rfl))
 f320 := Tryz.func189.trans (congrArg some (by kernel_rfl))
 f337 := Tryz.func221.trans (congrArg some (by kernel_rfl))
 f338 := Tryz.func222.trans (congrArg some (by kernel_rfl))
 t0 := Tryz.underlying0
 a0 := Tryz.isAgg0
 z0 := Tryz.sizeOf0
 v0 := Tryz.zeroValue0
 t2 := Tryz.underlying2
 a2 := Tryz.isAgg2
 z2 := Tryz.sizeOf2
 v2 := Tryz.zeroValue2
 t3 := Tryz.underlying3
 a3 := Tryz.isAgg3
 z3 := Tryz.sizeOf3
 v3 := Tryz.zeroValue3
 t4 := Tryz.underlying4
 a4 := Tryz.isAgg4
 z4 := Tryz.sizeOf4
 v4 := Tryz.zeroValue4
 t5 := Tryz.underlying5
 a5 := Tryz.isAgg5
 z5 := Tryz.sizeOf5
 v5 := Tryz.zeroValue5
 t9 := Tryz.underlying9
 a9 := Tryz.isAgg9
 z9 := Tryz.sizeOf9
 v9 := Tryz.zeroValue9
 t20 := Tryz.underlying20
 a20 := Tryz.isAgg20
 z20 := Tryz.sizeOf20
 v20 := Tryz.zeroValue20
 t37 := Tryz.underlying69
 a37 := Tryz.isAgg69
 z37 := Tryz.sizeOf69
 v37 := Tryz.zeroValue69
 t46 := Tryz.underlying87
 a46 := Tryz.isAgg87
 z46 := Tryz.sizeOf87
 v46 := Tryz.zeroValue87
 t51 := Tryz.underlying164
 a51 := Tryz.isAgg164
 z51 := Tryz.sizeOf164
 v51 := Tryz.zeroValue164
 t53 := Tryz.underlying63
 a53 := Tryz.isAgg63
 z53 := Tryz.sizeOf63
 v53 := Tryz.zeroValue63
 t171 := Tryz.underlying155
 a171 := Tryz.isAgg155
 z171 := Tryz.sizeOf155
 v171 := Tryz.zeroValue155
 t173 := Tryz.underlying158
 a173 := Tryz.isAgg158
 z173 := Tryz.sizeOf158
 v173 := Tryz.zeroValue158
 t212 := Tryz.underlying187
 a212 := Tryz.isAgg187
 z212 := Tryz.sizeOf187
 v212 := Tryz.zeroValue187
 t213 := Tryz.underlying188
 a213 := Tryz.isAgg188
 z213 := Tryz.sizeOf188
 t232 := Tryz.underlying227
 a232 := Tryz.isAgg227
 z232 := Tryz.sizeOf227
 v232 := Tryz.zeroValue227
 t233 := Tryz.underlying228
 a233 := Tryz.isAgg228
 z233 := Tryz.sizeOf228
 v233 := Tryz.zeroValue228
 g17 := by kernel_rfl
 g18 := by kernel_rfl
 g19 := by kernel_rfl }
open Go.RowKit Go.Sort Go.Lib in
/-- THE ROAD WITHOUT THE TABLE: 0 <= i < 100: NO PREMISE ON THE WORLD, AND THE WORLD IS AS IT WAS: a row that keeps its argument in that range need list no table ('laid = []'). (LAID: no walk: one application.) -/
theorem Tryz.strconv_Itoa_small (i : Nat) (hi : i < 100) (w : World) :
  Calls Tryz.prog 39 #[.int .i64 i] w fun e w' => e = .returned (.string ⟨(Lib.decDigits i).toArray⟩) ∧ w' = w := Any.strconv_Itoa_small Tryz.lays171 i hi w
end Go.Proofs
end
namespace Go.Proofs.YthnfmolkppbbpaaGreatDoor
section
set_option maxRecDepth 100000
open Go.RowKit
attribute [local go_sem] toList_mk mk_size str_append
def DressPost (D : Nat) (l : List UInt8) (w : World) (e : Ending) (w' : World) : Prop := ∃ o : List UInt8, e = .returned (strV o) ∧ DressOf l o ∧ Moved D w w'
/-- texts that have just been laid into a new block, to pick from -/
theorem pick_new (D : Nat) (w w0 : World) (L : List (List UInt8)) (n : Nat) (hn : n = L.length) (h1 : 1 ≤ n) (h2 : n ≤ 1000) (m : Moved D w0 w) :
  Calls Tryz.prog 53 #[.pointer (some ⟨D, 0, none⟩), .slice (some ⟨w.heap.size, 0, none⟩) n n] (w.alloc (.cells (L.flatMap encS).toArray 9)) (PickPost D L w0) := by
 have hD := m.deck.lt
 have m2 := m.alloc (.cells (L.flatMap encS).toArray 9)
 exact (pick_any D _ _ L m2.deck (blockVec (k := 1) (enc := encS) (L := L) (S := fun b => b ≠ D) (A := w.heap.size) (fun _ => rfl) (blk_new rfl) (by omega) n hn) (by omega) (by omega)).mono fun _ _ ⟨l, he, hl, hm⟩ => ⟨l, he, hl, m2.trans hm⟩
theorem dressB_len {x : List UInt8} (h : x ∈ dressB) : x.length ≤ 2 := by
 simp [dressB] at h
 rcases h with rfl | rfl | rfl | rfl | rfl | rfl <;> simp
theorem dressC_len {x : List UInt8} (h : x ∈ dressC) : x.length ≤ 2 := by
 simp [dressC] at h
 rcases h with rfl | rfl | rfl <;> simp
/-- how far a text has been dressed -/
def DressMid (D : Nat) (w : World) (l : List UInt8) (k : Nat) (ol : List UInt8) (wr : World) : Prop := DressTo (l.take k) ol ∧ Moved D w wr
set_option maxHeartbeats 4000000 in
theorem dress_any (D : Nat) (s : ByteArray) (w : World) (h : DeckAt w D) (hs : ∀ b ∈ s.data.toList, okB b = true) (hn : s.size ≤ 1000) :
  Calls Tryz.prog 54 #[.pointer (some ⟨D, 0, none⟩), .string s] w (DressPost D s.data.toList w) := by
 have hl : s.data.toList.length = s.size := by simp
 have HL := Lib.hid hl; clear hl
 have HS := Lib.hid hs; clear hs
 have M0 := Lib.hid (Moved.start h); clear h
 go_enter Tryz.func54, Tryz.ntmps54
 go_wp2_with fail
 refine (pick_new D _ w dressA 4 rfl (by omega) (by omega) M0.out).mono ?_
 rintro e w1 ⟨o, rfl, ho, mv⟩
 have K0 := Lib.hid (show DressMid D w s.data.toList 0 o w1 from ⟨DressTo.start ho, mv⟩)
 clear ho mv
 go_wp2_with fail
 go_loopw [5, 6] (fun v i wr => ∃ (k : Nat) (ol : List UInt8), v = strV ol ∧ i = .int .i64 k ∧ k ≤ s.size ∧ DressMid D w s.data.toList k ol wr) (fun _ i _ => s.size - (intOf i).toNat)
 case atStart => exact ⟨0, o, rfl, rfl, by omega, K0.out⟩
 case round =>
  obtain ⟨k, ol, rfl, rfl, hk, hm⟩ := hrel
  have HT := Lib.hid hm.1; have M1 := Lib.hid hm.2
  have hol : ol.length ≤ 2001 := by have := hm.1.len; have := List.length_take_le k s.data.toList; omega
  clear hm K0
  by_cases hlt : k < s.size
  ·have hq : decide ((k : Int) < s.size) = true := by simp; omega
   have ht := Lib.hid (take_snoc' s k hlt)
   have hok := Lib.hid (HS.out s[k] (by rw [show s[k] = s.data.toList[k]'(by rw [HL.out]; exact hlt) from rfl]; exact List.getElem_mem _))
   have hb := s[k].toNat_lt
   by_cases hsp : s[k] = 32
   ·have e1 : ((s[k].toNat : Int) == 32) = true := by rw [hsp]; rfl
    have HSp := Lib.hid hsp; clear hsp
    go_wp2_with fail
    refine (pick_new D _ w dressB 6 rfl (by omega) (by omega) M1.out).mono ?_
    rintro e w2 ⟨x, rfl, hx, mv⟩
    have hxl := dressB_len hx
    have K1 := Lib.hid (show DressMid D w s.data.toList (k + 1) (ol ++ x) w2 from ⟨by rw [ht.out, HSp.out]; exact HT.out.space hx, mv⟩)
    clear hx mv e1
    go_wp2_with fail
    go_roundw
    case rel => exact ⟨k + 1, ol ++ x, rfl, by go_num, by omega, K1.out⟩
    case measure => simp [intOf]; omega
   ·have e1 : ((s[k].toNat : Int) == 32) = false := by
     simp only [beq_eq_false_iff_ne, ne_eq]; intro e; apply hsp; rw [← UInt8.toNat_inj]; simp; omega
    clear hsp
    go_upto_block 2 with (fail)
    go_cut [5, 7] (fun s5 s7 wx => ∃ x : UInt8, s5 = strV ol ∧ s7 = .int .u8 x.toNat ∧ okByte x = true ∧ plainB x = [s[k]] ∧ Moved D w wx)
    case first =>
     cases hlo : isLow s[k]
     ·have hc := hlo
      rw [low_iff, decide_eq_false_iff_not] at hc
      have hc' : (97 ≤ (s[k].toNat : Int) ∧ 122 < (s[k].toNat : Int)) ∨ (s[k].toNat : Int) < 97 := by omega
      clear hc hlo
      rcases hc' with ⟨g1, g2⟩ | g1
      all_goals
       go_wp2_with fail
       go_meet
       exact ⟨s[k], rfl, rfl, (plain_self hok.out).1, (plain_self hok.out).2, M1.out⟩
     ·have hup := Lib.hid (plain_up hlo)
      have hc := hlo
      rw [low_iff, decide_eq_true_iff] at hc
      obtain ⟨g1, g2⟩ := hc
      have e2 : ((s[k] - 32).toNat : Int) = (s[k].toNat : Int) - 32 := by
       rw [UInt8.toNat_sub_of_le _ _ (by rw [UInt8.le_iff_toNat_le]; show 32 ≤ _; omega)]
       show ((s[k].toNat - 32 : Nat) : Int) = _
       omega
      have HE := Lib.hid e2; clear hlo e2
      go_wp2_with fail
      refine (one_any D _ 3 M1.out.deck (by omega) (by omega)).mono ?_
      rintro e w2 ⟨u, rfl, mv⟩
      have M2 := Lib.hid (M1.out.trans mv); clear mv
      cases u
      ·go_wp2_with fail
       go_meet
       exact ⟨s[k], rfl, rfl, (plain_self hok.out).1, (plain_self hok.out).2, M2.out⟩
      ·go_wp2_with fail
       go_meet
       exact ⟨s[k] - 32, rfl, by rw [HE.out], hup.out.1, hup.out.2, M2.out⟩
    case rest =>
     obtain ⟨x, rfl, rfl, hx1, hx2, m3⟩ := hcut
     have HX1 := Lib.hid hx1; have HX2 := Lib.hid hx2; have M3 := Lib.hid m3
     clear hx1 hx2 m3
     have hcv := one_byte wc x
     go_wp2_with fail
     refine (one_any D _ 20 (M3.out.alloc _).deck (by omega) (by omega)).mono ?_
     rintro e w2 ⟨u, rfl, mv⟩
     have M4 := Lib.hid ((M3.out.alloc _).trans mv)
     have K1 := Lib.hid (show DressMid D w s.data.toList (k + 1) (ol ++ [x]) w2 from ⟨by rw [ht.out]; exact HT.out.byte HX1.out HX2.out, M4.out⟩)
     have K2 := Lib.hid (show DressMid D w s.data.toList (k + 1) (ol ++ [x] ++ [39]) w2 from ⟨by rw [ht.out]; exact HT.out.mark HX1.out HX2.out, M4.out⟩)
     clear mv hcv
     cases u
     ·go_wp2_with fail
      go_roundw
      case rel => exact ⟨k + 1, ol ++ [x], rfl, by go_num, by omega, K1.out⟩
      case measure => simp [intOf]; omega
     ·by_cases h2 : k + 1 < s.size
      ·have e2 : decide ((k : Int) + 1 < s.size) = true := by simp; omega
       by_cases hs2 : s[k + 1] = 32
       ·have e3 : ((s[k + 1].toNat : Int) != 32) = false := by rw [hs2]; rfl
        clear hs2
        go_wp2_with fail
        go_roundw
        case rel => exact ⟨k + 1, ol ++ [x], rfl, by go_num, by omega, K1.out⟩
        case measure => simp [intOf]; omega
       ·have e3 : ((s[k + 1].toNat : Int) != 32) = true := by
         simp only [bne_iff_ne, ne_eq]; intro e; apply hs2; rw [← UInt8.toNat_inj]; simp; omega
        clear hs2
        go_wp2_with fail
        go_roundw
        case rel => exact ⟨k + 1, ol ++ [x] ++ [39], by simp, by go_num, by omega, K2.out⟩
        case measure => simp [intOf]; omega
      ·have e2 : decide ((k : Int) + 1 < s.size) = false := by simp; omega
       go_wp2_with fail
       go_roundw
       case rel => exact ⟨k + 1, ol ++ [x], rfl, by go_num, by omega, K1.out⟩
       case measure => simp [intOf]; omega
  ·have hq : decide ((k : Int) < s.size) = false := by simp; omega
   rw [List.take_of_length_le (by rw [HL.out]; omega)] at HT
   go_wp2_with fail
   refine (pick_new D _ w dressC 4 rfl (by omega) (by omega) M1.out).mono ?_
   rintro e w2 ⟨x, rfl, hx, mv⟩
   have hxl := dressC_len hx
   have M2 := Lib.hid mv; have HO := Lib.hid (HT.out.done hx)
   clear mv hx
   go_wp2_with fail
   go_ret
   exact ⟨ol ++ x, rfl, HO.out, M2.out⟩
end
section
set_option maxRecDepth 100000
open Go.RowKit
attribute [local go_sem] toList_mk mk_size str_append
def codesD : List (List UInt8) := [[83, 87, 49, 32, 49, 65, 65], [56, 48, 48, 49], [56, 48, 32, 48, 50], [97, 45, 49]]
def addrsD : List (List UInt8) := [[49, 50, 32, 77, 97, 105, 110, 32, 83, 116, 46], [77, 97, 105, 110, 32, 83, 116, 32, 49, 50], [80, 97, 114, 107, 32, 82, 100, 32, 51, 98], [77, 97, 105, 110, 32, 83, 116, 114, 101, 101, 116], [48, 48, 55, 32, 80, 97, 114, 107, 32, 114, 100]]
def peopleD : List (List UInt8) := [[114, 111, 98, 101, 114, 116, 32, 115, 109, 105, 116, 104], [98, 111, 98, 32, 115, 109, 105, 116, 104], [114, 117, 112, 101, 114, 116], [97, 110, 110, 97, 32, 109, 105, 108, 108, 101, 114], [97, 110, 110], [111, 110, 101, 105, 108, 108], [109, 97, 114, 105, 97, 32, 118, 97, 110, 32, 115, 109, 105, 116, 104], [112, 101, 116, 101, 114]]
theorem pick_le {D N : Nat} {L : List (List UInt8)} {w w' : World} {e : Ending} (h : PickPost D L w e w') (hL : (L.all fun t => decide (t.length ≤ N)) = true) : SomeText D N w e w' := by
 obtain ⟨l, he, hl, hm⟩ := h
 exact ⟨l, he, by simpa using List.all_eq_true.1 hL l hl, hm⟩
theorem people_ok {x : List UInt8} (h : x ∈ peopleD) : (∀ b ∈ x, okB b = true) ∧ x.length ≤ 15 := by
 have : (peopleD.all fun t => t.all okB && decide (t.length ≤ 15)) = true := by decide
 have := List.all_eq_true.1 this x h
 rw [Bool.and_eq_true, List.all_eq_true, decide_eq_true_iff] at this
 exact this
theorem written_len (y m d f : Int) : (writtenL y m d f).length = 10 := by
 unfold writtenL
 split
 ·simp [dg_len]
 ·split <;> simp [dg_len]
set_option maxHeartbeats 4000000 in
theorem raw_deal (D : Nat) (k : Int) (w : World) (h : DeckAt w D) :
  Calls Tryz.prog 22 #[.pointer (some ⟨D, 0, none⟩), .int .i64 k] w (SomeText D 64 w) := by
 have M0 := Lib.hid (Moved.start h); clear h
 by_cases h2 : k = 2
 ·subst h2
  go_enter Tryz.func22, Tryz.ntmps22
  go_wp2_with fail
  refine (one_any D _ 8 M0.out.deck (by omega) (by omega)).mono ?_
  rintro e w1 ⟨u, rfl, mv⟩
  have M1 := Lib.hid (M0.out.trans mv); clear mv
  cases u
  ·go_wp2_with fail
   refine (next_any D _ 2 M1.out.deck (by omega) (by omega)).mono ?_
   rintro e w2 ⟨y, rfl, y0, y1, mv⟩
   have M2 := Lib.hid (M1.out.trans mv); clear mv
   go_wp2_with fail
   refine (next_any D _ 3 M2.out.deck (by omega) (by omega)).mono ?_
   rintro e w3 ⟨m, rfl, m0, m1, mv⟩
   have M3 := Lib.hid (M2.out.trans mv); clear mv
   go_wp2_with fail
   refine (next_any D _ 3 M3.out.deck (by omega) (by omega)).mono ?_
   rintro e w4 ⟨d, rfl, d0, d1, mv⟩
   have M4 := Lib.hid (M3.out.trans mv); clear mv
   go_wp2_with fail
   refine (next_any D _ 3 M4.out.deck (by omega) (by omega)).mono ?_
   rintro e w5 ⟨f, rfl, f0, f1, mv⟩
   have M5 := Lib.hid (M4.out.trans mv); clear mv
   go_wp2_with fail
   refine (written_any (1980 + y) (1 + m) (1 + d) f _ (by omega) (by omega)).mono ?_
   rintro e w6 ⟨rfl, hb⟩
   have M6 := Lib.hid (M5.out.below hb); clear hb
   go_wp2_with fail
   go_ret
   exact ⟨_, rfl, by rw [written_len]; omega, M6.out⟩
  ·go_wp2_with fail
   go_ret
   exact ⟨[], rfl, by simp, M1.out⟩
 ·have e2 : (k == 2) = false := by simpa using h2
  by_cases h3 : k = 3
  ·subst h3
   clear h2 e2
   go_enter Tryz.func22, Tryz.ntmps22
   go_wp2_with fail
   refine (one_any D _ 8 M0.out.deck (by omega) (by omega)).mono ?_
   rintro e w1 ⟨u, rfl, mv⟩
   have M1 := Lib.hid (M0.out.trans mv); clear mv
   cases u
   ·go_wp2_with fail
    refine (pick_new D _ w codesD 4 rfl (by omega) (by omega) M1.out).mono ?_
    intro e w2 hp
    obtain ⟨x, rfl, hx, mv⟩ := pick_le (N := 64) hp (by decide)
    have HX := Lib.hid hx; have M2 := Lib.hid mv
    clear hx mv hp
    go_wp2_with fail
    go_ret
    exact ⟨x, rfl, HX.out, M2.out⟩
   ·go_wp2_with fail
    go_ret
    exact ⟨[], rfl, by simp, M1.out⟩
  ·have e3 : (k == 3) = false := by simpa using h3
   by_cases h4 : k = 4
   ·subst h4
    clear h2 e2 h3 e3
    go_enter Tryz.func22, Tryz.ntmps22
    go_wp2_with fail
    refine (one_any D _ 8 M0.out.deck (by omega) (by omega)).mono ?_
    rintro e w1 ⟨u, rfl, mv⟩
    have M1 := Lib.hid (M0.out.trans mv); clear mv
    cases u
    ·go_wp2_with fail
     refine (pick_new D _ w addrsD 5 rfl (by omega) (by omega) M1.out).mono ?_
     intro e w2 hp
     obtain ⟨x, rfl, hx, mv⟩ := pick_le (N := 64) hp (by decide)
     have HX := Lib.hid hx; have M2 := Lib.hid mv
     clear hx mv hp
     go_wp2_with fail
     go_ret
     exact ⟨x, rfl, HX.out, M2.out⟩
    ·go_wp2_with fail
     go_ret
     exact ⟨[], rfl, by simp, M1.out⟩
   ·have e4 : (k == 4) = false := by simpa using h4
    clear h2 h3 h4
    go_enter Tryz.func22, Tryz.ntmps22
    go_wp2_with fail
    refine (one_any D _ 8 M0.out.deck (by omega) (by omega)).mono ?_
    rintro e w1 ⟨u, rfl, mv⟩
    have M1 := Lib.hid (M0.out.trans mv); clear mv
    cases u
    ·go_wp2_with fail
     refine (pick_new D _ w peopleD 8 rfl (by omega) (by omega) M1.out).mono ?_
     rintro e w2 ⟨x, rfl, hx, mv⟩
     obtain ⟨p1, p2⟩ := people_ok hx
     have P1 := Lib.hid p1; have M2 := Lib.hid mv
     clear hx mv p1
     go_wp2_with fail
     refine (dress_any D ⟨x.toArray⟩ _ M2.out.deck (by simpa using P1.out) (by rw [mk_size]; omega)).mono ?_
     rintro e w3 ⟨o, rfl, ho, mv⟩
     have M3 := Lib.hid (M2.out.trans mv)
     have HO := Lib.hid (show o.length ≤ 64 by have := ho.len; simp at this; omega)
     clear mv ho
     go_wp2_with fail
     go_ret
     exact ⟨o, rfl, HO.out, M3.out⟩
    ·go_wp2_with fail
     go_ret
     exact ⟨[], rfl, by simp, M1.out⟩
end
section
set_option maxRecDepth 100000
open Go.RowKit
attribute [local go_sem] toList_mk mk_size str_append
theorem digs_len (i : Nat) (h : i < 100) : (Lib.decDigits i).length ≤ 2 := by
 have : ∀ j : Fin 100, (Lib.decDigits j).length ≤ 2 := by decide +kernel
 exact this ⟨i, h⟩
end
section
open Go.RowKit
section
variable {P : Program}
end
/-- blocks from B on, but for the row's own -/
def OffRow (B : Nat) (v : Value) (x : Nat) : Prop := B ≤ x ∧ some x ≠ v.ownBlock
section
variable {α : Type} {P : Program} {w : World} {ops : Array Oper} {rest : List Oper} {o : Oper} {a : Act} {Q : Exit → Act → World → Prop}
/-- append of a list; where the row lies afterwards -/
theorem wpList_append_at (hgd : o.guard = none) (s x : Operand) (t : TypeId) (ho : o.op = .call { callee := .builtin .append, args := #[s, x], argTypes := #[t, t] })
  (e : TypeId) (z : Value) (size bytes : Nat) (enc : α → List Value) (hk : ∀ x, (enc x).length = size) (h1 : ∀ x, ∀ u ∈ enc x, u.oneCell' = true) (ht : P.underlying t = some (.slice e)) (hinfo : (P.info? e).map (fun i => (i.zero, i.size, i.bytes)) = some (some z, size, bytes))
  (hzs : z.cells.size = size) (hsz : 0 < size) (hby : bytes ≤ 128) {w0 : World} {v u : Value} {A B : List α} (hs : a.eval s = v) (hown : OwnV e size enc w0 v A w) (hx : a.eval x = u) (hr : Reads w size u B.length (B.flatMap enc)) (hn : A.length + B.length ≤ 1000000000)
  (h : ∀ v' w', OwnV e size enc w0 v' (A ++ B) w' → (∀ k o, some k ≠ v.ownBlock → w.heap[k]? = some o → w'.heap[k]? = some o) → w.heap.size ≤ w'.heap.size → (v'.ownBlock = none ∨ v.ownBlock = v'.ownBlock ∨ v'.ownBlock = some w.heap.size) → wpList P ops Q rest (a.put o.dst v') w') : wpList P ops Q (o :: rest) a w := by
 refine wpList_plain hgd fun K hK => ?_
 refine wp_append_reads s x t ho w0.heap.size e z size bytes ht hinfo hzs hsz v A.length (A.flatMap enc) hs hown.1 u B.length (B.flatMap enc) hx hr (fun u hu => ?_) (by unfold maxLen; omega) ?_ hown.2.size ?_
 ·obtain ⟨y, _, hy⟩ := List.mem_flatMap.1 hu
  exact h1 y u hy
 ·exact Nat.le_trans (Nat.mul_le_mul hn hby) (by decide)
 ·intro v' w' ho' hg hat
  refine hK _ _ (h v' w' ⟨by rw [List.length_append, List.flatMap_append]; exact ho', hown.2.grown hg hown.2.size fun k hk => ?_⟩ (fun k o hk hko => (hg.block k (lt_of_blk hko) hk).trans hko) hg.size hat)
  rcases hown.1.2 with ⟨rfl, _⟩ | ⟨g, cap, cur, rfl, hg1, _⟩
  ·simp [Value.ownBlock] at hk
  ·have : g = k := by simpa [Value.ownBlock] using hk
   omega
end
end
section
set_option maxRecDepth 100000
open Go.RowKit Cal
attribute [local go_sem] toList_mk mk_size str_append
/-- where the function stands that encoded hands on: what it has captured -/
structure CapAt (sb kb rb : Nat) (vf vt vn vs : Value) (s : SchemaL) (k : Int × Int) (id ver : Int) (sv : Value) (vals : List (List UInt8)) (w : World) : Prop where
 bs : w.heap[sb]? = some (.cells #[vf, vt, vn, vs] 33 (0, 0))
 bk : w.heap[kb]? = some (.cells #[.int .u64 k.1, .int .u64 k.2] 108 (0, 0))
 br : w.heap[rb]? = some (.cells #[.int .i64 id, .int .i64 ver, sv] 44 (0, 0))
 sch : SchemaAt w Any1 vf vt vn vs s
 val : Vec w Any1 1 encS sv vals
structure BV where
 len : Int
 a : Option Addr
 n : Nat
 c : Nat
end
section
set_option maxRecDepth 100000
open Go.RowKit Cal
attribute [local go_sem] toList_mk mk_size str_append
end
section
set_option maxRecDepth 100000
open Go.RowKit Cal
attribute [local go_sem] toList_mk mk_size str_append
set_option maxHeartbeats 1000000 in
theorem numbered_any (i v : Int) (w : World) :
  Calls Tryz.prog 55 #[.int .i64 i, .int .i64 v] w fun e w' => e = .returned (.bool (numberedB i v)) ∧ w = w' := by
 unfold numberedB
 cases e1 : decide ((1 : Int) ≤ i)
 ·go_enter Tryz.func55, Tryz.ntmps55
  go_wp2_with fail
  go_ret
  exact ⟨rfl, rfl⟩
 ·cases e2 : decide (i ≤ (1048576 : Int))
  ·go_enter Tryz.func55, Tryz.ntmps55
   go_wp2_with fail
   go_ret
   exact ⟨rfl, rfl⟩
  ·cases e3 : decide ((1 : Int) ≤ v)
   ·go_enter Tryz.func55, Tryz.ntmps55
    go_wp2_with fail
    go_ret
    exact ⟨rfl, rfl⟩
   ·go_enter Tryz.func55, Tryz.ntmps55
    go_wp2_with fail
    go_ret
    exact ⟨rfl, rfl⟩
set_option maxHeartbeats 4000000 in
theorem rchk_any (S : Nat → Prop) (vf vt vn vs : Value) (s : SchemaL) (r : RecL) (sv : Value) (w : World) (h : SchemaAt w S vf vt vn vs s) (hv : Vec w Any1 1 encS sv r.vals) (hs : ∀ x ∈ r.vals, x.length ≤ 1000000) (hn : r.vals.length ≤ 1000000) :
  Calls Tryz.prog 48 #[.agg #[vf, vt, vn, vs], .agg #[.int .i64 r.id, .int .i64 r.ver, sv]] w fun e w' => e = .returned (.int .i64 (checkI s r)) ∧ Below w.heap.size w w' := by
 obtain ⟨a, cap, rfl⟩ := hv.slice
 obtain ⟨af, cf, rfl⟩ := h.1.slice
 obtain ⟨id, ver, vals⟩ := r
 dsimp only at hv hs hn ⊢
 have hval : checkI s ⟨id, ver, vals⟩ = if (numberedB id ver && (vals.length == s.fields.length) && normA s 0 vals) = true then 0 else 7 := rfl
 obtain ⟨c, hc⟩ : ∃ c, checkI s ⟨id, ver, vals⟩ = c := ⟨_, rfl⟩
 rw [hc] at hval ⊢
 have HV := Lib.hid hv; have HSh := Lib.hid hs; have HS := Lib.hid h.any; have HVal := Lib.hid hval
 clear hv hs h hval hc
 cases hnum : numberedB id ver
 ·have h7 : c = 7 := by rw [HVal.out, hnum]; rfl
  subst h7
  have HN := Lib.hid hnum; clear hnum HVal
  go_enter Tryz.func48, Tryz.ntmps48
  go_wp2_with fail
  refine (numbered_any _ _ _).mono ?_
  rw [HN.out]
  rintro e w1 ⟨rfl, rfl⟩
  go_wp2_with fail
  go_ret
  exact ⟨rfl, ((Below.refl w.heap.size w).alloc (Nat.le_refl _) _).alloc (by simp) _⟩
 ·have HN := Lib.hid hnum
  by_cases hlen : vals.length = s.fields.length
  ·have HVal2 := Lib.hid (show c = if normA s 0 vals = true then 0 else 7 by rw [HVal.out, hnum, hlen]; simp)
   have hne : ((vals.length : Int) != (s.fields.length : Int)) = false := by rw [hlen]; simp
   have HL := Lib.hid hlen
   clear hnum HVal hlen
   go_enter Tryz.func48, Tryz.ntmps48
   go_wp2_with fail
   refine (numbered_any _ _ _).mono ?_
   rw [HN.out]
   rintro e w1 ⟨rfl, rfl⟩
   go_wp2_with fail
   refine wp_world (fun W hW => ?_)
   have hb0 : Below w.heap.size w W := by rw [hW]; exact ((Below.refl w.heap.size w).alloc (Nat.le_refl _) _).alloc (by simp) _
   have hs0 : W.heap[w.heap.size]? = some (.cells #[.slice af s.fields.length cf, vt, vn, vs] 33 (0, 0)) := by rw [hW]; exact blk_old (blk_new rfl)
   clear hW
   have HB0 := Lib.hid hb0; have HS0 := Lib.hid hs0; clear hb0 hs0
   go_loopw [5, 6, 25] (fun _ _ i wr => ∃ j : Nat, i = .int .i64 j ∧ j ≤ vals.length ∧ Hid (normA s j (vals.drop j) = normA s 0 vals) ∧ Below W.heap.size W wr) (fun _ _ i _ => vals.length - (intOf i).toNat)
   case atStart => exact ⟨0, rfl, by omega, Lib.hid rfl, Below.refl _ _⟩
   case round =>
    obtain ⟨j, rfl, hj, HT, hb⟩ := hrel
    have HBr := Lib.hid hb; clear hb
    by_cases hlt : j < vals.length
    ·have hq : decide ((j : Int) < vals.length) = true := by simp; omega
     obtain ⟨x, hx⟩ : ∃ x, vals[j] = x := ⟨_, rfl⟩
     have hxl : x.length ≤ 1000000 := HSh.out x (by rw [← hx]; exact List.getElem_mem _)
     have hT := HT.out
     rw [List.drop_eq_getElem_cons hlt, hx, normA] at hT
     obtain ⟨b, off, rfl, hb, hc⟩ := (HV.out.below (HB0.out.trans (HBr.out.mono HB0.out.size))).get j hlt
     have c0 := hc 0 _ rfl
     rw [Nat.mul_one, Nat.add_zero, hx] at c0
     have hsr := blk_below HBr.out (lt_of_blk HS0.out) HS0.out
     obtain ⟨s0, s1, s2, s3⟩ := cellsS hsr
     have HT2 := Lib.hid hT
     clear hc hT hx hsr HT
     go_wp2_with fail
     refine (normal_s Any1 _ vt vn vs s j ⟨x.toArray⟩ _ (HS.out.below (HB0.out.trans (HBr.out.mono HB0.out.size))) (by rw [mk_size]; omega)).mono ?_
     rw [show (⟨x.toArray⟩ : ByteArray).data.toList = x by simp]
     obtain ⟨nb, hnb⟩ : ∃ nb, normalB s j x = nb := ⟨_, rfl⟩
     rw [hnb] at HT2 ⊢
     rintro e w2 ⟨rfl, hb2⟩
     have HB2 := Lib.hid (HBr.out.trans (hb2.mono HBr.out.size))
     clear hb2 hnb s0 s1 s2 s3 c0
     cases nb
     ·have h7 : c = 7 := by rw [HVal2.out, ← HT2.out]; rfl
      subst h7
      go_wp2_with fail
      go_ret
      exact ⟨rfl, HB0.out.trans (HB2.out.mono HB0.out.size)⟩
     ·go_wp2_with fail
      go_roundw
      case rel => exact ⟨j + 1, by go_num, by omega, Lib.hid (by rw [← HT2.out, Bool.true_and]), HB2.out⟩
      case measure => simp [intOf]; omega
    ·have hq : decide ((j : Int) < vals.length) = false := by simp; omega
     obtain rfl : j = vals.length := by omega
     have h0 : c = 0 := by rw [HVal2.out, ← HT.out, List.drop_length]; rfl
     subst h0
     go_wp2_with fail
     go_ret
     exact ⟨rfl, HB0.out.trans (HBr.out.mono HB0.out.size)⟩
  ·have h7 : c = 7 := by rw [HVal.out, hnum]; simp [hlen]
   have hne : ((vals.length : Int) != (s.fields.length : Int)) = true := by simp; omega
   subst h7
   clear hnum HVal hlen
   go_enter Tryz.func48, Tryz.ntmps48
   go_wp2_with fail
   refine (numbered_any _ _ _).mono ?_
   rw [HN.out]
   rintro e w1 ⟨rfl, rfl⟩
   go_wp2_with fail
   go_ret
   exact ⟨rfl, ((Below.refl w.heap.size w).alloc (Nat.le_refl _) _).alloc (by simp) _⟩
set_option maxHeartbeats 4000000 in
theorem rcheck_all (S : Nat → Prop) (vf vt vn vs : Value) (s : SchemaL) (r : RecL) (sv : Value) (w : World) (h : SchemaAt w S vf vt vn vs s) (hv : Vec w Any1 1 encS sv r.vals) (hs : ∀ x ∈ r.vals, x.length ≤ 1000000) (hn : r.vals.length ≤ 1000000) :
  Calls Tryz.prog 19 #[.agg #[vf, vt, vn, vs], .agg #[.int .i64 r.id, .int .i64 r.ver, sv]] w fun e w' => e = .returned (.int .i64 (checkN s r)) ∧ Below w.heap.size w w' := by
 have hval : checkN s r = if checkS s = 0 then checkI s r else checkS s := rfl
 obtain ⟨c, hc⟩ : ∃ c, checkN s r = c := ⟨_, rfl⟩
 obtain ⟨d, hd⟩ : ∃ d, checkS s = d := ⟨_, rfl⟩
 rw [hc, hd] at hval
 rw [hc]
 have HV := Lib.hid hv; have HS := Lib.hid h.any; have HVal := Lib.hid hval; have HD := Lib.hid hd; have HSh := Lib.hid hs
 clear hv h hval hc hd hs
 have LV : Vec w Any1 1 encS sv r.vals := HV.out
 obtain ⟨a, cap, rfl⟩ := LV.slice
 clear LV
 by_cases h0 : d = 0
 ·subst h0
  have HV2 := Lib.hid (show checkI s r = c by rw [HVal.out, if_pos rfl])
  go_enter Tryz.func19, Tryz.ntmps19
  go_wp2_with fail
  refine wp_calls_world (fun W hW => ?_)
  have hb0 : Below w.heap.size w W := by rw [hW]; exact ((Below.refl w.heap.size w).alloc (Nat.le_refl _) _).alloc (by simp) _
  have hs0 : W.heap[w.heap.size]? = some (.cells #[vf, vt, vn, vs] 33 (0, 0)) := by rw [hW]; exact blk_old (blk_new rfl)
  have hr0 : W.heap[w.heap.size + 1]? = some (.cells #[.int .i64 r.id, .int .i64 r.ver, .slice a r.vals.length cap] 44 (0, 0)) := by rw [hW]; exact blk_new (by simp)
  clear hW
  refine (scheck_any Any1 _ _ _ _ s _ (HS.out.below hb0)).mono ?_
  rw [HD.out]
  rintro e w1 ⟨rfl, hb⟩
  have hs1 := blk_below hb (lt_of_blk hs0) hs0; have hr1 := blk_below hb (lt_of_blk hr0) hr0
  have HB1 := Lib.hid (hb0.trans (hb.mono hb0.size))
  obtain ⟨s0, s1, s2, s3⟩ := cellsS hs1; obtain ⟨r0, r1, r2⟩ := cells3 hr1
  clear hb hb0 hs0 hr0 hs1 hr1
  go_wp2_with fail
  refine (rchk_any Any1 _ _ _ _ s r _ _ (HS.out.below HB1.out) (HV.out.below HB1.out) HSh.out hn).mono ?_
  rw [HV2.out]
  rintro e w2 ⟨rfl, hb⟩
  have HB2 := Lib.hid (HB1.out.trans (hb.mono HB1.out.size))
  clear hb s0 s1 s2 s3 r0 r1 r2
  go_wp2_with fail
  go_ret
  exact ⟨rfl, HB2.out⟩
 ·have h1 : c = d := by rw [HVal.out, if_neg h0]
  subst h1
  have hne : (c != 0) = true := by simpa using h0
  clear h0
  go_enter Tryz.func19, Tryz.ntmps19
  go_wp2_with fail
  refine (scheck_any Any1 _ _ _ _ s _ (HS.out.below (((Below.refl w.heap.size w).alloc (Nat.le_refl _) _).alloc (by simp) _))).mono ?_
  rw [HD.out]
  rintro e w1 ⟨rfl, hb⟩
  have HB1 := Lib.hid ((((Below.refl w.heap.size w).alloc (Nat.le_refl _) (.cells #[vf, vt, vn, vs] 33)).alloc (by simp) (.cells #[.int .i64 r.id, .int .i64 r.ver, .slice a r.vals.length cap] 44)).trans (hb.mono (by simp; omega)))
  clear hb
  go_wp2_with fail
  go_ret
  exact ⟨rfl, HB1.out⟩
end
section
set_option maxRecDepth 100000
open Go.RowKit
/-- parameters that are dealt for n fields, the first j of them -/
structure ParsD (n j : Nat) (P : List ParL) : Prop where
 len : P.length = j
 par : ∀ i, i < j → ParOk (P.getD i default) ∧ (P.getD i default).salt < n ∧ (P.getD i default).salt ≠ i
end
section
set_option maxRecDepth 100000
open Go.RowKit
attribute [local go_sem] toList_mk mk_size bytes_append
theorem ext_one (s : ByteArray) (k : Nat) (h : k < s.size) : s.extract k (k + 1) = ⟨[s[k]].toArray⟩ := by
 have hl : s.data.toList.length = s.size := by simp
 have := ext_mk s.data.toList k (k + 1) (by omega)
 unfold mkS at this
 have e : (⟨s.data.toList.toArray⟩ : ByteArray) = s := by simp
 rw [e] at this
 rw [this]
 congr 2
 rw [take_snoc' s k h, List.drop_append_of_le_length (by rw [List.length_take]; omega), List.drop_eq_nil_of_le (by rw [List.length_take]; omega), List.nil_append]
set_option maxHeartbeats 1000000 in
theorem rletters_any (s : ByteArray) (w : World) (hs : s.size ≤ 1000000) :
  Calls Tryz.prog 118 #[.string s] w fun e w' => e = .returned (strV (lettersL s.data.toList)) ∧ w = w' := by
 have hl : s.data.toList.length = s.size := by simp
 have HL := Lib.hid hl; clear hl
 go_enter Tryz.func118, Tryz.ntmps118
 go_wp2_with fail
 go_loop [3, 4] (fun o i => ∃ k : Nat, k ≤ s.size ∧ i = .int .i64 k ∧ o = strV (lettersL (s.data.toList.take k))) (fun _ i => s.size - (intOf i).toNat)
 case atStart => exact ⟨0, by omega, rfl, rfl⟩
 case round =>
  obtain ⟨k, hk, rfl, rfl⟩ := hrel
  by_cases hlt : k < s.size
  ·have hq : decide ((k : Int) < s.size) = true := by simp; omega
   have ht := Lib.hid (take_snoc' s k hlt)
   have hb := s[k].toNat_lt
   have hlen : (lettersL (s.data.toList.take k)).length ≤ 1000000 := by have := letters_len (s.data.toList.take k); have := List.length_take_le k s.data.toList; omega
   have hext := ext_one s k hlt
   cases hlo : isLow s[k]
   ·have HN := Lib.hid (letters_no (s.data.toList.take k) s[k] hlo)
    have hc := hlo
    rw [low_iff, decide_eq_false_iff_not] at hc
    have hc' : (97 ≤ (s[k].toNat : Int) ∧ 122 < (s[k].toNat : Int)) ∨ (s[k].toNat : Int) < 97 := by omega
    clear hc hlo hext
    rcases hc' with ⟨g1, g2⟩ | g1
    all_goals
     go_wp2_with fail
     go_round
     case rel => exact ⟨k + 1, by omega, by go_num, by rw [ht.out, HN.out]⟩
     case measure => simp [intOf]; omega
   ·have HY := Lib.hid (letters_yes (s.data.toList.take k) s[k] hlo)
    have hc := hlo
    rw [low_iff, decide_eq_true_iff] at hc
    obtain ⟨g1, g2⟩ := hc
    clear hlo
    go_wp2_with fail
    go_round
    case rel => exact ⟨k + 1, by omega, by go_num, by rw [ht.out, HY.out]⟩
    case measure => simp [intOf]; omega
  ·obtain rfl : k = s.size := by omega
   have hq : decide ((s.size : Int) < s.size) = false := by simp
   have HF := Lib.hid (List.take_of_length_le (by rw [HL.out]; exact Nat.le_refl _) : s.data.toList.take s.size = s.data.toList)
   go_wp2_with fail
   go_ret
   exact ⟨by show Ending.returned (strV (lettersL (s.data.toList.take s.size))) = _; rw [HF.out], rfl⟩
theorem join_snoc (T : List (List UInt8)) (x : List UInt8) : joinL (T ++ [x]) = if T = [] then x else joinL T ++ [32] ++ x := by
 induction T with
 | nil => rfl
 | cons t T ih =>
  rw [if_neg (by simp)]
  by_cases hT : T = []
  ·subst hT; simp [joinL]
  ·rw [if_neg hT] at ih
   rw [List.cons_append, join_cons_ne _ _ (by simp), ih, join_cons_ne _ _ hT]; simp
theorem join_take_len (L : List (List UInt8)) : ∀ k, (joinL (L.take k)).length ≤ (joinL L).length := by
 induction L with
 | nil => intro k; simp
 | cons a L ih =>
  intro k
  cases k with
  | zero => simp [joinL]
  | succ k =>
   rw [List.take_succ_cons]
   by_cases hk : L.take k = []
   ·rw [hk]
    by_cases hL : L = []
    ·subst hL; simp [joinL]
    ·rw [join_cons_ne _ _ hL]; simp [joinL]
   ·have hL : L ≠ [] := by intro e; subst e; simp at hk
    rw [join_cons_ne _ _ hk, join_cons_ne _ _ hL]
    have := ih k; simp; omega
set_option maxHeartbeats 1000000 in
theorem rjoin_any (S : Nat → Prop) (v : Value) (L : List (List UInt8)) (w : World) (h : Vec w S 1 encS v L) (hn : L.length ≤ 1000000) (hj : (joinL L).length ≤ 1000000000) :
  Calls Tryz.prog 129 #[v] w fun e w' => e = .returned (strV (joinL L)) ∧ w = w' := by
 obtain ⟨a, cap, rfl⟩ := h.slice
 have HV := Lib.hid h; clear h
 go_enter Tryz.func129, Tryz.ntmps129
 go_wp2_with fail
 go_loop [3, 4] (fun o i => ∃ k : Nat, k ≤ L.length ∧ i = .int .i64 k ∧ o = strV (joinL (L.take k))) (fun _ i => L.length - (intOf i).toNat)
 case atStart => exact ⟨0, by omega, rfl, rfl⟩
 case round =>
  obtain ⟨k, hk, rfl, rfl⟩ := hrel
  have hlen := join_take_len L k
  by_cases hlt : k < L.length
  ·have hq : decide ((k : Int) < L.length) = true := by simp; omega
   obtain ⟨b, off, rfl, _, hb, hc⟩ := vec_cell1 HV.out (by omega)
   have c1 := hc k hlt
   have htk := take_snocA L k hlt
   rw [show (default : List UInt8) = [] from rfl] at htk
   have hxl := join_take_len L (k + 1)
   have hsn := join_snoc (L.take k) (L.getD k [])
   rw [← htk] at hsn
   obtain ⟨x, hx⟩ : ∃ x, L.getD k [] = x := ⟨_, rfl⟩
   rw [hx] at c1 htk hsn
   have hx1 : x.length ≤ 1000000000 := by
    rw [hsn] at hxl
    split at hxl
    ·omega
    ·simp at hxl; omega
   have HSn := Lib.hid hsn
   clear hc htk hsn hx hxl
   by_cases hk0 : k = 0
   ·subst hk0
    have e0 : joinL ([] : List (List UInt8)) = [] := rfl
    rw [Nat.add_zero] at c1
    go_wp2_with fail
    go_round
    case rel => exact ⟨1, by omega, by go_num, by rw [HSn.out, if_pos (by simp)]⟩
    case measure => simp [intOf]; omega
   ·have hq0 : decide ((0 : Int) < k) = true := by simp; omega
    have hk1 : 0 < k := by omega
    have hne : L.take k ≠ [] := by intro e; have := congrArg List.length e; rw [List.length_take, List.length_nil] at this; omega
    have HNe := Lib.hid hne
    clear hk0 hne
    go_wp2_with fail
    go_round
    case rel => exact ⟨k + 1, by omega, by go_num, by rw [HSn.out, if_neg HNe.out]; simp⟩
    case measure => simp [intOf]; omega
  ·obtain rfl : k = L.length := by omega
   have hq : decide ((L.length : Int) < L.length) = false := by simp
   have HF := Lib.hid (List.take_of_length_le (Nat.le_refl _) : L.take L.length = L)
   go_wp2_with fail
   go_ret
   exact ⟨rfl, rfl⟩
end
section
set_option maxRecDepth 100000
open Go.RowKit
attribute [local go_sem] toList_mk mk_size bytes_append
theorem list_ext0 {A B : List (List UInt8)} (hl : A.length = B.length) (h : ∀ j, j < A.length → A.getD j [] = B.getD j []) : A = B := by
 refine List.ext_getElem hl fun j h1 h2 => ?_
 have := h j h1
 rwa [List.getD, List.getD, List.getElem?_eq_getElem h1, List.getElem?_eq_getElem h2] at this
set_option maxHeartbeats 1000000 in
theorem rsame_any (S T : Nat → Prop) (va vb : Value) (A B : List (List UInt8)) (w : World) (hA : Vec w S 1 encS va A) (hB : Vec w T 1 encS vb B) (hn : A.length ≤ 1000000) (hm : B.length ≤ 1000000) :
  Calls Tryz.prog 51 #[va, vb] w fun e w' => e = .returned (.bool (A == B)) ∧ Below w.heap.size w w' := by
 obtain ⟨aa, ca, rfl⟩ := hA.slice
 obtain ⟨ab, cb, rfl⟩ := hB.slice
 have HA := Lib.hid hA; have HB := Lib.hid hB
 clear hA hB
 by_cases hl : A.length = B.length
 ·have hq0 : ((A.length : Int) != (B.length : Int)) = false := by rw [hl]; simp
  have hq1 : (A.length != B.length) = false := by rw [hl]; simp
  have HL := Lib.hid hl
  have hl2 : A.length ≤ B.length := by omega
  clear hl
  go_enter Tryz.func51, Tryz.ntmps51
  go_wp2_with fail
  clear hq0 hq1
  go_loopw [5] (fun i wr => ∃ k : Nat, k ≤ A.length ∧ i = .int .i64 k ∧ Below w.heap.size w wr ∧ Hid (∀ j, j < k → A.getD j [] = B.getD j [])) (fun i _ => A.length - (intOf i).toNat)
  case atStart => exact ⟨0, by omega, rfl, Below.refl _ _, Lib.hid fun j hj => by omega⟩
  case round =>
   obtain ⟨k, hk, rfl, hbw, HE⟩ := hrel
   have HW := Lib.hid hbw
   by_cases hlt : k < A.length
   ·have hq : decide ((k : Int) < A.length) = true := by simp; omega
    have hi1 : (k : Int) < (A.length : Int) := by omega
    have hi2 : (k : Int) < (B.length : Int) := by omega
    obtain ⟨b1, o1, rfl, _, hb1, hc1⟩ := vec_cell1 HA.out (by omega)
    obtain ⟨b2, o2, rfl, _, hb2, hc2⟩ := vec_cell1 HB.out (by omega)
    have c1 := (hbw.cell (p := ⟨b1, o1 + k, none⟩) hb1).trans (hc1 k hlt)
    have c2 := (hbw.cell (p := ⟨b2, o2 + k, none⟩) hb2).trans (hc2 k (by omega))
    obtain ⟨x, hx⟩ : ∃ x, A.getD k [] = x := ⟨_, rfl⟩
    obtain ⟨y, hy⟩ : ∃ y, B.getD k [] = y := ⟨_, rfl⟩
    rw [hx] at c1
    rw [hy] at c2
    have HX := Lib.hid hx; have HY := Lib.hid hy
    clear hc1 hc2 hx hy hbw
    by_cases he : x = y
    ·subst he
     go_wp2_with fail
     go_quiet (fail)
     go_wp2_with fail
     go_roundw
     case rel => exact ⟨k + 1, by omega, by go_num, below_drewN HW.out _, Lib.hid fun j hj => by
      by_cases e : j = k
      ·subst e; rw [HX.out, HY.out]
      ·exact HE.out j (by omega)⟩
     case measure => simp [intOf]; try omega
    ·have hne : (x != y) = true := by simpa using he
     have hne2 : (x == y) = false := by simpa using he
     have HNe := Lib.hid he
     clear he
     go_wp2_with fail
     go_quiet (fail)
     go_wp2_with fail
     go_ret
     refine ⟨ret_bool ?_, below_drewN HW.out _⟩
     have : A ≠ B := fun e => HNe.out (by rw [← HX.out, ← HY.out, e])
     simpa using this
   ·have hq : decide ((k : Int) < A.length) = false := by simp; omega
    go_wp2_with fail
    go_ret
    refine ⟨ret_bool ?_, HW.out⟩
    have : A = B := list_ext0 HL.out fun j hj => HE.out j (by omega)
    rw [this]; simp
 ·have hq0 : ((A.length : Int) != (B.length : Int)) = true := by simp; omega
  have hq1 : (A.length != B.length) = true := by simp; omega
  have HN := Lib.hid hl; clear hl
  go_enter Tryz.func51, Tryz.ntmps51
  go_wp2_with fail
  go_ret
  refine ⟨ret_bool ?_, Below.refl _ _⟩
  have : A ≠ B := fun e => HN.out (by rw [e])
  simpa using this
set_option maxHeartbeats 2000000 in
theorem rtokens_any (s : ByteArray) (w : World) (hs : s.size ≤ 1000000) :
  Calls Tryz.prog 126 #[.string s] w fun e w' => ∃ v, e = .returned v ∧ OwnAt w v (toks s.data.toList) w' := by
 have hl : s.data.toList.length = s.size := by simp
 have HL := Lib.hid hl; clear hl
 obtain ⟨l, hl⟩ : ∃ l, s.data.toList = l := ⟨_, rfl⟩
 rw [hl] at HL
 have HLs := Lib.hid hl
 rw [hl]
 clear hl
 go_enter Tryz.func126, Tryz.ntmps126
 go_wp2_with fail
 go_loopw [3, 4, 5] (fun v t i wr => ∃ (k : Nat) (C : List (List UInt8)) (p : List UInt8), k ≤ s.size + 1 ∧ i = .int .i64 k ∧ t = strV p ∧ OwnAt w v C wr ∧ p.length ≤ k ∧ C.length ≤ k ∧ (k = s.size + 1 → p = []) ∧ Hid (toks l = C ++ toksA p (l.drop k))) (fun _ _ i _ => s.size + 1 - (intOf i).toNat)
 case atStart => exact ⟨0, [], [], by omega, rfl, rfl, OwnAt.start w, by simp, by simp, by omega, Lib.hid rfl⟩
 case round =>
  obtain ⟨k, C, p, hk, rfl, rfl, ho, hp, hC, hpe, HT⟩ := hrel
  have HO := Lib.hid ho; have HPe := Lib.hid hpe
  clear ho hpe
  by_cases hlt : k < s.size
  ·have hq : decide ((k : Int) ≤ s.size) = true := by simp; omega
   have hq2 : decide ((k : Int) < s.size) = true := by simp; omega
   have hdr := drop_one s k hlt
   rw [HLs.out] at hdr
   by_cases hsp : s[k] = 32
   ·have e1 : ((s[k].toNat : Int) != 32) = false := by rw [hsp]; rfl
    rw [hsp] at hdr
    have HD := Lib.hid hdr
    clear hsp hdr
    by_cases hp0 : p = []
    ·subst hp0
     go_wp2_with fail
     go_roundw
     case rel => exact ⟨k + 1, C, [], by omega, by go_num, rfl, HO.out, by simp, by omega, fun _ => rfl, Lib.hid (by rw [HT.out, HD.out, toksA_sp0])⟩
     case measure => simp [intOf]; try omega
    ·have f1 : (p == []) = false := by simpa using hp0
     have f2 : p.isEmpty = false := by simpa using hp0
     have f3 : (p != []) = true := by simpa using hp0
     have HP0 := Lib.hid hp0; clear hp0
     have hone : ∀ u ∈ (#[strV p] : Array Value).toList, u.oneCell' = true := by intro u hu; simp at hu; subst hu; rfl
     go_wp2_with (at_builtin; refine wpList_append_new rfl _ _ 28 rfl w.heap.size 9 1 16 (.string ⟨#[]⟩) Tryz.underlying28 infoS rfl (by decide) (by decide) _ _ _ rfl HO.out.1 #[strV p] 1 rfl rfl hone (by omega) HO.out.2.size ?_; intro v2 w8 ho8 hw8)
     go_roundw
     case rel => exact ⟨k + 1, C ++ [p], [], by omega, by go_num, rfl, ⟨by rw [List.length_append, flat_snoc]; exact ho8, hw8 _ HO.out.2⟩, by simp, by rw [List.length_append, List.length_singleton]; omega, fun _ => rfl, Lib.hid (by rw [HT.out, HD.out, toksA_sp _ _ HP0.out]; simp)⟩
     case measure => simp [intOf]; try omega
   ·have e1 : ((s[k].toNat : Int) != 32) = true := by
     simp only [bne_iff_ne, ne_eq]; intro e; apply hsp; rw [← UInt8.toNat_inj]; simp; omega
    have hext := ext_one s k hlt
    have HD := Lib.hid hdr; have HSp := Lib.hid hsp
    clear hsp hdr
    go_wp2_with fail
    go_roundw
    case rel => exact ⟨k + 1, C, p ++ [s[k]], by omega, by go_num, rfl, HO.out, by simp; omega, by omega, fun h => by omega, Lib.hid (by rw [HT.out, HD.out, toksA_ch _ _ _ HSp.out])⟩
    case measure => simp [intOf]; omega
  ·by_cases hke : k = s.size
   ·subst hke
    have hq : decide ((s.size : Int) ≤ s.size) = true := by simp
    have hq2 : decide ((s.size : Int) < s.size) = false := by simp
    have hdr : l.drop s.size = [] := List.drop_eq_nil_of_le (by rw [HL.out]; exact Nat.le_refl _)
    have hdr2 : l.drop (s.size + 1) = [] := List.drop_eq_nil_of_le (by rw [HL.out]; omega)
    have HD := Lib.hid hdr; have HD2 := Lib.hid hdr2
    clear hdr hdr2
    by_cases hp0 : p = []
    ·subst hp0
     go_wp2_with fail
     go_roundw
     case rel => exact ⟨s.size + 1, C, [], by omega, by go_num, rfl, HO.out, by simp, by omega, fun _ => rfl, Lib.hid (by rw [HT.out, HD.out, HD2.out])⟩
     case measure => simp [intOf]; try omega
    ·have f1 : (p == []) = false := by simpa using hp0
     have f2 : p.isEmpty = false := by simpa using hp0
     have f3 : (p != []) = true := by simpa using hp0
     have HP0 := Lib.hid hp0; clear hp0
     have hone : ∀ u ∈ (#[strV p] : Array Value).toList, u.oneCell' = true := by intro u hu; simp at hu; subst hu; rfl
     go_wp2_with (at_builtin; refine wpList_append_new rfl _ _ 28 rfl w.heap.size 9 1 16 (.string ⟨#[]⟩) Tryz.underlying28 infoS rfl (by decide) (by decide) _ _ _ rfl HO.out.1 #[strV p] 1 rfl rfl hone (by omega) HO.out.2.size ?_; intro v2 w8 ho8 hw8)
     go_roundw
     case rel => exact ⟨s.size + 1, C ++ [p], [], by omega, by go_num, rfl, ⟨by rw [List.length_append, flat_snoc]; exact ho8, hw8 _ HO.out.2⟩, by simp, by rw [List.length_append, List.length_singleton]; omega, fun _ => rfl, Lib.hid (by rw [HT.out, HD.out, HD2.out, toksA_end _ HP0.out]; simp [toksA])⟩
     case measure => simp [intOf]; try omega
   ·have hq : decide ((k : Int) ≤ s.size) = false := by simp; omega
    obtain rfl : k = s.size + 1 := by omega
    obtain rfl : p = [] := HPe.out rfl
    have hdr2 : l.drop (s.size + 1) = [] := List.drop_eq_nil_of_le (by rw [HL.out]; omega)
    have hT := HT.out
    rw [hdr2] at hT
    have hT' : toks l = C := by rw [hT]; simp [toksA]
    rw [← hT'] at HO
    clear hT hT' hdr2 hke
    go_wp2_with fail
    go_ret
    exact ⟨_, rfl, HO.out⟩
end
section
set_option maxRecDepth 100000
open Go.RowKit
/-- does a text end with a space -/
def endsSp : List UInt8 → Bool
 | [] => false
 | [c] => c == 32
 | _ :: d :: r => endsSp (d :: r)
theorem ends_cons (c : UInt8) {R : List UInt8} (h : R ≠ []) : endsSp (c :: R) = endsSp R := by
 cases R with
 | nil => exact absurd rfl h
 | cons d r => rfl
theorem ends_snoc (R : List UInt8) (c : UInt8) : endsSp (R ++ [c]) = (c == 32) := by
 induction R with
 | nil => rfl
 | cons d R ih => rw [List.cons_append, ends_cons _ (by simp), ih]
theorem ends_app (R : List UInt8) {x : List UInt8} (h : x ≠ []) (h2 : ∀ b ∈ x, b ≠ 32) : endsSp (R ++ x) = false := by
 obtain ⟨y, c, rfl⟩ : ∃ y c, x = y ++ [c] := ⟨_, _, (List.dropLast_concat_getLast h).symm⟩
 rw [← List.append_assoc, ends_snoc]
 simpa using h2 c (by simp)
theorem toksA_only (x : List UInt8) (h2 : ∀ b ∈ x, b ≠ 32) : ∀ p, p ++ x ≠ [] → toksA p x = [p ++ x] := by
 induction x with
 | nil => intro p h; rw [List.append_nil] at h; rw [toksA_end _ h, List.append_nil]
 | cons c x ih =>
  intro p _
  rw [toksA_ch _ _ _ (h2 c List.mem_cons_self), ih (fun b hb => h2 b (List.mem_cons_of_mem _ hb)) _ (by simp)]
  simp
theorem join_nil {T : List (List UInt8)} (h : ∀ t ∈ T, t ≠ []) (e : joinL T = []) : T = [] := by
 cases T with
 | nil => rfl
 | cons t T =>
  exfalso
  by_cases hT : T = []
  ·subst hT; exact h t List.mem_cons_self (by simpa [joinL] using e)
  ·rw [join_cons_ne _ _ hT] at e; simp at e
theorem spaces_end (R : List UInt8) : toksA [] R = [] → endsSp (32 :: R) = true := by
 induction R with
 | nil => intro _; rfl
 | cons c R ih =>
  intro h
  rw [ends_cons _ (by simp)]
  by_cases hc : c = 32
  ·subst hc
   rw [toksA_sp0] at h
   exact ih h
  ·exfalso
   rw [toksA_ch _ _ _ hc] at h
   have := (toksA_len R ([] ++ [c])).2
   have h3 : ∀ (R : List UInt8) p, p ≠ [] → toksA p R ≠ [] := by
    intro R
    induction R with
    | nil => intro p hp; rw [toksA_end _ hp]; simp
    | cons d R ih2 =>
     intro p hp
     by_cases hd : d = 32
     ·subst hd; rw [toksA_sp _ _ hp]; simp
     ·rw [toksA_ch _ _ _ hd]; exact ih2 _ (by simp)
   exact h3 R _ (by simp) h
theorem toksA_more (R : List UInt8) {x : List UInt8} (h : x ≠ []) (h2 : ∀ b ∈ x, b ≠ 32) : ∀ p, toksA p (R ++ x) ≠ [] := by
 induction R with
 | nil => intro p; rw [List.nil_append, toksA_only x h2 p (by simp [h])]; simp
 | cons c R ih =>
  intro p
  rw [List.cons_append]
  by_cases hc : c = 32
  ·subst hc
   by_cases hp : p = []
   ·subst hp; rw [toksA_sp0]; exact ih []
   ·rw [toksA_sp _ _ hp]; simp
  ·rw [toksA_ch _ _ _ hc]; exact ih _
/-- a text goes on with bytes that are no spaces -/
theorem join_more {x : List UInt8} (h : x ≠ []) (h2 : ∀ b ∈ x, b ≠ 32) (R : List UInt8) : ∀ p, joinL (toksA p (R ++ x)) = joinL (toksA p R) ++ (if endsSp R = true ∧ joinL (toksA p R) ≠ [] then [32] else []) ++ x := by
 induction R with
 | nil =>
  intro p
  rw [List.nil_append, toksA_only x h2 p (by simp [h]), if_neg (by simp [endsSp])]
  by_cases hp : p = []
  ·subst hp; simp [toksA, joinL]
  ·rw [toksA_end _ hp]; simp [joinL]
 | cons c R ih =>
  intro p
  rw [List.cons_append]
  by_cases hc : c = 32
  ·subst hc
   by_cases hp : p = []
   ·subst hp
    rw [toksA_sp0, toksA_sp0, ih []]
    by_cases hR : R = []
    ·subst hR; simp [endsSp, toksA, joinL]
    ·rw [ends_cons _ hR]
   ·rw [toksA_sp _ _ hp, toksA_sp _ _ hp, join_cons_ne _ _ (toksA_more R h h2 []), ih []]
    by_cases hT : toksA [] R = []
    ·rw [hT]
     have he := spaces_end R hT
     rw [if_neg (by simp [joinL]), if_pos ⟨he, by simpa [joinL] using hp⟩]
     simp [joinL]
    ·have hR : R ≠ [] := by intro e; subst e; exact hT rfl
     have hj : joinL (toksA [] R) ≠ [] := fun e => hT (join_nil (toksA_ne R []) e)
     rw [join_cons_ne _ _ hT, ends_cons _ hR]
     by_cases he : endsSp R = true
     ·rw [if_pos ⟨he, hj⟩, if_pos ⟨he, by simp⟩]; simp
     ·rw [if_neg (fun h => he h.1), if_neg (fun h => he h.1)]; simp
  ·rw [toksA_ch _ _ _ hc, toksA_ch _ _ _ hc, ih]
   by_cases hR : R = []
   ·subst hR
    rw [if_neg (by simp [endsSp]), if_neg (by simp [endsSp, hc])]
   ·rw [ends_cons _ hR]
theorem fold_more {x : List UInt8} (h : x ≠ []) (h2 : ∀ b ∈ x, b ≠ 32) (R : List UInt8) : joinL (toks (R ++ x)) = joinL (toks R) ++ (if endsSp R = true ∧ joinL (toks R) ≠ [] then [32] else []) ++ x := join_more h h2 R []
theorem fold_space (R : List UInt8) : toks (R ++ [32]) = toks R := toksA_last R []
end
section
set_option maxRecDepth 100000
open Go.RowKit
attribute [local go_sem] toList_mk mk_size bytes_append
theorem ok_not_pair (s : ByteArray) (k : Nat) (hk : k < s.size) (h : okByte s[k] = true) : pairAt (s.data.toList.drop k) = false := by
 by_cases h2 : k + 1 < s.size
 ·rw [drop_two s k h2]; exact byte_pair h
 ·rw [drop_last s k (by omega)]; rfl
theorem pair_facts2 (s : ByteArray) (k : Nat) (h2 : k + 1 < s.size) (h : pairAt (s.data.toList.drop k) = true) : s[k] = 195 ∧ 128 ≤ (s[k + 1].toNat : Int) ∧ (s[k + 1].toNat : Int) ≤ 191 := by
 rw [drop_two s k h2] at h
 have h' : isPair s[k] s[k + 1] = true := h
 rw [pair_iff, decide_eq_true_iff] at h'
 exact ⟨by rw [← UInt8.toNat_inj]; simp; omega, h'.2⟩
set_option maxHeartbeats 2000000 in
theorem rvalid_text (s : ByteArray) (w : World) (hs : s.size ≤ 9223372036854775000) :
  Calls Tryz.prog 179 #[.string s] w fun e w' => e = .returned (.bool (foldV s.data.toList)) ∧ w = w' := by
 have hl : s.data.toList.length = s.size := by simp
 have HL := Lib.hid hl; clear hl
 unfold foldV
 by_cases h64 : s.size ≤ 64
 ·have d1 : decide ((64 : Int) < s.size) = false := by simp; omega
  go_enter Tryz.func179, Tryz.ntmps179
  go_wp2_with fail
  clear d1
  go_loop [3] (fun i => ∃ k : Nat, k ≤ s.size ∧ i = .int .i64 k ∧ Hid (validL s.data.toList = validL (s.data.toList.drop k))) (fun i => s.size - (intOf i).toNat)
  case atStart => exact ⟨0, by omega, rfl, Lib.hid rfl⟩
  case round =>
   obtain ⟨k, hk, rfl, HV⟩ := hrel
   by_cases hlt : k < s.size
   ·have hq : decide ((k : Int) < s.size) = true := by simp; omega
    have hb := s[k].toNat_lt
    cases hok : okByte s[k]
    ·cases hp : pairAt (s.data.toList.drop k)
     ·have hv := Lib.hid (valid_one s k hlt hp)
      have HOk := Lib.hid hok
      rw [ok_iff, decide_eq_false_iff_not] at hok
      have hc : (s[k].toNat : Int) < 32 ∨ (32 ≤ (s[k].toNat : Int) ∧ 126 < (s[k].toNat : Int)) := by omega
      clear hok
      have hfalse : validL s.data.toList = false := by rw [HV.out, hv.out, HOk.out]; rfl
      have HF := Lib.hid hfalse
      clear hfalse
      by_cases h195 : s[k] = 195
      ·have e1 : ((s[k].toNat : Int) != 195) = false := by rw [h195]; rfl
       by_cases h2 : k + 1 < s.size
       ·have e2 : ((k : Int) + 1 == (s.size : Int)) = false := by simp only [beq_eq_false_iff_ne, ne_eq]; omega
        rw [drop_two s k h2] at hp
        have hp' : isPair s[k] s[k + 1] = false := hp
        rw [pair_iff, decide_eq_false_iff_not] at hp'
        have h195' : (s[k].toNat : Int) = 195 := by rw [h195]; rfl
        have hc2 : (s[k + 1].toNat : Int) < 128 ∨ (128 ≤ (s[k + 1].toNat : Int) ∧ 191 < (s[k + 1].toNat : Int)) := by omega
        clear hp hp' h195 h195'
        rcases hc with g1 | ⟨g1, g2⟩ <;> rcases hc2 with g3 | ⟨g3, g4⟩
        all_goals
         go_wp2_with fail
         go_ret
         exact ⟨ret_bool (by rw [HF.out]; try rfl), rfl⟩
       ·have e2 : ((k : Int) + 1 == (s.size : Int)) = true := by simp only [beq_iff_eq]; omega
        clear hp h195
        rcases hc with g1 | ⟨g1, g2⟩
        all_goals
         go_wp2_with fail
         go_ret
         exact ⟨ret_bool (by rw [HF.out]; try rfl), rfl⟩
      ·have e1 : ((s[k].toNat : Int) != 195) = true := by
        simp only [bne_iff_ne, ne_eq]; intro e; apply h195; rw [← UInt8.toNat_inj]; simp; omega
       clear hp h195
       rcases hc with g1 | ⟨g1, g2⟩
       all_goals
        go_wp2_with fail
        go_ret
        exact ⟨ret_bool (by rw [HF.out]; try rfl), rfl⟩
     ·have h2 := pairAt_lt s k hlt hp
      have hv := Lib.hid (valid_two s k hlt hp)
      obtain ⟨g0, g3, g4⟩ := pair_facts2 s k h2 hp
      have e1 : ((s[k].toNat : Int) != 195) = false := by rw [g0]; rfl
      have e2 : ((k : Int) + 1 == (s.size : Int)) = false := by simp only [beq_eq_false_iff_ne, ne_eq]; omega
      have g1 : 32 ≤ (s[k].toNat : Int) := by rw [g0]; decide
      have g2 : 126 < (s[k].toNat : Int) := by rw [g0]; decide
      clear hok hp g0
      go_wp2_with fail
      go_round
      case rel => exact ⟨k + 2, by omega, by go_num, Lib.hid (HV.out.trans hv.out)⟩
      case measure => simp [intOf]; omega
    ·have hp := ok_not_pair s k hlt hok
     have hv := Lib.hid (valid_one s k hlt hp)
     have HOk := Lib.hid hok
     rw [ok_iff, decide_eq_true_iff] at hok
     obtain ⟨g1, g2⟩ := hok
     clear hp
     go_wp2_with fail
     go_round
     case rel => exact ⟨k + 1, by omega, by go_num, Lib.hid (HV.out.trans (by rw [hv.out, HOk.out]; rfl))⟩
     case measure => simp [intOf]; omega
   ·have hq : decide ((k : Int) < s.size) = false := by simp; omega
    have hd : s.data.toList.drop k = [] := List.drop_eq_nil_of_le (by rw [HL.out]; omega)
    have HD := Lib.hid hd; clear hd
    go_wp2_with fail
    go_ret
    refine ⟨ret_bool ?_, rfl⟩
    rw [HV.out, HD.out]
    first | rfl | (rw [HL.out, decide_eq_true (by omega)]; rfl)
 ·have d1 : decide ((64 : Int) < s.size) = true := by simp; omega
  go_enter Tryz.func179, Tryz.ntmps179
  go_wp2_with fail
  go_ret
  exact ⟨ret_bool (by rw [HL.out, decide_eq_false (by omega)]; simp), rfl⟩
end
section
set_option maxRecDepth 100000
open Go.RowKit
attribute [local go_sem] toList_mk mk_size bytes_append
def tabR : List UInt8 := [97, 97, 97, 97, 97, 97, 63, 63, 101, 101, 101, 101, 105, 105, 105, 105, 100, 110, 111, 111, 111, 111, 111, 63, 111, 117, 117, 117, 117, 121, 63, 63]
def replR (n : Nat) : List UInt8 := if n % 32 = 6 then [97, 101] else if n % 32 = 7 then [99] else if n % 32 = 23 then [] else if n % 32 = 30 then [116, 104] else if n = 31 then [115, 115] else if n = 63 then [121] else [tabR.getD (n % 32) 0]
theorem replB_is : ∀ n : Fin 64, replB (UInt8.ofNat (128 + n)) = replR n := by decide
theorem and_31 : ((List.range 64).all fun n => bits .and .u8 ((128 + n : Nat) : Int) 31 == ((n % 32 : Nat) : Int)) = true := by kernel_rfl
theorem tab_ext (r : Nat) (h : r < 32) : (⟨#[97, 97, 97, 97, 97, 97, 63, 63, 101, 101, 101, 101, 105, 105, 105, 105, 100, 110, 111, 111, 111, 111, 111, 63, 111, 117, 117, 117, 117, 121, 63, 63]⟩ : ByteArray).extract r (r + 1) = ⟨[tabR.getD r 0].toArray⟩ := by
 have h' : r < (⟨tabR.toArray⟩ : ByteArray).size := h
 have := ext_one ⟨tabR.toArray⟩ r h'
 refine this.trans ?_
 congr 3
 rw [List.getD, List.getElem?_eq_getElem (show r < tabR.length from h)]; rfl
set_option maxHeartbeats 2000000 in
theorem rrepl_any (x : UInt8) (w : World) (h1 : 128 ≤ (x.toNat : Int)) (h2 : (x.toNat : Int) ≤ 191) :
  Calls Tryz.prog 180 #[.int .u8 x.toNat] w fun e w' => e = .returned (strV (replB x)) ∧ w = w' := by
 obtain ⟨n, hn⟩ : ∃ n : Nat, x.toNat = 128 + n := ⟨x.toNat - 128, by omega⟩
 have hn64 : n < 64 := by omega
 have hx : x = UInt8.ofNat (128 + n) := by rw [← hn]; simp
 have hR : replB x = replR n := by rw [hx]; exact replB_is ⟨n, hn64⟩
 have hand : bits .and .u8 (x.toNat : Int) 31 = ((n % 32 : Nat) : Int) := by
  have := List.all_eq_true.1 and_31 n (List.mem_range.2 hn64)
  rw [hn]; simpa using this
 obtain ⟨r, hr⟩ : ∃ r, n % 32 = r := ⟨_, rfl⟩
 have hr32 : r < 32 := by omega
 have hRr : replR n = if r = 6 then [97, 101] else if r = 7 then [99] else if r = 23 then [] else if r = 30 then [116, 104] else if n = 31 then [115, 115] else if n = 63 then [121] else [tabR.getD r 0] := by unfold replR; rw [hr]
 rw [hR, hRr]
 rw [hr] at hand
 have hn1 : (x.toNat : Int) = 128 + (n : Int) := by omega
 have hb := x.toNat_lt
 have HR := Lib.hid hr; have HN := Lib.hid hn1
 clear hx hR hRr hr hn hn1
 by_cases c6 : r = 6
 ·subst c6
  go_enter Tryz.func180, Tryz.ntmps180
  go_wp2_with fail
  go_ret
  exact ⟨rfl, rfl⟩
 ·have e6 : ((r : Int) == 6) = false := by simp only [beq_eq_false_iff_ne, ne_eq]; omega
  rw [if_neg c6]
  by_cases c7 : r = 7
  ·subst c7
   clear c6
   go_enter Tryz.func180, Tryz.ntmps180
   go_wp2_with fail
   go_ret
   exact ⟨rfl, rfl⟩
  ·have e7 : ((r : Int) == 7) = false := by simp only [beq_eq_false_iff_ne, ne_eq]; omega
   rw [if_neg c7]
   by_cases c23 : r = 23
   ·subst c23
    clear c6 c7
    go_enter Tryz.func180, Tryz.ntmps180
    go_wp2_with fail
    go_ret
    exact ⟨rfl, rfl⟩
   ·have e23 : ((r : Int) == 23) = false := by simp only [beq_eq_false_iff_ne, ne_eq]; omega
    rw [if_neg c23]
    by_cases c30 : r = 30
    ·subst c30
     clear c6 c7 c23
     go_enter Tryz.func180, Tryz.ntmps180
     go_wp2_with fail
     go_ret
     exact ⟨rfl, rfl⟩
    ·have e30 : ((r : Int) == 30) = false := by simp only [beq_eq_false_iff_ne, ne_eq]; omega
     rw [if_neg c30]
     by_cases n31 : n = 31
     ·have e31 : ((x.toNat : Int) == 159) = true := by simp only [beq_iff_eq]; rw [HN.out]; omega
      rw [if_pos n31]
      clear c6 c7 c23 c30 n31
      go_enter Tryz.func180, Tryz.ntmps180
      go_wp2_with fail
      go_ret
      exact ⟨rfl, rfl⟩
     ·have e31 : ((x.toNat : Int) == 159) = false := by simp only [beq_eq_false_iff_ne, ne_eq]; rw [HN.out]; omega
      rw [if_neg n31]
      by_cases n63 : n = 63
      ·have e63 : ((x.toNat : Int) == 191) = true := by simp only [beq_iff_eq]; rw [HN.out]; omega
       rw [if_pos n63]
       clear c6 c7 c23 c30 n31 n63
       go_enter Tryz.func180, Tryz.ntmps180
       go_wp2_with fail
       go_ret
       exact ⟨rfl, rfl⟩
      ·have e63 : ((x.toNat : Int) == 191) = false := by simp only [beq_eq_false_iff_ne, ne_eq]; rw [HN.out]; omega
       rw [if_neg n63]
       have hext := tab_ext r hr32
       clear c6 c7 c23 c30 n31 n63
       go_enter Tryz.func180, Tryz.ntmps180
       go_wp2_with fail
       go_ret
       exact ⟨rfl, rfl⟩
end
end Go.Proofs.YthnfmolkppbbpaaGreatDoor
