/- Parts of one proof: SipA, AppendNil, OwnV, SipB, MakeQ, SipC, BitsA, CmpPlain, BloomA, SchJ. -/
import Derived.Test.YtoeplomdcannlaaGreatDoorPartEb3
import Derived.Deep.AppendLies
import Derived.Deep.RegionLaw
import Derived.Lib.AppendStr
import Derived.Deep.DeepCutAuto
set_option linter.unusedSimpArgs false
set_option linter.unusedVariables false
namespace Go.Proofs.YtoeplomdcannlaaGreatDoor
section
set_option maxRecDepth 100000
open Go.RowKit
abbrev sipC (s : Sip) : Array Value := #[.int .u64 s.a, .int .u64 s.b, .int .u64 s.c, .int .u64 s.d]
set_option maxHeartbeats 400000 in
theorem rot13 (x : Int) (w : World) : Calls Tryz.prog 258 #[.int .u64 x, .int .i64 13] w fun e w' => e = .returned (.int .u64 (rotP 8192 2251799813685248 x)) ∧ w = w' := by
  have hb : bits .and .u64 13 63 = 13 := by decide +kernel
  go_enter Tryz.func258, Tryz.ntmps258
  go_wp2
  go_ret
  exact ⟨rfl, rfl⟩
set_option maxHeartbeats 400000 in
theorem rot32 (x : Int) (w : World) : Calls Tryz.prog 258 #[.int .u64 x, .int .i64 32] w fun e w' => e = .returned (.int .u64 (rotP 4294967296 4294967296 x)) ∧ w = w' := by
  have hb : bits .and .u64 32 63 = 32 := by decide +kernel
  go_enter Tryz.func258, Tryz.ntmps258
  go_wp2
  go_ret
  exact ⟨rfl, rfl⟩
set_option maxHeartbeats 400000 in
theorem rot16 (x : Int) (w : World) : Calls Tryz.prog 258 #[.int .u64 x, .int .i64 16] w fun e w' => e = .returned (.int .u64 (rotP 65536 281474976710656 x)) ∧ w = w' := by
  have hb : bits .and .u64 16 63 = 16 := by decide +kernel
  go_enter Tryz.func258, Tryz.ntmps258
  go_wp2
  go_ret
  exact ⟨rfl, rfl⟩
set_option maxHeartbeats 400000 in
theorem rot21 (x : Int) (w : World) : Calls Tryz.prog 258 #[.int .u64 x, .int .i64 21] w fun e w' => e = .returned (.int .u64 (rotP 2097152 8796093022208 x)) ∧ w = w' := by
  have hb : bits .and .u64 21 63 = 21 := by decide +kernel
  go_enter Tryz.func258, Tryz.ntmps258
  go_wp2
  go_ret
  exact ⟨rfl, rfl⟩
set_option maxHeartbeats 400000 in
theorem rot17 (x : Int) (w : World) : Calls Tryz.prog 258 #[.int .u64 x, .int .i64 17] w fun e w' => e = .returned (.int .u64 (rotP 131072 140737488355328 x)) ∧ w = w' := by
  have hb : bits .and .u64 17 63 = 17 := by decide +kernel
  go_enter Tryz.func258, Tryz.ntmps258
  go_wp2
  go_ret
  exact ⟨rfl, rfl⟩
theorem cellsS {w : World} {b : Nat} {x y z u : Value} {t : TypeId} {fr : Nat × Nat} (h : w.heap[b]? = some (.cells #[x, y, z, u] t fr)) :
    w.cell? ⟨b, 0, none⟩ = some x ∧ w.cell? ⟨b, 1, none⟩ = some y ∧ w.cell? ⟨b, 2, none⟩ = some z ∧ w.cell? ⟨b, 3, none⟩ = some u := by
  refine ⟨?_, ?_, ?_, ?_⟩ <;> (rw [cell_of_row _ _ _ _ _ _ h]; rfl)
theorem freeS {w : World} {b : Nat} {cs : Array Value} {t : TypeId} (h : w.heap[b]? = some (.cells cs t (0, 0))) :
    w.frozen? ⟨b, 0, none⟩ = false ∧ w.frozen? ⟨b, 1, none⟩ = false ∧ w.frozen? ⟨b, 2, none⟩ = false ∧ w.frozen? ⟨b, 3, none⟩ = false := ⟨frozen_of_row _ _ _ _ _ h, frozen_of_row _ _ _ _ _ h, frozen_of_row _ _ _ _ _ h, frozen_of_row _ _ _ _ _ h⟩
/-- s lies in block b; all but that block is as it was -/
def SipAt (w : World) (b : Nat) (s : Sip) (w' : World) : Prop := w'.heap[b]? = some (.cells (sipC s) 242 (0, 0)) ∧ w.grownBy w' (some b)
theorem SipAt.read {w w' : World} {b : Nat} {s : Sip} (h : SipAt w b s w') : (w'.cell? ⟨b, 0, none⟩ = some (.int .u64 s.a) ∧ w'.cell? ⟨b, 1, none⟩ = some (.int .u64 s.b) ∧ w'.cell? ⟨b, 2, none⟩ = some (.int .u64 s.c) ∧ w'.cell? ⟨b, 3, none⟩ = some (.int .u64 s.d)) ∧
    (w'.frozen? ⟨b, 0, none⟩ = false ∧ w'.frozen? ⟨b, 1, none⟩ = false ∧ w'.frozen? ⟨b, 2, none⟩ = false ∧ w'.frozen? ⟨b, 3, none⟩ = false) := ⟨cellsS h.1, freeS h.1⟩
theorem SipAt.set {w w' : World} {b i : Nat} {s s' : Sip} {v : Value} {n : Nat} (h : SipAt w b s w') (e : (sipC s).setIfInBounds i v = sipC s') : SipAt w b s' ((w'.drewN n).setCell ⟨b, i, none⟩ v) :=
  ⟨by rw [← e]; exact blk_set h.1, grown_set (grown_drewN h.2 n)⟩
/-- .. behind a region -/
theorem exitk_world {K : Act → World → Prop} {Q : Exit → Act → World → Prop} {x : Exit} {a : Act} {W : World} (h : ∀ w', w' = W → Exit.then K Q x a w') : Exit.then K Q x a W := h W rfl
def rndI : Nat → Sip → Sip
  | 0, s => s
  | n + 1, s => rndP (rndI n s)
set_option maxHeartbeats 4000000 in
theorem rounds_any (b : Nat) (s : Sip) (n : Nat) (w : World) (hb : w.heap[b]? = some (.cells (sipC s) 242 (0, 0))) (hn : n ≤ 4) :
    Calls Tryz.prog 217 #[.pointer (some ⟨b, 0, none⟩), .int .i64 n] w fun e w' => e = .returned (.tuple #[]) ∧ SipAt w b (rndI n s) w' := by
  have HB := Lib.hid hb; clear hb
  go_enter Tryz.func217, Tryz.ntmps217
  go_wp2_with fail
  go_loopw [5] (fun i wr => ∃ k : Nat, i = .int .i64 k ∧ k ≤ n ∧ SipAt w b (rndI k s) wr) (fun i _ => n - (intOf i).toNat)
  case atStart => exact ⟨0, rfl, by omega, HB.out, grown_refl _ _⟩
  case round =>
    obtain ⟨k, rfl, hk, hs⟩ := hrel
    have HS := Lib.hid hs; clear hs
    by_cases hlt : k < n
    · have hq : decide ((k : Int) < n) = true := by simp; omega
      obtain ⟨s0, hs0⟩ : ∃ s0, rndI k s = s0 := ⟨_, rfl⟩
      rw [hs0] at HS
      obtain ⟨a, b0, c, d⟩ := s0
      obtain ⟨⟨c0, c1, c2, c3⟩, f0, f1, f2, f3⟩ := HS.out.read
      dsimp only at c0 c1 c2 c3
      go_wp2_with fail
      refine wp_region_noPanic ?_
      refine wp_region_k (by kernel_rfl) (fun w' => w'.cell? ⟨b, 0, none⟩ = some (.int .u64 a) ∧ w'.cell? ⟨b, 1, none⟩ = some (.int .u64 b0) ∧ w'.cell? ⟨b, 2, none⟩ = some (.int .u64 c) ∧ w'.cell? ⟨b, 3, none⟩ = some (.int .u64 d) ∧ w'.frozen? ⟨b, 0, none⟩ = false ∧ w'.frozen? ⟨b, 1, none⟩ = false ∧ w'.frozen? ⟨b, 2, none⟩ = false ∧ w'.frozen? ⟨b, 3, none⟩ = false) 11 (⟨c0, c1, c2, c3, f0, f1, f2, f3⟩) (fun hHeld => ?_)
      refine tK 0 (h := ?_)
      try simp only [List.getElem_toArray, List.getElem_cons_zero, List.getElem_cons_succ, Act.put, List.setIfInBounds_toArray, List.set_cons_zero, List.set_cons_succ]
      refine tK 1 (h := ?_)
      try simp only [List.getElem_toArray, List.getElem_cons_zero, List.getElem_cons_succ, Act.put, List.setIfInBounds_toArray, List.set_cons_zero, List.set_cons_succ]
      refine tK 2 (h := ?_)
      try simp only [List.getElem_toArray, List.getElem_cons_zero, List.getElem_cons_succ, Act.put, List.setIfInBounds_toArray, List.set_cons_zero, List.set_cons_succ]
      refine tK 3 (h := ?_)
      try simp only [List.getElem_toArray, List.getElem_cons_zero, List.getElem_cons_succ, Act.put, List.setIfInBounds_toArray, List.set_cons_zero, List.set_cons_succ]
      refine tK 4 (h := ?_)
      try simp only [List.getElem_toArray, List.getElem_cons_zero, List.getElem_cons_succ, Act.put, List.setIfInBounds_toArray, List.set_cons_zero, List.set_cons_succ]
      refine tK 5 (h := ?_)
      try simp only [List.getElem_toArray, List.getElem_cons_zero, List.getElem_cons_succ, Act.put, List.setIfInBounds_toArray, List.set_cons_zero, List.set_cons_succ]
      refine tK 6 (h := ?_)
      try simp only [List.getElem_toArray, List.getElem_cons_zero, List.getElem_cons_succ, Act.put, List.setIfInBounds_toArray, List.set_cons_zero, List.set_cons_succ]
      refine tK 7 (h := ?_)
      try simp only [List.getElem_toArray, List.getElem_cons_zero, List.getElem_cons_succ, Act.put, List.setIfInBounds_toArray, List.set_cons_zero, List.set_cons_succ]
      refine tK 8 (h := ?_)
      try simp only [List.getElem_toArray, List.getElem_cons_zero, List.getElem_cons_succ, Act.put, List.setIfInBounds_toArray, List.set_cons_zero, List.set_cons_succ]
      refine tK 9 (h := ?_)
      try simp only [List.getElem_toArray, List.getElem_cons_zero, List.getElem_cons_succ, Act.put, List.setIfInBounds_toArray, List.set_cons_zero, List.set_cons_succ]
      refine tK 10 (h := ?_)
      try simp only [List.getElem_toArray, List.getElem_cons_zero, List.getElem_cons_succ, Act.put, List.setIfInBounds_toArray, List.set_cons_zero, List.set_cons_succ]
      refine wpAnyK_ready (rs := [11]) (by kernel_rfl) (by simp) ?_
      refine AllReadyK.cons rfl (fun K hK => ?_) AllReadyK.nil
      go_simp
      refine shutK_off hK (by decide) ?_
      clear hK K
      try simp only [List.getElem_toArray, List.getElem_cons_zero, List.getElem_cons_succ, Act.put, List.setIfInBounds_toArray, List.set_cons_zero, List.set_cons_succ]
      refine wpAnyK_done (by kernel_rfl) ?_ _
      refine NoPanic.normal ?_
      first | refine wp_world (fun w1 hw1 => ?_) | refine exitk_world (fun w1 hw1 => ?_)
      have hs : SipAt w b ⟨ad a b0, b0, c, d⟩ w1 := by rw [hw1]; first | exact HS.out.set (n := 0) rfl | exact HS.out.set (n := 1) rfl
      obtain ⟨x1, hx1⟩ : ∃ x, ad a b0 = x := ⟨_, rfl⟩
      rw [hx1] at hs
      have Hx1 := Lib.hid hx1; clear hx1
      clear hw1 HS c0 c1 c2 c3 f0 f1 f2 f3; have HS := Lib.hid hs; clear hs
      obtain ⟨⟨c0, c1, c2, c3⟩, f0, f1, f2, f3⟩ := HS.out.read
      dsimp only at c0 c1 c2 c3
      go_wp2_with fail
      refine wp_region_noPanic ?_
      refine wp_region_k (by kernel_rfl) (fun w' => w'.cell? ⟨b, 0, none⟩ = some (.int .u64 x1) ∧ w'.cell? ⟨b, 1, none⟩ = some (.int .u64 b0) ∧ w'.cell? ⟨b, 2, none⟩ = some (.int .u64 c) ∧ w'.cell? ⟨b, 3, none⟩ = some (.int .u64 d) ∧ w'.frozen? ⟨b, 0, none⟩ = false ∧ w'.frozen? ⟨b, 1, none⟩ = false ∧ w'.frozen? ⟨b, 2, none⟩ = false ∧ w'.frozen? ⟨b, 3, none⟩ = false) 13 (⟨c0, c1, c2, c3, f0, f1, f2, f3⟩) (fun hHeld => ?_)
      refine tK 0 (h := ?_)
      try simp only [List.getElem_toArray, List.getElem_cons_zero, List.getElem_cons_succ, Act.put, List.setIfInBounds_toArray, List.set_cons_zero, List.set_cons_succ]
      refine tK 1 (h := ?_)
      try simp only [List.getElem_toArray, List.getElem_cons_zero, List.getElem_cons_succ, Act.put, List.setIfInBounds_toArray, List.set_cons_zero, List.set_cons_succ]
      refine tK 2 (h := ?_)
      try simp only [List.getElem_toArray, List.getElem_cons_zero, List.getElem_cons_succ, Act.put, List.setIfInBounds_toArray, List.set_cons_zero, List.set_cons_succ]
      refine tK 3 (h := ?_)
      try simp only [List.getElem_toArray, List.getElem_cons_zero, List.getElem_cons_succ, Act.put, List.setIfInBounds_toArray, List.set_cons_zero, List.set_cons_succ]
      refine tK 4 (h := ?_)
      try simp only [List.getElem_toArray, List.getElem_cons_zero, List.getElem_cons_succ, Act.put, List.setIfInBounds_toArray, List.set_cons_zero, List.set_cons_succ]
      refine tK 6 (h := ?_)
      try simp only [List.getElem_toArray, List.getElem_cons_zero, List.getElem_cons_succ, Act.put, List.setIfInBounds_toArray, List.set_cons_zero, List.set_cons_succ]
      refine tK 7 (h := ?_)
      try simp only [List.getElem_toArray, List.getElem_cons_zero, List.getElem_cons_succ, Act.put, List.setIfInBounds_toArray, List.set_cons_zero, List.set_cons_succ]
      refine tK 8 (h := ?_)
      try simp only [List.getElem_toArray, List.getElem_cons_zero, List.getElem_cons_succ, Act.put, List.setIfInBounds_toArray, List.set_cons_zero, List.set_cons_succ]
      refine tK 9 (h := ?_)
      try simp only [List.getElem_toArray, List.getElem_cons_zero, List.getElem_cons_succ, Act.put, List.setIfInBounds_toArray, List.set_cons_zero, List.set_cons_succ]
      refine wpAnyK_ready (rs := [5]) (by kernel_rfl) (by simp) ?_
      refine AllReadyK.cons rfl (fun K hK => ?_) AllReadyK.nil
      go_simp
      refine (rot13 _ _).mono ?_; rintro e wq ⟨rfl, rfl⟩
      refine shutK hK (⟨c0, c1, c2, c3, f0, f1, f2, f3⟩) (fun hHeld => ?_)
      clear hK K
      try simp only [List.getElem_toArray, List.getElem_cons_zero, List.getElem_cons_succ, Act.put, List.setIfInBounds_toArray, List.set_cons_zero, List.set_cons_succ]
      refine tK 10 (h := ?_)
      try simp only [List.getElem_toArray, List.getElem_cons_zero, List.getElem_cons_succ, Act.put, List.setIfInBounds_toArray, List.set_cons_zero, List.set_cons_succ]
      refine tK 11 (h := ?_)
      try simp only [List.getElem_toArray, List.getElem_cons_zero, List.getElem_cons_succ, Act.put, List.setIfInBounds_toArray, List.set_cons_zero, List.set_cons_succ]
      refine tK 12 (h := ?_)
      try simp only [List.getElem_toArray, List.getElem_cons_zero, List.getElem_cons_succ, Act.put, List.setIfInBounds_toArray, List.set_cons_zero, List.set_cons_succ]
      refine wpAnyK_ready (rs := [13]) (by kernel_rfl) (by simp) ?_
      refine AllReadyK.cons rfl (fun K hK => ?_) AllReadyK.nil
      go_simp
      refine shutK_off hK (by decide) ?_
      clear hK K
      try simp only [List.getElem_toArray, List.getElem_cons_zero, List.getElem_cons_succ, Act.put, List.setIfInBounds_toArray, List.set_cons_zero, List.set_cons_succ]
      refine wpAnyK_done (by kernel_rfl) ?_ _
      refine NoPanic.normal ?_
      first | refine wp_world (fun w1 hw1 => ?_) | refine exitk_world (fun w1 hw1 => ?_)
      have hs : SipAt w b ⟨x1, xr (rotP 8192 2251799813685248 b0) x1, c, d⟩ w1 := by rw [hw1]; first | exact HS.out.set (n := 0) rfl | exact HS.out.set (n := 1) rfl
      obtain ⟨x2, hx2⟩ : ∃ x, xr (rotP 8192 2251799813685248 b0) x1 = x := ⟨_, rfl⟩
      rw [hx2] at hs
      have Hx2 := Lib.hid hx2; clear hx2
      clear hw1 HS c0 c1 c2 c3 f0 f1 f2 f3; have HS := Lib.hid hs; clear hs
      obtain ⟨⟨c0, c1, c2, c3⟩, f0, f1, f2, f3⟩ := HS.out.read
      dsimp only at c0 c1 c2 c3
      go_wp2_with fail
      refine (rot32 _ _).mono ?_; rintro e wq ⟨rfl, rfl⟩
      go_wp2_with fail
      first | refine wp_world (fun w1 hw1 => ?_) | refine exitk_world (fun w1 hw1 => ?_)
      have hs : SipAt w b ⟨rotP 4294967296 4294967296 x1, x2, c, d⟩ w1 := by rw [hw1]; first | exact HS.out.set (n := 0) rfl | exact HS.out.set (n := 1) rfl
      obtain ⟨x3, hx3⟩ : ∃ x, rotP 4294967296 4294967296 x1 = x := ⟨_, rfl⟩
      rw [hx3] at hs
      have Hx3 := Lib.hid hx3; clear hx3
      clear hw1 HS c0 c1 c2 c3 f0 f1 f2 f3; have HS := Lib.hid hs; clear hs
      obtain ⟨⟨c0, c1, c2, c3⟩, f0, f1, f2, f3⟩ := HS.out.read
      dsimp only at c0 c1 c2 c3
      go_wp2_with fail
      refine wp_region_noPanic ?_
      refine wp_region_k (by kernel_rfl) (fun w' => w'.cell? ⟨b, 0, none⟩ = some (.int .u64 x3) ∧ w'.cell? ⟨b, 1, none⟩ = some (.int .u64 x2) ∧ w'.cell? ⟨b, 2, none⟩ = some (.int .u64 c) ∧ w'.cell? ⟨b, 3, none⟩ = some (.int .u64 d) ∧ w'.frozen? ⟨b, 0, none⟩ = false ∧ w'.frozen? ⟨b, 1, none⟩ = false ∧ w'.frozen? ⟨b, 2, none⟩ = false ∧ w'.frozen? ⟨b, 3, none⟩ = false) 11 (⟨c0, c1, c2, c3, f0, f1, f2, f3⟩) (fun hHeld => ?_)
      refine tK 0 (h := ?_)
      try simp only [List.getElem_toArray, List.getElem_cons_zero, List.getElem_cons_succ, Act.put, List.setIfInBounds_toArray, List.set_cons_zero, List.set_cons_succ]
      refine tK 1 (h := ?_)
      try simp only [List.getElem_toArray, List.getElem_cons_zero, List.getElem_cons_succ, Act.put, List.setIfInBounds_toArray, List.set_cons_zero, List.set_cons_succ]
      refine tK 2 (h := ?_)
      try simp only [List.getElem_toArray, List.getElem_cons_zero, List.getElem_cons_succ, Act.put, List.setIfInBounds_toArray, List.set_cons_zero, List.set_cons_succ]
      refine tK 3 (h := ?_)
      try simp only [List.getElem_toArray, List.getElem_cons_zero, List.getElem_cons_succ, Act.put, List.setIfInBounds_toArray, List.set_cons_zero, List.set_cons_succ]
      refine tK 4 (h := ?_)
      try simp only [List.getElem_toArray, List.getElem_cons_zero, List.getElem_cons_succ, Act.put, List.setIfInBounds_toArray, List.set_cons_zero, List.set_cons_succ]
      refine tK 5 (h := ?_)
      try simp only [List.getElem_toArray, List.getElem_cons_zero, List.getElem_cons_succ, Act.put, List.setIfInBounds_toArray, List.set_cons_zero, List.set_cons_succ]
      refine tK 6 (h := ?_)
      try simp only [List.getElem_toArray, List.getElem_cons_zero, List.getElem_cons_succ, Act.put, List.setIfInBounds_toArray, List.set_cons_zero, List.set_cons_succ]
      refine tK 7 (h := ?_)
      try simp only [List.getElem_toArray, List.getElem_cons_zero, List.getElem_cons_succ, Act.put, List.setIfInBounds_toArray, List.set_cons_zero, List.set_cons_succ]
      refine tK 8 (h := ?_)
      try simp only [List.getElem_toArray, List.getElem_cons_zero, List.getElem_cons_succ, Act.put, List.setIfInBounds_toArray, List.set_cons_zero, List.set_cons_succ]
      refine tK 9 (h := ?_)
      try simp only [List.getElem_toArray, List.getElem_cons_zero, List.getElem_cons_succ, Act.put, List.setIfInBounds_toArray, List.set_cons_zero, List.set_cons_succ]
      refine tK 10 (h := ?_)
      try simp only [List.getElem_toArray, List.getElem_cons_zero, List.getElem_cons_succ, Act.put, List.setIfInBounds_toArray, List.set_cons_zero, List.set_cons_succ]
      refine wpAnyK_ready (rs := [11]) (by kernel_rfl) (by simp) ?_
      refine AllReadyK.cons rfl (fun K hK => ?_) AllReadyK.nil
      go_simp
      refine shutK_off hK (by decide) ?_
      clear hK K
      try simp only [List.getElem_toArray, List.getElem_cons_zero, List.getElem_cons_succ, Act.put, List.setIfInBounds_toArray, List.set_cons_zero, List.set_cons_succ]
      refine wpAnyK_done (by kernel_rfl) ?_ _
      refine NoPanic.normal ?_
      first | refine wp_world (fun w1 hw1 => ?_) | refine exitk_world (fun w1 hw1 => ?_)
      have hs : SipAt w b ⟨x3, x2, ad c d, d⟩ w1 := by rw [hw1]; first | exact HS.out.set (n := 0) rfl | exact HS.out.set (n := 1) rfl
      obtain ⟨x4, hx4⟩ : ∃ x, ad c d = x := ⟨_, rfl⟩
      rw [hx4] at hs
      have Hx4 := Lib.hid hx4; clear hx4
      clear hw1 HS c0 c1 c2 c3 f0 f1 f2 f3; have HS := Lib.hid hs; clear hs
      obtain ⟨⟨c0, c1, c2, c3⟩, f0, f1, f2, f3⟩ := HS.out.read
      dsimp only at c0 c1 c2 c3
      go_wp2_with fail
      refine wp_region_noPanic ?_
      refine wp_region_k (by kernel_rfl) (fun w' => w'.cell? ⟨b, 0, none⟩ = some (.int .u64 x3) ∧ w'.cell? ⟨b, 1, none⟩ = some (.int .u64 x2) ∧ w'.cell? ⟨b, 2, none⟩ = some (.int .u64 x4) ∧ w'.cell? ⟨b, 3, none⟩ = some (.int .u64 d) ∧ w'.frozen? ⟨b, 0, none⟩ = false ∧ w'.frozen? ⟨b, 1, none⟩ = false ∧ w'.frozen? ⟨b, 2, none⟩ = false ∧ w'.frozen? ⟨b, 3, none⟩ = false) 13 (⟨c0, c1, c2, c3, f0, f1, f2, f3⟩) (fun hHeld => ?_)
      refine tK 0 (h := ?_)
      try simp only [List.getElem_toArray, List.getElem_cons_zero, List.getElem_cons_succ, Act.put, List.setIfInBounds_toArray, List.set_cons_zero, List.set_cons_succ]
      refine tK 1 (h := ?_)
      try simp only [List.getElem_toArray, List.getElem_cons_zero, List.getElem_cons_succ, Act.put, List.setIfInBounds_toArray, List.set_cons_zero, List.set_cons_succ]
      refine tK 2 (h := ?_)
      try simp only [List.getElem_toArray, List.getElem_cons_zero, List.getElem_cons_succ, Act.put, List.setIfInBounds_toArray, List.set_cons_zero, List.set_cons_succ]
      refine tK 3 (h := ?_)
      try simp only [List.getElem_toArray, List.getElem_cons_zero, List.getElem_cons_succ, Act.put, List.setIfInBounds_toArray, List.set_cons_zero, List.set_cons_succ]
      refine tK 4 (h := ?_)
      try simp only [List.getElem_toArray, List.getElem_cons_zero, List.getElem_cons_succ, Act.put, List.setIfInBounds_toArray, List.set_cons_zero, List.set_cons_succ]
      refine tK 6 (h := ?_)
      try simp only [List.getElem_toArray, List.getElem_cons_zero, List.getElem_cons_succ, Act.put, List.setIfInBounds_toArray, List.set_cons_zero, List.set_cons_succ]
      refine tK 7 (h := ?_)
      try simp only [List.getElem_toArray, List.getElem_cons_zero, List.getElem_cons_succ, Act.put, List.setIfInBounds_toArray, List.set_cons_zero, List.set_cons_succ]
      refine tK 8 (h := ?_)
      try simp only [List.getElem_toArray, List.getElem_cons_zero, List.getElem_cons_succ, Act.put, List.setIfInBounds_toArray, List.set_cons_zero, List.set_cons_succ]
      refine tK 9 (h := ?_)
      try simp only [List.getElem_toArray, List.getElem_cons_zero, List.getElem_cons_succ, Act.put, List.setIfInBounds_toArray, List.set_cons_zero, List.set_cons_succ]
      refine wpAnyK_ready (rs := [5]) (by kernel_rfl) (by simp) ?_
      refine AllReadyK.cons rfl (fun K hK => ?_) AllReadyK.nil
      go_simp
      refine (rot16 _ _).mono ?_; rintro e wq ⟨rfl, rfl⟩
      refine shutK hK (⟨c0, c1, c2, c3, f0, f1, f2, f3⟩) (fun hHeld => ?_)
      clear hK K
      try simp only [List.getElem_toArray, List.getElem_cons_zero, List.getElem_cons_succ, Act.put, List.setIfInBounds_toArray, List.set_cons_zero, List.set_cons_succ]
      refine tK 10 (h := ?_)
      try simp only [List.getElem_toArray, List.getElem_cons_zero, List.getElem_cons_succ, Act.put, List.setIfInBounds_toArray, List.set_cons_zero, List.set_cons_succ]
      refine tK 11 (h := ?_)
      try simp only [List.getElem_toArray, List.getElem_cons_zero, List.getElem_cons_succ, Act.put, List.setIfInBounds_toArray, List.set_cons_zero, List.set_cons_succ]
      refine tK 12 (h := ?_)
      try simp only [List.getElem_toArray, List.getElem_cons_zero, List.getElem_cons_succ, Act.put, List.setIfInBounds_toArray, List.set_cons_zero, List.set_cons_succ]
      refine wpAnyK_ready (rs := [13]) (by kernel_rfl) (by simp) ?_
      refine AllReadyK.cons rfl (fun K hK => ?_) AllReadyK.nil
      go_simp
      refine shutK_off hK (by decide) ?_
      clear hK K
      try simp only [List.getElem_toArray, List.getElem_cons_zero, List.getElem_cons_succ, Act.put, List.setIfInBounds_toArray, List.set_cons_zero, List.set_cons_succ]
      refine wpAnyK_done (by kernel_rfl) ?_ _
      refine NoPanic.normal ?_
      first | refine wp_world (fun w1 hw1 => ?_) | refine exitk_world (fun w1 hw1 => ?_)
      have hs : SipAt w b ⟨x3, x2, x4, xr (rotP 65536 281474976710656 d) x4⟩ w1 := by rw [hw1]; first | exact HS.out.set (n := 0) rfl | exact HS.out.set (n := 1) rfl
      obtain ⟨x5, hx5⟩ : ∃ x, xr (rotP 65536 281474976710656 d) x4 = x := ⟨_, rfl⟩
      rw [hx5] at hs
      have Hx5 := Lib.hid hx5; clear hx5
      clear hw1 HS c0 c1 c2 c3 f0 f1 f2 f3; have HS := Lib.hid hs; clear hs
      obtain ⟨⟨c0, c1, c2, c3⟩, f0, f1, f2, f3⟩ := HS.out.read
      dsimp only at c0 c1 c2 c3
      go_wp2_with fail
      refine wp_region_noPanic ?_
      refine wp_region_k (by kernel_rfl) (fun w' => w'.cell? ⟨b, 0, none⟩ = some (.int .u64 x3) ∧ w'.cell? ⟨b, 1, none⟩ = some (.int .u64 x2) ∧ w'.cell? ⟨b, 2, none⟩ = some (.int .u64 x4) ∧ w'.cell? ⟨b, 3, none⟩ = some (.int .u64 x5) ∧ w'.frozen? ⟨b, 0, none⟩ = false ∧ w'.frozen? ⟨b, 1, none⟩ = false ∧ w'.frozen? ⟨b, 2, none⟩ = false ∧ w'.frozen? ⟨b, 3, none⟩ = false) 11 (⟨c0, c1, c2, c3, f0, f1, f2, f3⟩) (fun hHeld => ?_)
      refine tK 0 (h := ?_)
      try simp only [List.getElem_toArray, List.getElem_cons_zero, List.getElem_cons_succ, Act.put, List.setIfInBounds_toArray, List.set_cons_zero, List.set_cons_succ]
      refine tK 1 (h := ?_)
      try simp only [List.getElem_toArray, List.getElem_cons_zero, List.getElem_cons_succ, Act.put, List.setIfInBounds_toArray, List.set_cons_zero, List.set_cons_succ]
      refine tK 2 (h := ?_)
      try simp only [List.getElem_toArray, List.getElem_cons_zero, List.getElem_cons_succ, Act.put, List.setIfInBounds_toArray, List.set_cons_zero, List.set_cons_succ]
      refine tK 3 (h := ?_)
      try simp only [List.getElem_toArray, List.getElem_cons_zero, List.getElem_cons_succ, Act.put, List.setIfInBounds_toArray, List.set_cons_zero, List.set_cons_succ]
      refine tK 4 (h := ?_)
      try simp only [List.getElem_toArray, List.getElem_cons_zero, List.getElem_cons_succ, Act.put, List.setIfInBounds_toArray, List.set_cons_zero, List.set_cons_succ]
      refine tK 5 (h := ?_)
      try simp only [List.getElem_toArray, List.getElem_cons_zero, List.getElem_cons_succ, Act.put, List.setIfInBounds_toArray, List.set_cons_zero, List.set_cons_succ]
      refine tK 6 (h := ?_)
      try simp only [List.getElem_toArray, List.getElem_cons_zero, List.getElem_cons_succ, Act.put, List.setIfInBounds_toArray, List.set_cons_zero, List.set_cons_succ]
      refine tK 7 (h := ?_)
      try simp only [List.getElem_toArray, List.getElem_cons_zero, List.getElem_cons_succ, Act.put, List.setIfInBounds_toArray, List.set_cons_zero, List.set_cons_succ]
      refine tK 8 (h := ?_)
      try simp only [List.getElem_toArray, List.getElem_cons_zero, List.getElem_cons_succ, Act.put, List.setIfInBounds_toArray, List.set_cons_zero, List.set_cons_succ]
      refine tK 9 (h := ?_)
      try simp only [List.getElem_toArray, List.getElem_cons_zero, List.getElem_cons_succ, Act.put, List.setIfInBounds_toArray, List.set_cons_zero, List.set_cons_succ]
      refine tK 10 (h := ?_)
      try simp only [List.getElem_toArray, List.getElem_cons_zero, List.getElem_cons_succ, Act.put, List.setIfInBounds_toArray, List.set_cons_zero, List.set_cons_succ]
      refine wpAnyK_ready (rs := [11]) (by kernel_rfl) (by simp) ?_
      refine AllReadyK.cons rfl (fun K hK => ?_) AllReadyK.nil
      go_simp
      refine shutK_off hK (by decide) ?_
      clear hK K
      try simp only [List.getElem_toArray, List.getElem_cons_zero, List.getElem_cons_succ, Act.put, List.setIfInBounds_toArray, List.set_cons_zero, List.set_cons_succ]
      refine wpAnyK_done (by kernel_rfl) ?_ _
      refine NoPanic.normal ?_
      first | refine wp_world (fun w1 hw1 => ?_) | refine exitk_world (fun w1 hw1 => ?_)
      have hs : SipAt w b ⟨ad x3 x5, x2, x4, x5⟩ w1 := by rw [hw1]; first | exact HS.out.set (n := 0) rfl | exact HS.out.set (n := 1) rfl
      obtain ⟨x6, hx6⟩ : ∃ x, ad x3 x5 = x := ⟨_, rfl⟩
      rw [hx6] at hs
      have Hx6 := Lib.hid hx6; clear hx6
      clear hw1 HS c0 c1 c2 c3 f0 f1 f2 f3; have HS := Lib.hid hs; clear hs
      obtain ⟨⟨c0, c1, c2, c3⟩, f0, f1, f2, f3⟩ := HS.out.read
      dsimp only at c0 c1 c2 c3
      go_wp2_with fail
      refine wp_region_noPanic ?_
      refine wp_region_k (by kernel_rfl) (fun w' => w'.cell? ⟨b, 0, none⟩ = some (.int .u64 x6) ∧ w'.cell? ⟨b, 1, none⟩ = some (.int .u64 x2) ∧ w'.cell? ⟨b, 2, none⟩ = some (.int .u64 x4) ∧ w'.cell? ⟨b, 3, none⟩ = some (.int .u64 x5) ∧ w'.frozen? ⟨b, 0, none⟩ = false ∧ w'.frozen? ⟨b, 1, none⟩ = false ∧ w'.frozen? ⟨b, 2, none⟩ = false ∧ w'.frozen? ⟨b, 3, none⟩ = false) 13 (⟨c0, c1, c2, c3, f0, f1, f2, f3⟩) (fun hHeld => ?_)
      refine tK 0 (h := ?_)
      try simp only [List.getElem_toArray, List.getElem_cons_zero, List.getElem_cons_succ, Act.put, List.setIfInBounds_toArray, List.set_cons_zero, List.set_cons_succ]
      refine tK 1 (h := ?_)
      try simp only [List.getElem_toArray, List.getElem_cons_zero, List.getElem_cons_succ, Act.put, List.setIfInBounds_toArray, List.set_cons_zero, List.set_cons_succ]
      refine tK 2 (h := ?_)
      try simp only [List.getElem_toArray, List.getElem_cons_zero, List.getElem_cons_succ, Act.put, List.setIfInBounds_toArray, List.set_cons_zero, List.set_cons_succ]
      refine tK 3 (h := ?_)
      try simp only [List.getElem_toArray, List.getElem_cons_zero, List.getElem_cons_succ, Act.put, List.setIfInBounds_toArray, List.set_cons_zero, List.set_cons_succ]
      refine tK 4 (h := ?_)
      try simp only [List.getElem_toArray, List.getElem_cons_zero, List.getElem_cons_succ, Act.put, List.setIfInBounds_toArray, List.set_cons_zero, List.set_cons_succ]
      refine tK 6 (h := ?_)
      try simp only [List.getElem_toArray, List.getElem_cons_zero, List.getElem_cons_succ, Act.put, List.setIfInBounds_toArray, List.set_cons_zero, List.set_cons_succ]
      refine tK 7 (h := ?_)
      try simp only [List.getElem_toArray, List.getElem_cons_zero, List.getElem_cons_succ, Act.put, List.setIfInBounds_toArray, List.set_cons_zero, List.set_cons_succ]
      refine tK 8 (h := ?_)
      try simp only [List.getElem_toArray, List.getElem_cons_zero, List.getElem_cons_succ, Act.put, List.setIfInBounds_toArray, List.set_cons_zero, List.set_cons_succ]
      refine tK 9 (h := ?_)
      try simp only [List.getElem_toArray, List.getElem_cons_zero, List.getElem_cons_succ, Act.put, List.setIfInBounds_toArray, List.set_cons_zero, List.set_cons_succ]
      refine wpAnyK_ready (rs := [5]) (by kernel_rfl) (by simp) ?_
      refine AllReadyK.cons rfl (fun K hK => ?_) AllReadyK.nil
      go_simp
      refine (rot21 _ _).mono ?_; rintro e wq ⟨rfl, rfl⟩
      refine shutK hK (⟨c0, c1, c2, c3, f0, f1, f2, f3⟩) (fun hHeld => ?_)
      clear hK K
      try simp only [List.getElem_toArray, List.getElem_cons_zero, List.getElem_cons_succ, Act.put, List.setIfInBounds_toArray, List.set_cons_zero, List.set_cons_succ]
      refine tK 10 (h := ?_)
      try simp only [List.getElem_toArray, List.getElem_cons_zero, List.getElem_cons_succ, Act.put, List.setIfInBounds_toArray, List.set_cons_zero, List.set_cons_succ]
      refine tK 11 (h := ?_)
      try simp only [List.getElem_toArray, List.getElem_cons_zero, List.getElem_cons_succ, Act.put, List.setIfInBounds_toArray, List.set_cons_zero, List.set_cons_succ]
      refine tK 12 (h := ?_)
      try simp only [List.getElem_toArray, List.getElem_cons_zero, List.getElem_cons_succ, Act.put, List.setIfInBounds_toArray, List.set_cons_zero, List.set_cons_succ]
      refine wpAnyK_ready (rs := [13]) (by kernel_rfl) (by simp) ?_
      refine AllReadyK.cons rfl (fun K hK => ?_) AllReadyK.nil
      go_simp
      refine shutK_off hK (by decide) ?_
      clear hK K
      try simp only [List.getElem_toArray, List.getElem_cons_zero, List.getElem_cons_succ, Act.put, List.setIfInBounds_toArray, List.set_cons_zero, List.set_cons_succ]
      refine wpAnyK_done (by kernel_rfl) ?_ _
      refine NoPanic.normal ?_
      first | refine wp_world (fun w1 hw1 => ?_) | refine exitk_world (fun w1 hw1 => ?_)
      have hs : SipAt w b ⟨x6, x2, x4, xr (rotP 2097152 8796093022208 x5) x6⟩ w1 := by rw [hw1]; first | exact HS.out.set (n := 0) rfl | exact HS.out.set (n := 1) rfl
      obtain ⟨x7, hx7⟩ : ∃ x, xr (rotP 2097152 8796093022208 x5) x6 = x := ⟨_, rfl⟩
      rw [hx7] at hs
      have Hx7 := Lib.hid hx7; clear hx7
      clear hw1 HS c0 c1 c2 c3 f0 f1 f2 f3; have HS := Lib.hid hs; clear hs
      obtain ⟨⟨c0, c1, c2, c3⟩, f0, f1, f2, f3⟩ := HS.out.read
      dsimp only at c0 c1 c2 c3
      go_wp2_with fail
      refine wp_region_noPanic ?_
      refine wp_region_k (by kernel_rfl) (fun w' => w'.cell? ⟨b, 0, none⟩ = some (.int .u64 x6) ∧ w'.cell? ⟨b, 1, none⟩ = some (.int .u64 x2) ∧ w'.cell? ⟨b, 2, none⟩ = some (.int .u64 x4) ∧ w'.cell? ⟨b, 3, none⟩ = some (.int .u64 x7) ∧ w'.frozen? ⟨b, 0, none⟩ = false ∧ w'.frozen? ⟨b, 1, none⟩ = false ∧ w'.frozen? ⟨b, 2, none⟩ = false ∧ w'.frozen? ⟨b, 3, none⟩ = false) 11 (⟨c0, c1, c2, c3, f0, f1, f2, f3⟩) (fun hHeld => ?_)
      refine tK 0 (h := ?_)
      try simp only [List.getElem_toArray, List.getElem_cons_zero, List.getElem_cons_succ, Act.put, List.setIfInBounds_toArray, List.set_cons_zero, List.set_cons_succ]
      refine tK 1 (h := ?_)
      try simp only [List.getElem_toArray, List.getElem_cons_zero, List.getElem_cons_succ, Act.put, List.setIfInBounds_toArray, List.set_cons_zero, List.set_cons_succ]
      refine tK 2 (h := ?_)
      try simp only [List.getElem_toArray, List.getElem_cons_zero, List.getElem_cons_succ, Act.put, List.setIfInBounds_toArray, List.set_cons_zero, List.set_cons_succ]
      refine tK 3 (h := ?_)
      try simp only [List.getElem_toArray, List.getElem_cons_zero, List.getElem_cons_succ, Act.put, List.setIfInBounds_toArray, List.set_cons_zero, List.set_cons_succ]
      refine tK 4 (h := ?_)
      try simp only [List.getElem_toArray, List.getElem_cons_zero, List.getElem_cons_succ, Act.put, List.setIfInBounds_toArray, List.set_cons_zero, List.set_cons_succ]
      refine tK 5 (h := ?_)
      try simp only [List.getElem_toArray, List.getElem_cons_zero, List.getElem_cons_succ, Act.put, List.setIfInBounds_toArray, List.set_cons_zero, List.set_cons_succ]
      refine tK 6 (h := ?_)
      try simp only [List.getElem_toArray, List.getElem_cons_zero, List.getElem_cons_succ, Act.put, List.setIfInBounds_toArray, List.set_cons_zero, List.set_cons_succ]
      refine tK 7 (h := ?_)
      try simp only [List.getElem_toArray, List.getElem_cons_zero, List.getElem_cons_succ, Act.put, List.setIfInBounds_toArray, List.set_cons_zero, List.set_cons_succ]
      refine tK 8 (h := ?_)
      try simp only [List.getElem_toArray, List.getElem_cons_zero, List.getElem_cons_succ, Act.put, List.setIfInBounds_toArray, List.set_cons_zero, List.set_cons_succ]
      refine tK 9 (h := ?_)
      try simp only [List.getElem_toArray, List.getElem_cons_zero, List.getElem_cons_succ, Act.put, List.setIfInBounds_toArray, List.set_cons_zero, List.set_cons_succ]
      refine tK 10 (h := ?_)
      try simp only [List.getElem_toArray, List.getElem_cons_zero, List.getElem_cons_succ, Act.put, List.setIfInBounds_toArray, List.set_cons_zero, List.set_cons_succ]
      refine wpAnyK_ready (rs := [11]) (by kernel_rfl) (by simp) ?_
      refine AllReadyK.cons rfl (fun K hK => ?_) AllReadyK.nil
      go_simp
      refine shutK_off hK (by decide) ?_
      clear hK K
      try simp only [List.getElem_toArray, List.getElem_cons_zero, List.getElem_cons_succ, Act.put, List.setIfInBounds_toArray, List.set_cons_zero, List.set_cons_succ]
      refine wpAnyK_done (by kernel_rfl) ?_ _
      refine NoPanic.normal ?_
      first | refine wp_world (fun w1 hw1 => ?_) | refine exitk_world (fun w1 hw1 => ?_)
      have hs : SipAt w b ⟨x6, x2, ad x4 x2, x7⟩ w1 := by rw [hw1]; first | exact HS.out.set (n := 0) rfl | exact HS.out.set (n := 1) rfl
      obtain ⟨x8, hx8⟩ : ∃ x, ad x4 x2 = x := ⟨_, rfl⟩
      rw [hx8] at hs
      have Hx8 := Lib.hid hx8; clear hx8
      clear hw1 HS c0 c1 c2 c3 f0 f1 f2 f3; have HS := Lib.hid hs; clear hs
      obtain ⟨⟨c0, c1, c2, c3⟩, f0, f1, f2, f3⟩ := HS.out.read
      dsimp only at c0 c1 c2 c3
      go_wp2_with fail
      refine wp_region_noPanic ?_
      refine wp_region_k (by kernel_rfl) (fun w' => w'.cell? ⟨b, 0, none⟩ = some (.int .u64 x6) ∧ w'.cell? ⟨b, 1, none⟩ = some (.int .u64 x2) ∧ w'.cell? ⟨b, 2, none⟩ = some (.int .u64 x8) ∧ w'.cell? ⟨b, 3, none⟩ = some (.int .u64 x7) ∧ w'.frozen? ⟨b, 0, none⟩ = false ∧ w'.frozen? ⟨b, 1, none⟩ = false ∧ w'.frozen? ⟨b, 2, none⟩ = false ∧ w'.frozen? ⟨b, 3, none⟩ = false) 13 (⟨c0, c1, c2, c3, f0, f1, f2, f3⟩) (fun hHeld => ?_)
      refine tK 0 (h := ?_)
      try simp only [List.getElem_toArray, List.getElem_cons_zero, List.getElem_cons_succ, Act.put, List.setIfInBounds_toArray, List.set_cons_zero, List.set_cons_succ]
      refine tK 1 (h := ?_)
      try simp only [List.getElem_toArray, List.getElem_cons_zero, List.getElem_cons_succ, Act.put, List.setIfInBounds_toArray, List.set_cons_zero, List.set_cons_succ]
      refine tK 2 (h := ?_)
      try simp only [List.getElem_toArray, List.getElem_cons_zero, List.getElem_cons_succ, Act.put, List.setIfInBounds_toArray, List.set_cons_zero, List.set_cons_succ]
      refine tK 3 (h := ?_)
      try simp only [List.getElem_toArray, List.getElem_cons_zero, List.getElem_cons_succ, Act.put, List.setIfInBounds_toArray, List.set_cons_zero, List.set_cons_succ]
      refine tK 4 (h := ?_)
      try simp only [List.getElem_toArray, List.getElem_cons_zero, List.getElem_cons_succ, Act.put, List.setIfInBounds_toArray, List.set_cons_zero, List.set_cons_succ]
      refine tK 6 (h := ?_)
      try simp only [List.getElem_toArray, List.getElem_cons_zero, List.getElem_cons_succ, Act.put, List.setIfInBounds_toArray, List.set_cons_zero, List.set_cons_succ]
      refine tK 7 (h := ?_)
      try simp only [List.getElem_toArray, List.getElem_cons_zero, List.getElem_cons_succ, Act.put, List.setIfInBounds_toArray, List.set_cons_zero, List.set_cons_succ]
      refine tK 8 (h := ?_)
      try simp only [List.getElem_toArray, List.getElem_cons_zero, List.getElem_cons_succ, Act.put, List.setIfInBounds_toArray, List.set_cons_zero, List.set_cons_succ]
      refine tK 9 (h := ?_)
      try simp only [List.getElem_toArray, List.getElem_cons_zero, List.getElem_cons_succ, Act.put, List.setIfInBounds_toArray, List.set_cons_zero, List.set_cons_succ]
      refine wpAnyK_ready (rs := [5]) (by kernel_rfl) (by simp) ?_
      refine AllReadyK.cons rfl (fun K hK => ?_) AllReadyK.nil
      go_simp
      refine (rot17 _ _).mono ?_; rintro e wq ⟨rfl, rfl⟩
      refine shutK hK (⟨c0, c1, c2, c3, f0, f1, f2, f3⟩) (fun hHeld => ?_)
      clear hK K
      try simp only [List.getElem_toArray, List.getElem_cons_zero, List.getElem_cons_succ, Act.put, List.setIfInBounds_toArray, List.set_cons_zero, List.set_cons_succ]
      refine tK 10 (h := ?_)
      try simp only [List.getElem_toArray, List.getElem_cons_zero, List.getElem_cons_succ, Act.put, List.setIfInBounds_toArray, List.set_cons_zero, List.set_cons_succ]
      refine tK 11 (h := ?_)
      try simp only [List.getElem_toArray, List.getElem_cons_zero, List.getElem_cons_succ, Act.put, List.setIfInBounds_toArray, List.set_cons_zero, List.set_cons_succ]
      refine tK 12 (h := ?_)
      try simp only [List.getElem_toArray, List.getElem_cons_zero, List.getElem_cons_succ, Act.put, List.setIfInBounds_toArray, List.set_cons_zero, List.set_cons_succ]
      refine wpAnyK_ready (rs := [13]) (by kernel_rfl) (by simp) ?_
      refine AllReadyK.cons rfl (fun K hK => ?_) AllReadyK.nil
      go_simp
      refine shutK_off hK (by decide) ?_
      clear hK K
      try simp only [List.getElem_toArray, List.getElem_cons_zero, List.getElem_cons_succ, Act.put, List.setIfInBounds_toArray, List.set_cons_zero, List.set_cons_succ]
      refine wpAnyK_done (by kernel_rfl) ?_ _
      refine NoPanic.normal ?_
      first | refine wp_world (fun w1 hw1 => ?_) | refine exitk_world (fun w1 hw1 => ?_)
      have hs : SipAt w b ⟨x6, xr (rotP 131072 140737488355328 x2) x8, x8, x7⟩ w1 := by rw [hw1]; first | exact HS.out.set (n := 0) rfl | exact HS.out.set (n := 1) rfl
      obtain ⟨x9, hx9⟩ : ∃ x, xr (rotP 131072 140737488355328 x2) x8 = x := ⟨_, rfl⟩
      rw [hx9] at hs
      have Hx9 := Lib.hid hx9; clear hx9
      clear hw1 HS c0 c1 c2 c3 f0 f1 f2 f3; have HS := Lib.hid hs; clear hs
      obtain ⟨⟨c0, c1, c2, c3⟩, f0, f1, f2, f3⟩ := HS.out.read
      dsimp only at c0 c1 c2 c3
      go_wp2_with fail
      refine (rot32 _ _).mono ?_; rintro e wq ⟨rfl, rfl⟩
      go_wp2_with fail
      go_roundw
      case rel =>
        refine ⟨k + 1, by go_num, by omega, ?_⟩
        have hs : SipAt w b ⟨x6, x9, rotP 4294967296 4294967296 x8, x7⟩ (w1.setCell ⟨b, 2, none⟩ (.int .u64 (rotP 4294967296 4294967296 x8))) := HS.out.set (n := 0) rfl
        have e : (⟨x6, x9, rotP 4294967296 4294967296 x8, x7⟩ : Sip) = rndP ⟨a, b0, c, d⟩ := by rw [← Hx9.out, ← Hx8.out, ← Hx7.out, ← Hx6.out, ← Hx5.out, ← Hx4.out, ← Hx3.out, ← Hx2.out, ← Hx1.out]; rfl
        rw [rndI, hs0, ← e]; exact hs
      case measure => simp [intOf]; omega
    · have hq : decide ((k : Int) < n) = false := by simp; omega
      obtain rfl : k = n := by omega
      go_wp2_with fail
      go_end0
      exact ⟨rfl, HS.out⟩
set_option maxHeartbeats 1000000 in
theorem sword_any (b : Nat) (s : Sip) (m : Int) (w : World) (hb : w.heap[b]? = some (.cells (sipC s) 242 (0, 0))) :
    Calls Tryz.prog 215 #[.pointer (some ⟨b, 0, none⟩), .int .u64 m] w fun e w' => e = .returned (.tuple #[]) ∧ SipAt w b (wordP s m) w' := by
  have hs : SipAt w b s w := ⟨hb, grown_refl _ _⟩
  have HS := Lib.hid hs; clear hs hb
  obtain ⟨⟨c0, c1, c2, c3⟩, f0, f1, f2, f3⟩ := HS.out.read
  go_enter Tryz.func215, Tryz.ntmps215
  go_wp2_with fail
  have hs1 : SipAt w b ⟨s.a, s.b, s.c, xr s.d m⟩ (w.setCell ⟨b, 3, none⟩ (.int .u64 (xr s.d m))) := HS.out.set (n := 0) rfl
  refine (rounds_any b ⟨s.a, s.b, s.c, xr s.d m⟩ 2 _ hs1.1 (by omega)).mono ?_
  rintro e w1 ⟨rfl, hs2⟩
  have hs3 : SipAt w b (rndP (rndP ⟨s.a, s.b, s.c, xr s.d m⟩)) w1 := ⟨hs2.1, grown_trans hs1.2 hs2.2⟩
  obtain ⟨t, ht⟩ : ∃ t, rndP (rndP ⟨s.a, s.b, s.c, xr s.d m⟩) = t := ⟨_, rfl⟩
  rw [ht] at hs3
  have hw : wordP s m = ⟨xr t.a m, t.b, t.c, t.d⟩ := by rw [← ht]; rfl
  have HW := Lib.hid hw
  clear hs1 hs2 ht hw HS c0 c1 c2 c3 f0 f1 f2 f3
  have HS := Lib.hid hs3; clear hs3
  obtain ⟨⟨c0, c1, c2, c3⟩, f0, f1, f2, f3⟩ := HS.out.read
  go_wp2_with fail
  go_end0
  exact ⟨rfl, by rw [HW.out]; exact HS.out.set (n := 0) rfl⟩
/-- a slice of bytes -/
abbrev encB (c : UInt8) : List Value := [byteV c]
set_option maxHeartbeats 1000000 in
theorem snumber_any (S : Nat → Prop) (v : Value) (l : List UInt8) (w : World) (h : Vec w S 1 encB v l) (hl : l.length ≤ 8) :
    Calls Tryz.prog 216 #[v] w fun e w' => e = .returned (.int .u64 (numP 0 0 l)) ∧ w = w' := by
  obtain ⟨a, cap, rfl⟩ := h.slice
  have HV := Lib.hid h; clear h
  go_enter Tryz.func216, Tryz.ntmps216
  go_wp2_with fail
  go_loopw [3, 4, 5, 8] (fun m _ _ i wr => wr = w ∧ ∃ (k : Nat) (mm : Int), i = .int .i64 k ∧ k ≤ l.length ∧ m = .int .u64 mm ∧ Hid (numP k mm (l.drop k) = numP 0 0 l)) (fun _ _ _ i _ => l.length - (intOf i).toNat)
  case atStart => exact ⟨rfl, 0, 0, rfl, by omega, rfl, Lib.hid rfl⟩
  case round =>
    obtain ⟨rfl, k, mm, rfl, hk, rfl, HT⟩ := hrel
    by_cases hlt : k < l.length
    · have hq : decide ((k : Int) < l.length) = true := by simp; omega
      obtain ⟨b, off, rfl, hb, hc⟩ := HV.out.get k hlt
      have c0 := hc 0 _ rfl
      rw [Nat.mul_one, Nat.add_zero] at c0
      unfold byteV at c0
      go_wp2_with fail
      go_roundw
      case rel => exact ⟨trivial, k + 1, _, by go_num, by omega, rfl, Lib.hid (by rw [← HT.out, List.drop_eq_getElem_cons hlt]; rfl)⟩
      case measure => simp [intOf]; omega
    · have hq : decide ((k : Int) < l.length) = false := by simp; omega
      have hd : l.drop k = [] := List.drop_eq_nil_of_le (by omega)
      rw [hd] at HT
      obtain rfl : mm = numP 0 0 l := HT.out
      clear HT hd
      go_wp2_with fail
      go_ret
      exact ⟨rfl, rfl⟩
end
section
open Go
theorem run_load_zero {P : Program} (a : Addr) (w : World) : Sem.run P (loadCells a 0) w = .ok #[] w := rfl
theorem run_append_zero {P : Program} {w : World} (base : Nat) (t ty e : TypeId) (i : TypeInfo) (size : Nat) (ht : P.underlying t = some (.slice e)) (hi : P.info? e = some i)
    (v : Value) (n : Nat) (xs : List Value) (hown : w.ownsRow base e size v n xs) (ad : Option Addr) (c : Nat) :
    (Builtin.append_ #[t, t] ty #[v, .slice ad 0 c]).run P w = .ok v w := by
  have lz := fun a => run_load_zero (P := P) a w
  rcases hown.2 with ⟨rfl, rfl⟩ | ⟨g, cap, cur, rfl, _, _, hnc, _⟩
  · cases ad <;> simp [Builtin.append_, run_underlying ht, sizeOf, typeInfo, hi, Builtin.lenOf, Builtin.firstCells, lz, Sem.run_pure, Result.andThen]
  · cases ad <;> simp [Builtin.append_, run_underlying ht, sizeOf, typeInfo, hi, Builtin.lenOf, Builtin.firstCells, hnc, storeCells, lz, Sem.run_pure, Result.andThen]
theorem wp_append_zero {P : Program} {w : World} {o : Oper} {a : Act} {K : Act → World → Prop} {Q : Exit → Act → World → Prop} (s x : Operand) (t : TypeId)
    (ho : o.op = .call { callee := .builtin .append, args := #[s, x], argTypes := #[t, t] })
    (base : Nat) (e : TypeId) (i : TypeInfo) (size : Nat) (ht : P.underlying t = some (.slice e)) (hi : P.info? e = some i)
    (v : Value) (n : Nat) (xs : List Value) (hs : a.eval s = v) (hown : w.ownsRow base e size v n xs) (ad : Option Addr) (c : Nat) (hx : a.eval x = .slice ad 0 c)
    (h : K (a.put o.dst v) w) : Oper.wp P o a w K Q := by
  have hrun := run_append_zero (P := P) (w := w) base t o.type e i size ht hi v n xs hown ad c
  unfold Oper.wp execOp
  simp only [ho, resolve, invoke, builtin, Sem.run_bind, Sem.run_pure, Result.andThen_ok, List.map_toArray, List.map_cons, List.map_nil, hs, hx, hrun]
  exact h
/-- a slice's elements can be read: m of them, of size cells each -/
def Reads (w : World) (size : Nat) (u : Value) (m : Nat) (news : List Value) : Prop :=
  ∃ ad c, u = .slice ad m c ∧ news.length = m * size ∧ (0 < m → ∃ A, ad = some A ∧ ∀ j v, news[j]? = some v → w.cell? (A.add j) = some v)
/-- append of whatever slice -/
theorem wp_append_reads {P : Program} {w : World} {o : Oper} {a : Act} {K : Act → World → Prop} {Q : Exit → Act → World → Prop} (s x : Operand) (t : TypeId)
    (ho : o.op = .call { callee := .builtin .append, args := #[s, x], argTypes := #[t, t] })
    (base : Nat) (e : TypeId) (z : Value) (size bytes : Nat) (ht : P.underlying t = some (.slice e)) (hinfo : (P.info? e).map (fun i => (i.zero, i.size, i.bytes)) = some (some z, size, bytes))
    (hzs : z.cells.size = size) (hsz : 0 < size)
    (v : Value) (n : Nat) (xs : List Value) (hs : a.eval s = v) (hown : w.ownsRow base e size v n xs)
    (u : Value) (m : Nat) (news : List Value) (hx : a.eval x = u) (hr : Reads w size u m news) (h1 : ∀ u ∈ news, u.oneCell' = true)
    (h63 : n + m ≤ maxLen) (hbytes : (n + m) * bytes ≤ 140737488355328) (hbase : base ≤ w.heap.size)
    (h : ∀ v' w', w'.ownsRow base e size v' (n + m) (xs ++ news) → w.grownBy w' v.ownBlock → (v'.ownBlock = none ∨ v.ownBlock = v'.ownBlock ∨ v'.ownBlock = some w.heap.size) → K (a.put o.dst v') w') : Oper.wp P o a w K Q := by
  obtain ⟨ad, c, rfl, hl, hc⟩ := hr
  obtain ⟨i, hi, hz, h2, h3⟩ := info_parts hinfo
  by_cases hm : m = 0
  · subst hm
    have hn : news = [] := List.length_eq_zero_iff.1 (by omega)
    subst hn
    refine wp_append_zero s x t ho base e i size ht hi v n xs hs hown ad c hx (h v w (by simpa using hown) ⟨rfl, rfl, rfl, Nat.le_refl _, fun _ _ _ => rfl⟩ (.inr (.inl rfl)))
  · obtain ⟨A, rfl, hcell⟩ := hc (by omega)
    refine wp_append_lies w s x t ho base e i z size bytes ht hi hz h2 h3 hzs hsz v n xs hs hown A m c news hx hl hcell h1 (by omega) h63 hbytes hbase _ rfl fun g cap w' ho' hg hat hlt => ?_
    rcases hat with h4 | h4
    · exact h _ w' ho' hg (.inr (.inl h4))
    · exact h _ w' ho' hg (.inr (.inr (by rw [h4]; rfl)))
end
section
open Go.RowKit
variable {α : Type}
/-- v is a row of elements of type e, which lies in blocks made since w0; what lay in w0 is as it was -/
def OwnV (e : TypeId) (size : Nat) (enc : α → List Value) (w0 : World) (v : Value) (L : List α) (w : World) : Prop :=
  w.ownsRow w0.heap.size e size v L.length (L.flatMap enc) ∧ Below w0.heap.size w0 w
theorem own_below' {w w' : World} {B e size n : Nat} {v : Value} {xs : List Value} (h : w.ownsRow B e size v n xs) (hb : Below w.heap.size w w') : w'.ownsRow B e size v n xs := by
  refine ⟨h.1, ?_⟩
  rcases h.2 with h0 | ⟨g, cap, cur, hv, hg, hh, rest⟩
  · exact .inl h0
  · exact .inr ⟨g, cap, cur, hv, hg, (hb.block g (lt_of_blk hh)).trans hh, rest⟩
theorem OwnV.below {e size : Nat} {enc : α → List Value} {w0 w w' : World} {v : Value} {L : List α} (h : OwnV e size enc w0 v L w) (hb : Below w.heap.size w w') : OwnV e size enc w0 v L w' :=
  ⟨own_below' h.1 hb, h.2.trans (hb.mono h.2.size)⟩
theorem OwnV.start (e size : Nat) (enc : α → List Value) (w0 : World) : OwnV e size enc w0 (.slice none 0 0) [] w0 := ⟨⟨by simp, .inl ⟨rfl, rfl⟩⟩, Below.refl _ _⟩
theorem OwnV.nil {e size : Nat} {enc : α → List Value} {w0 w : World} (hb : Below w0.heap.size w0 w) : OwnV e size enc w0 (.slice none 0 0) [] w := ⟨⟨by simp, .inl ⟨rfl, rfl⟩⟩, hb⟩
theorem OwnV.vec {e size : Nat} {enc : α → List Value} (hk : ∀ x, (enc x).length = size) {w0 w : World} {v : Value} {L : List α} (h : OwnV e size enc w0 v L w) : Vec w (fun b => w0.heap.size ≤ b) size enc v L :=
  Vec.owns hk h.1 fun b hb _ => hb
theorem OwnV.form {e size : Nat} {enc : α → List Value} {w0 w : World} {v : Value} {L : List α} (h : OwnV e size enc w0 v L w) : (v = .slice none 0 0 ∧ L = []) ∨ ∃ g cap, v = .slice (some ⟨g, 0, none⟩) L.length cap ∧ L.length ≤ cap ∧ cap ≤ maxLen ∧ g < w.heap.size := by
  rcases h.1.2 with ⟨rfl, h0⟩ | ⟨g, cap, cur, rfl, _, hh, h1, h2, _⟩
  · exact .inl ⟨rfl, List.length_eq_zero_iff.1 h0⟩
  · exact .inr ⟨g, cap, rfl, h1, h2, lt_of_blk hh⟩
/-- one element that lies at the head of a block -/
theorem reads_block {w : World} {g : Nat} {t : TypeId} {fr : Nat × Nat} {size c : Nat} {xs : List Value} (h : w.heap[g]? = some (.cells xs.toArray t fr)) (hl : xs.length = size) : Reads w size (.slice (some ⟨g, 0, none⟩) 1 c) 1 xs :=
  ⟨_, c, rfl, by omega, fun _ => ⟨_, rfl, fun j u hj => by rw [add_plain, cell_of_row _ _ _ _ _ _ h, Nat.zero_add]; simpa using hj⟩⟩
section
variable {P : Program} {w : World} {o : Oper} {a : Act} {K : Act → World → Prop} {Q : Exit → Act → World → Prop}
/-- append of a list, as an operation -/
theorem wp_append_v (s x : Operand) (t : TypeId) (ho : o.op = .call { callee := .builtin .append, args := #[s, x], argTypes := #[t, t] })
    (e : TypeId) (z : Value) (size bytes : Nat) (enc : α → List Value) (hk : ∀ x, (enc x).length = size) (h1 : ∀ x, ∀ u ∈ enc x, u.oneCell' = true) (ht : P.underlying t = some (.slice e)) (hinfo : (P.info? e).map (fun i => (i.zero, i.size, i.bytes)) = some (some z, size, bytes))
    (hzs : z.cells.size = size) (hsz : 0 < size) (hby : bytes ≤ 128) {w0 : World} {v u : Value} {A B : List α} (hs : a.eval s = v) (hown : OwnV e size enc w0 v A w) (hx : a.eval x = u) (hr : Reads w size u B.length (B.flatMap enc)) (hn : A.length + B.length ≤ 1000000000)
    (h : ∀ v' w', OwnV e size enc w0 v' (A ++ B) w' → (∀ k o, some k ≠ v.ownBlock → w.heap[k]? = some o → w'.heap[k]? = some o) → w.heap.size ≤ w'.heap.size → K (a.put o.dst v') w') : Oper.wp P o a w K Q := by
  refine wp_append_reads s x t ho w0.heap.size e z size bytes ht hinfo hzs hsz v A.length (A.flatMap enc) hs hown.1 u B.length (B.flatMap enc) hx hr (fun u hu => ?_) (by unfold maxLen; omega) ?_ hown.2.size ?_
  · obtain ⟨y, _, hy⟩ := List.mem_flatMap.1 hu
    exact h1 y u hy
  · exact Nat.le_trans (Nat.mul_le_mul hn hby) (by decide)
  · intro v' w' ho' hg hat
    refine h v' w' ⟨by rw [List.length_append, List.flatMap_append]; exact ho', hown.2.grown hg hown.2.size fun k hk => ?_⟩ (fun k o hk hko => (hg.block k (lt_of_blk hko) hk).trans hko) hg.size
    rcases hown.1.2 with ⟨rfl, _⟩ | ⟨g, cap, cur, rfl, hg1, _⟩
    · simp [Value.ownBlock] at hk
    · have : g = k := by simpa [Value.ownBlock] using hk
      omega
end
end
section
set_option maxRecDepth 100000
open Go.RowKit

theorem infoBy : (Tryz.prog.info? 5).map (fun i => (i.zero, i.size, i.bytes)) = some (some (.int .u8 0), 1, 1) := by kernel_rfl
/-- all but the first m elements of a row -/
theorem Vec.dropped {α : Type} {w : World} {S : Nat → Prop} {enc : α → List Value} {b off n cap : Nat} {L : List α} (h : Vec w S 1 enc (.slice (some ⟨b, off, none⟩) n cap) L) (m : Nat) (hm : m ≤ L.length) (p : Prop) [Decidable p] (hp : p → m = L.length) (c : Nat) (hc : L.length - m ≤ c) :
    Vec w S 1 enc (.slice (if p then some ⟨b, off, none⟩ else some ⟨b, off + m, none⟩) (L.length - m) c) (L.drop m) := by
  obtain ⟨a', cap', h1, h2, h3⟩ := h
  cases h1
  refine ⟨_, c, by rw [List.length_drop], by rw [List.length_drop]; exact hc, fun h0 => ?_⟩
  rw [List.length_drop] at h0
  have hnp : ¬ p := fun hp' => by have := hp hp'; omega
  rw [if_neg hnp]
  obtain ⟨b', off', e, hS, hb, hcell⟩ := h3 (by omega)
  cases e
  refine ⟨b, off + m, rfl, hS, hb, fun j x hj i u hu => ?_⟩
  have := hcell (m + j) x (by rw [List.getElem?_drop] at hj; exact hj) i u hu
  rw [Nat.mul_one] at this ⊢
  rwa [← Nat.add_assoc] at this
theorem Vec.taken {α : Type} {w : World} {S : Nat → Prop} {k : Nat} {enc : α → List Value} {a : Option Addr} {n cap : Nat} {L : List α} (h : Vec w S k enc (.slice a n cap) L) (m c : Nat) (hm : m ≤ L.length) (hc : m ≤ c) : Vec w S k enc (.slice a m c) (L.take m) := by
  obtain ⟨a', cap', h1, h2, h3⟩ := h
  cases h1
  refine ⟨a, c, by rw [List.length_take, Nat.min_eq_left hm], by rw [List.length_take]; omega, fun h0 => ?_⟩
  rw [List.length_take] at h0
  obtain ⟨b, off, h4, h5, h5', h6⟩ := h3 (by omega)
  refine ⟨b, off, h4, h5, h5', fun j x hj => h6 j x ?_⟩
  rw [List.getElem?_take] at hj
  split at hj
  · exact hj
  · cases hj
theorem Vec.grown {α : Type} {w w' : World} {S : Nat → Prop} {k : Nat} {enc : α → List Value} {v : Value} {L : List α} {b : Nat} (h : Vec w S k enc v L) (hS : ∀ x, S x → x ≠ b) (g : w.grownBy w' (some b)) : Vec w' S k enc v L :=
  h.move g.size fun x hx hs => ⟨g.block x hx (by have := hS x hs; simp; omega), hs⟩
def lenOfV : Value → Nat
  | .slice _ n _ => n
  | _ => 0
theorem SipAt.base {w W w' : World} {b B : Nat} {s : Sip} (h : SipAt W b s w') (hb : Below B w W) (hB : B ≤ b) (hW : B ≤ W.heap.size) : Below B w w' :=
  hb.trans ⟨h.2.os, h.2.tape, h.2.output, h.2.size, fun k hk => h.2.block k (by omega) (by simp; omega)⟩
theorem eachP_step (s : Sip) (l : List UInt8) (n : Nat) : eachP s l (n + 1) = eachP (wordP s (numP 0 0 (l.take 8))) (l.drop 8) n := rfl
theorem eachP_more (s : Sip) (l : List UInt8) (h : 8 ≤ l.length) : eachP s l (l.length / 8) = eachP (wordP s (numP 0 0 (l.take 8))) (l.drop 8) ((l.drop 8).length / 8) := by
  rw [show l.length / 8 = (l.drop 8).length / 8 + 1 by rw [List.length_drop]; omega, eachP_step]
theorem eachP_end (s : Sip) (l : List UInt8) (h : l.length < 8) : eachP s l (l.length / 8) = (s, l) := by
  rw [show l.length / 8 = 0 by omega]; rfl
theorem sumP_of (ka kb : Int) (l : List UInt8) (s : Sip) (r : List UInt8) (h : eachP ⟨xr ka 8317987319222330741, xr kb 7237128888997146477, xr ka 7816392313619706465, xr kb 8387220255154660723⟩ l (l.length / 8) = (s, r)) (u : Sip)
    (hu : wordP s (bits .or .u64 (numP 0 0 r) (IntKind.u64.wrap ((l.length : Int) * 72057594037927936))) = u) (v : Sip) (hv : rndI 4 ⟨u.a, u.b, xr u.c 255, u.d⟩ = v) : xr (xr (xr v.a v.b) v.c) v.d = sumP ka kb l := by
  unfold sumP
  rw [h]
  dsimp only
  rw [hu, ← hv]; rfl
set_option maxHeartbeats 4000000 in
theorem ssum_any (S : Nat → Prop) (ka kb : Int) (v : Value) (l : List UInt8) (w : World) (h : Vec w S 1 encB v l) (hl : l.length ≤ 1000000000) :
    Calls Tryz.prog 172 #[.agg #[.int .u64 ka, .int .u64 kb], v] w fun e w' => e = .returned (.int .u64 (sumP ka kb l)) ∧ Below w.heap.size w w' := by
  obtain ⟨a, cap, rfl⟩ := h.slice
  have HV := Lib.hid (h.any.move (S' := fun b => b < w.heap.size) (w' := w) (Nat.le_refl _) fun b hb _ => ⟨rfl, hb⟩); clear h
  go_enter Tryz.func172, Tryz.ntmps172
  go_wp2_with fail
  refine wp_world (fun W hW => ?_)
  have hb0 : Below w.heap.size w W := by rw [hW]; exact ((Below.refl _ _).alloc (Nat.le_refl _) _).alloc (by simp) _
  have hs0 : SipAt W (w.heap.size + 1) ⟨xr ka 8317987319222330741, xr kb 7237128888997146477, xr ka 7816392313619706465, xr kb 8387220255154660723⟩ W := by rw [hW]; exact ⟨blk_new (by simp), grown_refl _ _⟩
  have hv0 := HV.out.below hb0
  clear hW HV
  have HB0 := Lib.hid hb0; have HS0 := Lib.hid hs0; have HV0 := Lib.hid hv0
  clear hb0 hs0 hv0
  go_loopw [1] (fun v wr => ∃ (r : List UInt8) (s : Sip), Vec wr (fun b => b < w.heap.size) 1 encB v r ∧ SipAt W (w.heap.size + 1) s wr ∧ Hid (eachP s r (r.length / 8) = eachP ⟨xr ka 8317987319222330741, xr kb 7237128888997146477, xr ka 7816392313619706465, xr kb 8387220255154660723⟩ l (l.length / 8)) ∧ r.length ≤ l.length) (fun v _ => lenOfV v)
  case atStart => exact ⟨l, _, HV0.out, HS0.out, Lib.hid rfl, Nat.le_refl _⟩
  case round =>
    obtain ⟨r, s, hv, hs, HE, hrl⟩ := hrel
    obtain ⟨ar, cr, rfl⟩ := hv.slice
    have HV := Lib.hid hv; have HS := Lib.hid hs
    have hcr : r.length ≤ cr := hv.len.2
    clear hv hs
    by_cases hlt : 8 ≤ r.length
    · have hq : decide ((8 : Int) ≤ r.length) = true := by simp; omega
      have hc8 : (8 : Int) ≤ (cr : Int) := by omega
      obtain ⟨ba, oa, rfl, _, _⟩ := HV.out.get 0 (by omega)
      go_wp2_with fail
      refine (snumber_any _ _ (r.take 8) _ (HV.out.taken 8 cr hlt (by omega)) (by simp; omega)).mono ?_
      rintro e wq ⟨rfl, rfl⟩
      go_wp2_with fail
      refine (sword_any _ s _ _ HS.out.1).mono ?_
      rintro e w1 ⟨rfl, hs1⟩
      have HV1 := Lib.hid (HV.out.grown (b := w.heap.size + 1) (fun x hx => by omega) hs1.2)
      have HS1 := Lib.hid (show SipAt W (w.heap.size + 1) (wordP s (numP 0 0 (r.take 8))) w1 from ⟨hs1.1, grown_trans HS.out.2 hs1.2⟩)
      clear hs1 HS HV
      go_wp2_with fail
      go_roundw
      case rel => exact ⟨r.drop 8, _, HV1.out.dropped 8 hlt (cr = 8) (fun h => by omega) (cr - 8) (by omega), HS1.out, Lib.hid (by rw [← HE.out, eachP_more s r hlt]), by rw [List.length_drop]; omega⟩
      case measure => simp only [lenOfV]; omega
    · have hq : decide ((8 : Int) ≤ r.length) = false := by simp; omega
      have hE := HE.out
      rw [eachP_end s r (by omega)] at hE
      have HE2 := Lib.hid hE.symm
      clear hE HE
      go_wp2_with fail
      refine (snumber_any _ _ r _ HV.out (by omega)).mono ?_
      rintro e wq ⟨rfl, rfl⟩
      go_wp2_with fail
      refine (sword_any _ s _ _ HS.out.1).mono ?_
      rintro e w1 ⟨rfl, hs1⟩
      obtain ⟨u, hu⟩ : ∃ u, wordP s (bits .or .u64 (numP 0 0 r) (IntKind.u64.wrap ((l.length : Int) * 72057594037927936))) = u := ⟨_, rfl⟩
      rw [hu] at hs1
      have HU := Lib.hid hu
      have HS1 := Lib.hid (show SipAt W (w.heap.size + 1) u w1 from ⟨hs1.1, grown_trans HS.out.2 hs1.2⟩)
      clear hs1 HS HV hu
      obtain ⟨⟨c0, c1, c2, c3⟩, f0, f1, f2, f3⟩ := HS1.out.read
      go_wp2_with fail
      have hs2 : SipAt W (w.heap.size + 1) ⟨u.a, u.b, xr u.c 255, u.d⟩ (w1.setCell ⟨w.heap.size + 1, 2, none⟩ (.int .u64 (xr u.c 255))) := HS1.out.set (n := 0) rfl
      refine (rounds_any _ ⟨u.a, u.b, xr u.c 255, u.d⟩ 4 _ hs2.1 (by omega)).mono ?_
      rintro e w2 ⟨rfl, hs3⟩
      obtain ⟨v, hv⟩ : ∃ v, rndI 4 ⟨u.a, u.b, xr u.c 255, u.d⟩ = v := ⟨_, rfl⟩
      rw [hv] at hs3
      have HVv := Lib.hid hv
      have HS3 := Lib.hid (show SipAt W (w.heap.size + 1) v w2 from ⟨hs3.1, grown_trans hs2.2 hs3.2⟩)
      clear hs2 hs3 hv HS1 c0 c1 c2 c3 f0 f1 f2 f3
      obtain ⟨⟨c0, c1, c2, c3⟩, f0, f1, f2, f3⟩ := HS3.out.read
      go_wp2_with fail
      go_ret
      refine ⟨?_, HS3.out.base HB0.out (by omega) HB0.out.size⟩
      rw [← sumP_of ka kb l s r HE2.out u HU.out v HVv.out]
      rfl
end
section
open Go.RowKit
variable {α : Type}
/-- v is a row of elements of type e, in blocks made since wA; what lay in wA is as it was, but for the deck in block D -/
def OwnM (D e size : Nat) (enc : α → List Value) (wA : World) (v : Value) (L : List α) (w : World) : Prop :=
  w.ownsRow wA.heap.size e size v L.length (L.flatMap enc) ∧ Moved D wA w
theorem OwnM.moved {D e size : Nat} {enc : α → List Value} {wA w w' : World} {v : Value} {L : List α} (h : OwnM D e size enc wA v L w) (m : Moved D w w') : OwnM D e size enc wA v L w' := by
  refine ⟨⟨h.1.1, ?_⟩, h.2.trans m⟩
  rcases h.1.2 with h0 | ⟨g, cap, cur, hv, hg, hh, rest⟩
  · exact .inl h0
  · exact .inr ⟨g, cap, cur, hv, hg, m.blk (by have := h.2.lt; omega) hh, rest⟩
theorem OwnM.below {D e size : Nat} {enc : α → List Value} {wA w w' : World} {v : Value} {L : List α} (h : OwnM D e size enc wA v L w) (hb : Below w.heap.size w w') : OwnM D e size enc wA v L w' :=
  h.moved ((Moved.start h.2.deck).below hb)
theorem OwnM.nil {D e size : Nat} {enc : α → List Value} {wA w : World} (m : Moved D wA w) : OwnM D e size enc wA (.slice none 0 0) [] w := ⟨⟨by simp, .inl ⟨rfl, rfl⟩⟩, m⟩
theorem OwnM.vec {D e size : Nat} {enc : α → List Value} (hk : ∀ x, (enc x).length = size) {wA w : World} {v : Value} {L : List α} (h : OwnM D e size enc wA v L w) : Vec w (fun b => wA.heap.size ≤ b) size enc v L :=
  Vec.owns hk h.1 fun b hb _ => hb
theorem Moved.grown' {D : Nat} {wA w w' : World} {row : Option Nat} (h : Moved D wA w) (hg : w.grownBy w' row) (hr : ∀ k, row = some k → wA.heap.size ≤ k) : Moved D wA w' := by
  have hlt := h.lt
  refine ⟨⟨hg.os.trans h.grown.os, hg.tape.trans h.grown.tape, hg.output.trans h.grown.output, Nat.le_trans h.size hg.size, fun k hk hne => ?_⟩, h.deck.same fun k hk => hg.block k (by have := h.size; omega) (fun e => by have := hr k e.symm; omega), hlt⟩
  rw [hg.block k (by have := h.size; omega) (fun e => by have := hr k e.symm; omega)]
  exact h.grown.block k hk hne
section
variable {P : Program} {w : World} {o : Oper} {a : Act} {K : Act → World → Prop} {Q : Exit → Act → World → Prop}
theorem wp_append_m (s x : Operand) (t : TypeId) (ho : o.op = .call { callee := .builtin .append, args := #[s, x], argTypes := #[t, t] })
    (D e : Nat) (z : Value) (size bytes : Nat) (enc : α → List Value) (hk : ∀ x, (enc x).length = size) (h1 : ∀ x, ∀ u ∈ enc x, u.oneCell' = true) (ht : P.underlying t = some (.slice e)) (hinfo : (P.info? e).map (fun i => (i.zero, i.size, i.bytes)) = some (some z, size, bytes))
    (hzs : z.cells.size = size) (hsz : 0 < size) (hby : bytes ≤ 128) {wA : World} {v u : Value} {A B : List α} (hs : a.eval s = v) (hown : OwnM D e size enc wA v A w) (hx : a.eval x = u) (hr : Reads w size u B.length (B.flatMap enc)) (hn : A.length + B.length ≤ 1000000000)
    (h : ∀ v' w', OwnM D e size enc wA v' (A ++ B) w' → (∀ k o, some k ≠ v.ownBlock → w.heap[k]? = some o → w'.heap[k]? = some o) → K (a.put o.dst v') w') : Oper.wp P o a w K Q := by
  refine wp_append_reads s x t ho wA.heap.size e z size bytes ht hinfo hzs hsz v A.length (A.flatMap enc) hs hown.1 u B.length (B.flatMap enc) hx hr (fun u hu => ?_) (by unfold maxLen; omega) ?_ hown.2.size ?_
  · obtain ⟨y, _, hy⟩ := List.mem_flatMap.1 hu
    exact h1 y u hy
  · exact Nat.le_trans (Nat.mul_le_mul hn hby) (by decide)
  · intro v' w' ho' hg hat
    refine h v' w' ⟨by rw [List.length_append, List.flatMap_append]; exact ho', hown.2.grown' hg fun k hk => ?_⟩ (fun k o hk hko => (hg.block k (lt_of_blk hko) hk).trans hko)
    rcases hown.1.2 with ⟨rfl, _⟩ | ⟨g, cap, cur, rfl, hg1, _⟩
    · simp [Value.ownBlock] at hk
    · have : g = k := by simpa [Value.ownBlock] using hk
      omega
theorem wpList_append_m {ops : Array Oper} {rest : List Oper} (hgd : o.guard = none) (s x : Operand) (t : TypeId) (ho : o.op = .call { callee := .builtin .append, args := #[s, x], argTypes := #[t, t] })
    (D e : Nat) (z : Value) (size bytes : Nat) (enc : α → List Value) (hk : ∀ x, (enc x).length = size) (h1 : ∀ x, ∀ u ∈ enc x, u.oneCell' = true) (ht : P.underlying t = some (.slice e)) (hinfo : (P.info? e).map (fun i => (i.zero, i.size, i.bytes)) = some (some z, size, bytes))
    (hzs : z.cells.size = size) (hsz : 0 < size) (hby : bytes ≤ 128) {wA : World} {v u : Value} {A B : List α} (hs : a.eval s = v) (hown : OwnM D e size enc wA v A w) (hx : a.eval x = u) (hr : Reads w size u B.length (B.flatMap enc)) (hn : A.length + B.length ≤ 1000000000)
    (h : ∀ v' w', OwnM D e size enc wA v' (A ++ B) w' → (∀ k o, some k ≠ v.ownBlock → w.heap[k]? = some o → w'.heap[k]? = some o) → wpList P ops Q rest (a.put o.dst v') w') : wpList P ops Q (o :: rest) a w :=
  wpList_plain hgd fun _ hK => wp_append_m s x t ho D e z size bytes enc hk h1 ht hinfo hzs hsz hby hs hown hx hr hn fun v' w' h2 h3 => hK _ _ (h v' w' h2 h3)
theorem wpList_append_v {ops : Array Oper} {rest : List Oper} (hgd : o.guard = none) (s x : Operand) (t : TypeId) (ho : o.op = .call { callee := .builtin .append, args := #[s, x], argTypes := #[t, t] })
    (e : TypeId) (z : Value) (size bytes : Nat) (enc : α → List Value) (hk : ∀ x, (enc x).length = size) (h1 : ∀ x, ∀ u ∈ enc x, u.oneCell' = true) (ht : P.underlying t = some (.slice e)) (hinfo : (P.info? e).map (fun i => (i.zero, i.size, i.bytes)) = some (some z, size, bytes))
    (hzs : z.cells.size = size) (hsz : 0 < size) (hby : bytes ≤ 128) {w0 : World} {v u : Value} {A B : List α} (hs : a.eval s = v) (hown : OwnV e size enc w0 v A w) (hx : a.eval x = u) (hr : Reads w size u B.length (B.flatMap enc)) (hn : A.length + B.length ≤ 1000000000)
    (h : ∀ v' w', OwnV e size enc w0 v' (A ++ B) w' → (∀ k o, some k ≠ v.ownBlock → w.heap[k]? = some o → w'.heap[k]? = some o) → w.heap.size ≤ w'.heap.size → wpList P ops Q rest (a.put o.dst v') w') : wpList P ops Q (o :: rest) a w :=
  wpList_plain hgd fun _ hK => wp_append_v s x t ho e z size bytes enc hk h1 ht hinfo hzs hsz hby hs hown hx hr hn fun v' w' h2 h3 h4 => hK _ _ (h v' w' h2 h3 h4)
end
end
section
set_option maxRecDepth 100000
open Go.RowKit
theorem flatB (l : List UInt8) : l.flatMap encB = l.map byteV := by
  induction l with
  | nil => rfl
  | cons a l ih => simp only [List.flatMap_cons, List.map_cons, ih]; rfl
theorem strCells_mk (l : List UInt8) : Lib.strCells ⟨l.toArray⟩ = l.flatMap encB := by rw [flatB]; simp [Lib.strCells, byteV]
theorem partP_short (t : List UInt8) (h : t.length ≤ 60000) : partP t = [UInt8.ofNat (t.length / 256), UInt8.ofNat t.length] ++ t := by
  unfold partP
  rw [Nat.min_eq_left (by omega), List.take_of_length_le (by omega)]; rfl
theorem sparts_len (L : List (List UInt8)) (h : ∀ t ∈ L, t.length ≤ 60000) : (L.flatMap partP).length ≤ 60002 * L.length := by
  induction L with
  | nil => simp
  | cons a L ih =>
    have h1 := h a (by simp)
    have h2 := ih fun t ht => h t (by simp [ht])
    rw [List.flatMap_cons, List.length_append, partP_short a h1]
    simp only [List.length_append, List.length_cons, List.length_nil]; omega
theorem reads_row {w : World} {g : Nat} {t : TypeId} {fr : Nat × Nat} {c n : Nat} {xs : List Value} (h : w.heap[g]? = some (.cells xs.toArray t fr)) (hn : n = xs.length) : Reads w 1 (.slice (some ⟨g, 0, none⟩) n c) n xs := by
  subst hn
  exact ⟨_, c, rfl, by omega, fun _ => ⟨_, rfl, fun j u hj => by rw [add_plain, cell_of_row _ _ _ _ _ _ h, Nat.zero_add]; simpa using hj⟩⟩
theorem extract_all (t : List UInt8) : (⟨t.toArray⟩ : ByteArray).extract 0 t.length = ⟨t.toArray⟩ := by
  apply ByteArray.ext; simp [ByteArray.data_extract]
theorem one_encB : ∀ (x : UInt8), ∀ u ∈ encB x, u.oneCell' = true := by intro x u hu; simp [byteV] at hu; subst hu; rfl
theorem cells2K {w : World} {b : Nat} {x y : Value} {t : TypeId} {fr : Nat × Nat} (h : w.heap[b]? = some (.cells #[x, y] t fr)) : w.cell? ⟨b, 0, none⟩ = some x ∧ w.cell? ⟨b, 1, none⟩ = some y := by
  refine ⟨?_, ?_⟩ <;> (rw [cell_of_row _ _ _ _ _ _ h]; rfl)
section
variable {P : Program} {w : World} {ops : Array Oper} {rest : List Oper} {o : Oper} {a : Act} {Q : Exit → Act → World → Prop}
/-- append of a text to a row of bytes -/
theorem wpList_append_s (hgd : o.guard = none) (sl x : Operand) (t u : TypeId) (ho : o.op = .call { callee := .builtin .append, args := #[sl, x], argTypes := #[t, u] })
    (e : TypeId) (ht : P.underlying t = some (.slice e)) (hu : P.underlying u = some .string) (hinfo : (P.info? e).map (fun i => (i.zero, i.size, i.bytes)) = some (some (.int .u8 0), 1, 1)) {w0 : World} {v : Value} {A : List UInt8} (l : List UInt8) (hs : a.eval sl = v)
    (hown : OwnV e 1 encB w0 v A w) (hx : a.eval x = strV l) (hn : A.length + l.length ≤ 1000000000)
    (h : ∀ v' w', OwnV e 1 encB w0 v' (A ++ l) w' → w.heap.size ≤ w'.heap.size → wpList P ops Q rest (a.put o.dst v') w') : wpList P ops Q (o :: rest) a w := by
  obtain ⟨i, hi, hz, h2, h3⟩ := info_parts hinfo
  have hsz : (⟨l.toArray⟩ : ByteArray).size = l.length := by simp [ByteArray.size]
  refine Lib.wpList_append_own_string w hgd sl x t u ho w0.heap.size e i ht hu hi hz h2 h3 v A.length (A.flatMap encB) hs hown.1 ⟨l.toArray⟩ hx (by unfold maxLen; omega) (by omega) hown.2.size ?_
  intro v' w' ho' hg _
  rw [hsz, strCells_mk] at ho'
  refine h v' w' ⟨by rw [List.length_append, List.flatMap_append]; exact ho', hown.2.grown hg hown.2.size fun k hk => ?_⟩ hg.size
  rcases hown.1.2 with ⟨rfl, _⟩ | ⟨g, cap, cur, rfl, hg1, _⟩
  · simp [Value.ownBlock] at hk
  · have : g = k := by simpa [Value.ownBlock] using hk
    omega
end
set_option maxHeartbeats 4000000 in
theorem sparts_any (S : Nat → Prop) (ka kb : Int) (v : Value) (L : List (List UInt8)) (w : World) (h : Vec w S 1 encS v L) (hl : ∀ t ∈ L, t.length ≤ 60000) (hn : L.length ≤ 1000) :
    Calls Tryz.prog 122 #[.agg #[.int .u64 ka, .int .u64 kb], v] w fun e w' => e = .returned (.int .u64 (partsP ka kb L)) ∧ Below w.heap.size w w' := by
  obtain ⟨a, cap, rfl⟩ := h.slice
  have HV := Lib.hid h.any; clear h
  have HL := Lib.hid hl; clear hl
  go_enter Tryz.func122, Tryz.ntmps122
  go_wp2_with fail
  refine wp_world (fun W hW => ?_)
  have hb0 : Below w.heap.size w W := by rw [hW]; exact (Below.refl _ _).alloc (Nat.le_refl _) _
  have hk : W.heap[w.heap.size]? = some (.cells #[.int .u64 ka, .int .u64 kb] 45 (0, 0)) := by rw [hW]; exact blk_new rfl
  have HV0 := Lib.hid (HV.out.below hb0)
  have HB0 := Lib.hid hb0; have HK := Lib.hid hk
  clear hW hb0 hk HV
  go_loopw [5, 7, 10] (fun v _ i wr => ∃ k : Nat, i = .int .i64 k ∧ k ≤ L.length ∧ OwnV 5 1 encB W v ((L.take k).flatMap partP) wr) (fun _ _ i _ => L.length - (intOf i).toNat)
  case atStart => exact ⟨0, rfl, by omega, OwnV.start _ _ _ _⟩
  case round =>
    obtain ⟨k, rfl, hk, ho⟩ := hrel
    have HO := Lib.hid ho; clear ho
    by_cases hlt : k < L.length
    · have hq : decide ((k : Int) < L.length) = true := by simp; omega
      obtain ⟨t, ht⟩ : ∃ t, L[k] = t := ⟨_, rfl⟩
      have htl : t.length ≤ 60000 := HL.out t (by rw [← ht]; exact List.getElem_mem _)
      obtain ⟨b, off, rfl, hb, hc⟩ := (HV0.out.below HO.out.2).get k hlt
      have c0 := hc 0 _ rfl
      rw [Nat.mul_one, Nat.add_zero, ht] at c0
      clear hc
      have hm : min (t.length : Int) 65535 = (t.length : Int) := by omega
      have hx := extract_all t
      obtain ⟨x, ex⟩ : ∃ x, UInt8.ofNat (t.length / 256) = x := ⟨_, rfl⟩
      obtain ⟨y, ey⟩ : ∃ y, UInt8.ofNat t.length = y := ⟨_, rfl⟩
      have hxa : (t.length : Int) / 256 = (x.toNat : Int) := by rw [← ex, UInt8.toNat_ofNat']; omega
      have hya : (t.length : Int) % 256 = (y.toNat : Int) := by rw [← ey, UInt8.toNat_ofNat']; omega
      have hp := partP_short t htl
      rw [ex, ey] at hp
      have hts : L.take (k + 1) = L.take k ++ [t] := by rw [List.take_succ_eq_append_getElem hlt, ht]
      have htk := sparts_len (L.take k) fun u hu => HL.out u (List.mem_of_mem_take hu)
      rw [List.length_take] at htk
      have HP := Lib.hid hp; have HTs := Lib.hid hts
      clear hp hts ex ey
      obtain ⟨P, hP⟩ : ∃ P, (L.take k).flatMap partP = P := ⟨_, rfl⟩
      rw [hP] at HO htk
      have HPP := Lib.hid hP; clear hP
      have HO1 := Lib.hid (HO.out.below ((Below.refl _ _).alloc (Nat.le_refl _) (.cells #[.int .u8 (x.toNat : Int), .int .u8 (y.toNat : Int)] 5)))
      have HR1 := Lib.hid (reads_row (xs := [x, y].flatMap encB) (n := 2) (c := 2) (heap_alloc_new wr (.cells #[.int .u8 (x.toNat : Int), .int .u8 (y.toNat : Int)] 5)) rfl)
      have hz0 := HO.out.2.size
      have hlen : P.length + ([x, y] : List UInt8).length ≤ 1000000000 := by simp only [List.length_cons, List.length_nil]; omega
      have hlen2 : (P ++ [x, y]).length + t.length ≤ 1000000000 := by rw [List.length_append]; simp only [List.length_cons, List.length_nil]; omega
      go_wp2_with (at_builtin; first | (refine wpList_append_v rfl (.tmp 19) (.tmp 27) 55 rfl 5 (.int .u8 0) 1 1 encB (fun _ => rfl) one_encB Tryz.underlying55 infoBy rfl (by decide) (by decide) (w0 := W) (v := u5) (A := P) (B := [x, y]) rfl HO1.out rfl HR1.out hlen ?_; intro v2 w2 ho2 hk2 hz2) | (refine wpList_append_s rfl (.tmp 29) (.tmp 30) 55 9 rfl 5 Tryz.underlying55 Tryz.underlying9 infoBy (w0 := W) (v := v2) (A := P ++ [x, y]) t rfl ho2 rfl hlen2 ?_; intro v3 w3 ho3 hz3))
      go_roundw
      case rel => exact ⟨k + 1, by go_num, by omega, by rw [HTs.out, List.flatMap_append, HPP.out, List.flatMap_cons, List.flatMap_nil, List.append_nil, HP.out, ← List.append_assoc]; exact ho3⟩
      case measure => simp [intOf]; omega
    · have hq : decide ((k : Int) < L.length) = false := by simp; omega
      have htk := sparts_len L fun u hu => HL.out u hu
      rw [List.take_of_length_le (by omega)] at HO
      have hz0 := HO.out.2.size
      have hk2 : wr.heap[w.heap.size]? = some (.cells #[.int .u64 ka, .int .u64 kb] 45 (0, 0)) := blk_below HO.out.2 (lt_of_blk HK.out) HK.out
      obtain ⟨k0, k1⟩ := cells2K hk2
      go_wp2_with fail
      refine (ssum_any _ ka kb _ (L.flatMap partP) _ (OwnV.vec (size := 1) (enc := encB) (fun _ => rfl) HO.out) (by omega)).mono ?_
      rintro e w2 ⟨rfl, hb2⟩
      go_wp2_with fail
      go_ret
      exact ⟨rfl, HB0.out.trans ((HO.out.2.mono HB0.out.size).trans (hb2.mono (by have := HB0.out.size; omega)))⟩
theorem wpk_name {P : Program} {md : Region.Mode} {ops : Array Oper} {Q : Exit → Act → World → Prop} {S : World → Prop} {k fuel : Nat} {listed : Array Bool} {a : Act} {W : World} (h : ∀ w', w' = W → wpAnyK P md ops Q S k fuel listed a w') : wpAnyK P md ops Q S k fuel listed a W := h W rfl
/-- two texts that lie in one block -/
theorem sparts_two (ka kb : Int) (x y : List UInt8) (hx : x.length ≤ 60000) (hy : y.length ≤ 60000) (w : World) (g : Nat) (h : w.heap[g]? = some (.cells #[strV x, strV y] 9 (0, 0))) :
    Calls Tryz.prog 122 #[.agg #[.int .u64 ka, .int .u64 kb], .slice (some ⟨g, 0, none⟩) 2 2] w fun e w' => e = .returned (.int .u64 (partsP ka kb [x, y])) ∧ Below w.heap.size w w' := by
  refine sparts_any Any1 ka kb _ [x, y] w ⟨_, 2, rfl, by simp, fun _ => ⟨g, 0, rfl, trivial, lt_of_blk h, fun j z hj i u hu => ?_⟩⟩ (by intro t ht; simp at ht; rcases ht with rfl | rfl <;> omega) (by simp)
  rw [cell_of_row _ _ _ _ _ _ h]
  match j, i, hj, hu with
  | 0, 0, hj, hu => simp at hj; subst hj; simpa using hu
  | 1, 0, hj, hu => simp at hj; subst hj; simpa using hu
  | 0, i + 1, hj, hu => simp at hu
  | 1, i + 1, hj, hu => simp at hu
  | j + 2, _, hj, _ => simp at hj
set_option maxHeartbeats 4000000 in
theorem sderive_any (ka kb : Int) (l : List UInt8) (w : World) (hl : l.length ≤ 60000) :
    Calls Tryz.prog 188 #[.agg #[.int .u64 ka, .int .u64 kb], strV l] w fun e w' => e = .returned (.agg #[.int .u64 (deriveP ka kb l).1, .int .u64 (deriveP ka kb l).2]) ∧ Below w.heap.size w w' := by
  obtain ⟨p, hp⟩ : ∃ p, partsP ka kb [l, [97]] = p := ⟨_, rfl⟩
  obtain ⟨q, hq⟩ : ∃ q, partsP ka kb [l, [98]] = q := ⟨_, rfl⟩
  have hpq : deriveP ka kb l = (p, q) := by rw [← hp, ← hq]; rfl
  rw [hpq]
  have HP := Lib.hid hp; have HQ := Lib.hid hq
  clear hp hq hpq
  go_enter Tryz.func188, Tryz.ntmps188
  go_wp2_with fail
  refine wp_world (fun W hW => ?_)
  have hb0 : Below w.heap.size w W := by rw [hW]; exact ((Below.refl _ _).alloc (Nat.le_refl _) _).alloc (by simp) _
  have hk0 : W.heap[w.heap.size]? = some (.cells #[.int .u64 ka, .int .u64 kb] 45 (0, 0)) := by rw [hW]; exact blk_old (blk_new rfl)
  have hz0 : W.heap[w.heap.size + 1]? = some (.cells #[.int .u64 0, .int .u64 0] 45 (0, 0)) := by rw [hW]; exact blk_new (by simp)
  have hW0 := lt_of_blk hk0
  obtain ⟨k0, k1⟩ := cells2K hk0
  clear hW
  have bD : Below W.heap.size W W.drew := (Below.refl _ _).drew
  refine wp_region_noPanic ?_
  refine wp_region_k (by kernel_rfl) (fun w' => w'.cell? ⟨w.heap.size, 0, none⟩ = some (.int .u64 ka) ∧ w'.cell? ⟨w.heap.size, 1, none⟩ = some (.int .u64 kb)) 9 (⟨k0, k1⟩) (fun hHeld => ?_)
  refine tK 0 (h := ?_)
  try simp only [List.getElem_toArray, List.getElem_cons_zero, List.getElem_cons_succ, Act.put, List.setIfInBounds_toArray, List.set_cons_zero, List.set_cons_succ]
  refine tK 1 (h := ?_)
  try simp only [List.getElem_toArray, List.getElem_cons_zero, List.getElem_cons_succ, Act.put, List.setIfInBounds_toArray, List.set_cons_zero, List.set_cons_succ]
  refine tK 4 (h := ?_)
  try simp only [List.getElem_toArray, List.getElem_cons_zero, List.getElem_cons_succ, Act.put, List.setIfInBounds_toArray, List.set_cons_zero, List.set_cons_succ]
  refine tK 5 (h := ?_)
  try simp only [List.getElem_toArray, List.getElem_cons_zero, List.getElem_cons_succ, Act.put, List.setIfInBounds_toArray, List.set_cons_zero, List.set_cons_succ]
  refine wpAnyK_ready (rs := [2, 6]) (by kernel_rfl) (by simp) ?_
  refine AllReadyK.cons rfl (fun K hK => ?_) (AllReadyK.cons rfl (fun K hK => ?_) AllReadyK.nil)
  focus
    go_simp
    refine shutK hK (⟨((bD.alloc bD.size _).cell (p := ⟨w.heap.size, 0, none⟩) hW0).trans k0, ((bD.alloc bD.size _).cell (p := ⟨w.heap.size, 1, none⟩) hW0).trans k1⟩) (fun hHeld => ?_)
    clear hK K
    try simp only [List.getElem_toArray, List.getElem_cons_zero, List.getElem_cons_succ, Act.put, List.setIfInBounds_toArray, List.set_cons_zero, List.set_cons_succ]
    refine wpk_name (fun W1 hW1 => ?_)
    have b1 : Below W.heap.size W W1 := by rw [hW1]; exact bD.alloc bD.size (.cells #[strV l, strV [97]] 9)
    have g1 : W1.heap[W.heap.size]? = some (.cells #[strV l, strV [97]] 9 (0, 0)) := by rw [hW1]; exact blk_new rfl
    clear hW1
    refine wpAnyK_ready (rs := [3, 6]) (by kernel_rfl) (by simp) ?_
    refine AllReadyK.cons rfl (fun K hK => ?_) (AllReadyK.cons rfl (fun K hK => ?_) AllReadyK.nil)
    focus
      go_simp
      refine (sparts_two ka kb l [97] hl (by decide) _ _ g1).mono ?_
      rintro e w2 ⟨rfl, hb⟩
      have b2 := b1.trans (hb.mono b1.size)
      clear hb
      refine shutK hK (⟨(b2.cell (p := ⟨w.heap.size, 0, none⟩) hW0).trans k0, (b2.cell (p := ⟨w.heap.size, 1, none⟩) hW0).trans k1⟩) (fun hHeld => ?_)
      clear hK K
      try simp only [List.getElem_toArray, List.getElem_cons_zero, List.getElem_cons_succ, Act.put, List.setIfInBounds_toArray, List.set_cons_zero, List.set_cons_succ]
      refine wpAnyK_ready (rs := [6]) (by kernel_rfl) (by simp) ?_
      refine AllReadyK.cons rfl (fun K hK => ?_) AllReadyK.nil
      go_simp
      refine shutK hK (⟨((b2.alloc b2.size _).cell (p := ⟨w.heap.size, 0, none⟩) hW0).trans k0, ((b2.alloc b2.size _).cell (p := ⟨w.heap.size, 1, none⟩) hW0).trans k1⟩) (fun hHeld => ?_)
      clear hK K
      try simp only [List.getElem_toArray, List.getElem_cons_zero, List.getElem_cons_succ, Act.put, List.setIfInBounds_toArray, List.set_cons_zero, List.set_cons_succ]
      refine wpk_name (fun W3 hW3 => ?_)
      have b3 : Below W.heap.size W W3 := by rw [hW3]; exact b2.alloc b2.size (.cells #[strV l, strV [98]] 9)
      have g3 : W3.heap[w2.heap.size]? = some (.cells #[strV l, strV [98]] 9 (0, 0)) := by rw [hW3]; exact blk_new rfl
      clear hW3
    rotate_left 1
    focus
      go_simp
      refine shutK hK (⟨((b1.alloc b1.size _).cell (p := ⟨w.heap.size, 0, none⟩) hW0).trans k0, ((b1.alloc b1.size _).cell (p := ⟨w.heap.size, 1, none⟩) hW0).trans k1⟩) (fun hHeld => ?_)
      clear hK K
      try simp only [List.getElem_toArray, List.getElem_cons_zero, List.getElem_cons_succ, Act.put, List.setIfInBounds_toArray, List.set_cons_zero, List.set_cons_succ]
      refine wpk_name (fun W2 hW2 => ?_)
      have b2 : Below W.heap.size W W2 := by rw [hW2]; exact b1.alloc b1.size (.cells #[strV l, strV [98]] 9)
      have g3 : W2.heap[W1.heap.size]? = some (.cells #[strV l, strV [98]] 9 (0, 0)) := by rw [hW2]; exact blk_new rfl
      have g1' : W2.heap[W.heap.size]? = some (.cells #[strV l, strV [97]] 9 (0, 0)) := by rw [hW2]; exact blk_old g1
      clear hW2
      refine wpAnyK_ready (rs := [3]) (by kernel_rfl) (by simp) ?_
      refine AllReadyK.cons rfl (fun K hK => ?_) AllReadyK.nil
      go_simp
      refine (sparts_two ka kb l [97] hl (by decide) _ _ g1').mono ?_
      rintro e W3 ⟨rfl, hb⟩
      have b3 := b2.trans (hb.mono b2.size)
      have g3 := blk_below hb (lt_of_blk g3) g3
      clear hb
      refine shutK hK (⟨(b3.cell (p := ⟨w.heap.size, 0, none⟩) hW0).trans k0, (b3.cell (p := ⟨w.heap.size, 1, none⟩) hW0).trans k1⟩) (fun hHeld => ?_)
      clear hK K
      try simp only [List.getElem_toArray, List.getElem_cons_zero, List.getElem_cons_succ, Act.put, List.setIfInBounds_toArray, List.set_cons_zero, List.set_cons_succ]
  rotate_left 2
  focus
    go_simp
    refine shutK hK (⟨((bD.alloc bD.size _).cell (p := ⟨w.heap.size, 0, none⟩) hW0).trans k0, ((bD.alloc bD.size _).cell (p := ⟨w.heap.size, 1, none⟩) hW0).trans k1⟩) (fun hHeld => ?_)
    clear hK K
    try simp only [List.getElem_toArray, List.getElem_cons_zero, List.getElem_cons_succ, Act.put, List.setIfInBounds_toArray, List.set_cons_zero, List.set_cons_succ]
    refine wpk_name (fun W1 hW1 => ?_)
    have b1 : Below W.heap.size W W1 := by rw [hW1]; exact bD.alloc bD.size (.cells #[strV l, strV [98]] 9)
    have g3 : W1.heap[W.heap.size]? = some (.cells #[strV l, strV [98]] 9 (0, 0)) := by rw [hW1]; exact blk_new rfl
    clear hW1
    refine wpAnyK_ready (rs := [2]) (by kernel_rfl) (by simp) ?_
    refine AllReadyK.cons rfl (fun K hK => ?_) AllReadyK.nil
    go_simp
    refine shutK hK (⟨((b1.alloc b1.size _).cell (p := ⟨w.heap.size, 0, none⟩) hW0).trans k0, ((b1.alloc b1.size _).cell (p := ⟨w.heap.size, 1, none⟩) hW0).trans k1⟩) (fun hHeld => ?_)
    clear hK K
    try simp only [List.getElem_toArray, List.getElem_cons_zero, List.getElem_cons_succ, Act.put, List.setIfInBounds_toArray, List.set_cons_zero, List.set_cons_succ]
    refine wpk_name (fun W2 hW2 => ?_)
    have b2 : Below W.heap.size W W2 := by rw [hW2]; exact b1.alloc b1.size (.cells #[strV l, strV [97]] 9)
    have g1 : W2.heap[W1.heap.size]? = some (.cells #[strV l, strV [97]] 9 (0, 0)) := by rw [hW2]; exact blk_new rfl
    have g3' : W2.heap[W.heap.size]? = some (.cells #[strV l, strV [98]] 9 (0, 0)) := by rw [hW2]; exact blk_old g3
    clear hW2
    refine wpAnyK_ready (rs := [3]) (by kernel_rfl) (by simp) ?_
    refine AllReadyK.cons rfl (fun K hK => ?_) AllReadyK.nil
    go_simp
    refine (sparts_two ka kb l [97] hl (by decide) _ _ g1).mono ?_
    rintro e W3 ⟨rfl, hb⟩
    have b3 := b2.trans (hb.mono b2.size)
    have g3 := blk_below hb (lt_of_blk g3') g3'
    clear hb
    refine shutK hK (⟨(b3.cell (p := ⟨w.heap.size, 0, none⟩) hW0).trans k0, (b3.cell (p := ⟨w.heap.size, 1, none⟩) hW0).trans k1⟩) (fun hHeld => ?_)
    clear hK K
    try simp only [List.getElem_toArray, List.getElem_cons_zero, List.getElem_cons_succ, Act.put, List.setIfInBounds_toArray, List.set_cons_zero, List.set_cons_succ]
  all_goals
    refine wpAnyK_ready (rs := [7]) (by kernel_rfl) (by simp) ?_
    refine AllReadyK.cons rfl (fun K hK => ?_) AllReadyK.nil
    go_simp
    refine (sparts_two ka kb l [98] hl (by decide) _ _ g3).mono ?_; rintro e w4 ⟨rfl, hb⟩; have b4 := b3.trans (hb.mono b3.size); clear hb; rw [HP.out, HQ.out]
    refine shutK hK (⟨(b4.cell (p := ⟨w.heap.size, 0, none⟩) hW0).trans k0, (b4.cell (p := ⟨w.heap.size, 1, none⟩) hW0).trans k1⟩) (fun hHeld => ?_)
    clear hK K
    try simp only [List.getElem_toArray, List.getElem_cons_zero, List.getElem_cons_succ, Act.put, List.setIfInBounds_toArray, List.set_cons_zero, List.set_cons_succ]
    refine tK 8 (h := ?_)
    try simp only [List.getElem_toArray, List.getElem_cons_zero, List.getElem_cons_succ, Act.put, List.setIfInBounds_toArray, List.set_cons_zero, List.set_cons_succ]
    have hz4 := blk_below b4 (lt_of_blk hz0) hz0
    have hz5 := lt_of_blk hz4
    obtain ⟨z0, z1⟩ := cells2K hz4
    have y0 := frozen_of_row _ _ 0 _ _ hz4
    have y1 := frozen_of_row _ _ 1 _ _ hz4
    refine wpAnyK_ready (rs := [9]) (by kernel_rfl) (by simp) ?_
    refine AllReadyK.cons rfl (fun K hK => ?_) AllReadyK.nil
    go_simp
    refine shutK_off hK (by decide) ?_
    clear hK K
    try simp only [List.getElem_toArray, List.getElem_cons_zero, List.getElem_cons_succ, Act.put, List.setIfInBounds_toArray, List.set_cons_zero, List.set_cons_succ]
    refine wpAnyK_done (by kernel_rfl) ?_ _
    refine NoPanic.normal ?_
    go_wp2_with fail
    exact bodyPost_row1 rfl rfl (blk_set (i := 1) (v := .int .u64 q) (blk_set (i := 0) (v := .int .u64 p) hz4)) Tryz.underlying45 rfl (by kernel_rfl)
      ⟨rfl, ((hb0.trans (b4.mono hb0.size)).setCell (p := ⟨w.heap.size + 1, 0, none⟩) (Nat.le_succ _) _).setCell (p := ⟨w.heap.size + 1, 1, none⟩) (Nat.le_succ _) _⟩
end
section
set_option maxRecDepth 100000
open Go.RowKit
set_option maxHeartbeats 400000 in
theorem right_any (n : Int) (w : World) (hn : -9223372036854775808 ≤ n) (hn2 : n ≤ 9223372036854775807) :
    Calls Tryz.prog 138 #[.int .i64 n] w fun e w' => e = .returned (.bool (rightB n)) ∧ w = w' := by
  unfold rightB
  by_cases h1 : 64 ≤ n
  · by_cases h2 : n ≤ 512
    · have e1 : decide ((64 : Int) ≤ n) = true := by simpa using h1
      have e2 : decide (n ≤ (512 : Int)) = true := by simpa using h2
      rw [e1, e2]
      go_enter Tryz.func138, Tryz.ntmps138
      go_wp2_with fail
      go_ret
      exact ⟨rfl, rfl⟩
    · have e1 : decide ((64 : Int) ≤ n) = true := by simpa using h1
      have e2 : decide (n ≤ (512 : Int)) = false := by simpa using h2
      rw [e1, e2]
      go_enter Tryz.func138, Tryz.ntmps138
      go_wp2_with fail
      go_ret
      exact ⟨rfl, rfl⟩
  · have e1 : decide ((64 : Int) ≤ n) = false := by simpa using h1
    rw [e1]
    go_enter Tryz.func138, Tryz.ntmps138
    go_wp2_with fail
    go_ret
    exact ⟨rfl, rfl⟩
/-- words of an array -/
abbrev encU (x : Int) : List Value := [.int .u64 x]
theorem made_words (m : Nat) : madeCells #[.int .u64 0] m = ((List.replicate m (0 : Int)).flatMap encU).toArray := by
  apply Array.ext'
  have : ∀ k, (List.replicate k (0 : Int)).flatMap encU = List.replicate k (.int .u64 0) := by
    intro k; induction k with
    | zero => rfl
    | succ k ih => rw [List.replicate_succ, List.flatMap_cons, ih]; rfl
  rw [this]
  unfold madeCells
  rw [Array.toList_map, Array.toList_range]
  refine List.ext_getElem (by simp) fun i h1 h2 => ?_
  simp [Nat.mod_one]
def NewPost (n : Int) (w : World) (e : Ending) (w' : World) : Prop := ∃ (g m : Nat), e = .returned (.tuple #[.agg #[.int .i64 n, .slice (some ⟨g, 0, none⟩) m m], .int .i64 0]) ∧ n = 64 * m ∧ w.heap.size ≤ g ∧ w'.heap[g]? = some (.cells ((zeroW n).flatMap encU).toArray 43 (0, 0)) ∧ Below w.heap.size w w'
theorem infoU : (Tryz.prog.info? 43).map (fun i => (i.zero, i.size, i.bytes)) = some (some (.int .u64 0), 1, 8) := by kernel_rfl
set_option maxHeartbeats 1000000 in
theorem bnew_yes (n : Int) (w : World) (h : rightB n = true) : Calls Tryz.prog 102 #[.int .i64 n] w (NewPost n w) := by
  have h0 := h
  simp only [rightB, Bool.and_eq_true, decide_eq_true_iff, beq_iff_eq] at h0
  obtain ⟨⟨h1, h2⟩, h3⟩ := h0
  obtain ⟨m, hm⟩ : ∃ m : Nat, n = 64 * m := ⟨(n / 64).toNat, by omega⟩
  have hdiv : n / 64 = (m : Int) := by omega
  have hz : zeroW n = List.replicate m 0 := by unfold zeroW; rw [hdiv]; rfl
  have hmk := run_make_row' (P := Tryz.prog) 82 43 (.int .u64 0) 8 Tryz.underlying82 infoU rfl .i64 .i64 m (by omega) (by omega)
  rw [made_words] at hmk
  have HR := Lib.hid h; have HM := Lib.hid hm; have HZ := Lib.hid hz
  clear h hm h3 hz
  go_enter Tryz.func102, Tryz.ntmps102
  go_wp2_with fail
  refine (right_any n _ (by omega) (by omega)).mono ?_
  rw [HR.out]
  rintro e w1 ⟨rfl, rfl⟩
  go_wp2_with fail
  exact bodyPost_row2 rfl rfl (blk_old (blk_new rfl)) Tryz.underlying84 rfl (by kernel_rfl)
    ⟨w.heap.size + 1, m, rfl, HM.out, Nat.le_succ _, by rw [HZ.out]; exact blk_new (by simp), ((Below.refl _ _).alloc (Nat.le_refl _) _).alloc (by simp) _⟩
/-- an array of bits: its two cells -/
def BitsAt (w : World) (S : Nat → Prop) (v : Value) (b : BitsL) : Prop := ∃ s, v = .agg #[.int .i64 b.len, s] ∧ Vec w S 1 encU s b.words
def validB (b : BitsL) : Bool := rightB b.len && ((b.words.length : Int) == b.len / 64)
set_option maxHeartbeats 1000000 in
theorem bvalid_any (S : Nat → Prop) (v : Value) (b : BitsL) (w : World) (h : BitsAt w S v b) (hn : -9223372036854775808 ≤ b.len) (hn2 : b.len ≤ 9223372036854775807) :
    Calls Tryz.prog 92 #[v] w fun e w' => e = .returned (.bool (validB b)) ∧ Below w.heap.size w w' := by
  obtain ⟨s, rfl, hv⟩ := h
  obtain ⟨a, cap, rfl⟩ := hv.slice
  clear hv
  unfold validB
  cases hr : rightB b.len
  · have HR := Lib.hid hr; clear hr
    go_enter Tryz.func92, Tryz.ntmps92
    go_wp2_with fail
    refine (right_any _ _ hn hn2).mono ?_
    rw [HR.out]
    rintro e w1 ⟨rfl, rfl⟩
    go_wp2_with fail
    go_ret
    exact ⟨rfl, (Below.refl _ _).alloc (Nat.le_refl _) _⟩
  · have h0 := hr
    simp only [rightB, Bool.and_eq_true, decide_eq_true_iff, beq_iff_eq] at h0
    obtain ⟨⟨h1, h2⟩, h3⟩ := h0
    have HR := Lib.hid hr; clear hr h3
    go_enter Tryz.func92, Tryz.ntmps92
    go_wp2_with fail
    refine (right_any _ _ hn hn2).mono ?_
    rw [HR.out]
    rintro e w1 ⟨rfl, rfl⟩
    go_wp2_with fail
    go_ret
    exact ⟨rfl, (Below.refl _ _).alloc (Nat.le_refl _) _⟩
set_option maxHeartbeats 1000000 in
theorem bcheck_yes (p : ParL) (w : World) (h : ParOk p) :
    Calls Tryz.prog 93 #[.agg #[.int .i64 p.len, .int .i64 p.hashes, .int .i64 p.salt]] w fun e w' => e = .returned (.int .i64 0) ∧ Below w.heap.size w w' := by
  have hr := h.right
  have e1 : decide (p.hashes < (1 : Int)) = false := by have := h.h1; simp; omega
  have e2 : decide ((16 : Int) < p.hashes) = false := by have := h.h2; simp; omega
  have e3 : decide (p.salt < (-1 : Int)) = false := by have := h.s1; simp; omega
  have e4 : decide ((5 : Int) ≤ p.salt) = false := by have := h.s2; simp; omega
  clear h
  go_enter Tryz.func93, Tryz.ntmps93
  go_wp2_with fail
  refine (bnew_yes _ _ hr).mono ?_
  rintro e w1 ⟨g, m, rfl, -, hg, -, hb⟩
  have HB := Lib.hid (((Below.refl w.heap.size w).alloc (Nat.le_refl _) (.cells #[.int .i64 p.len, .int .i64 p.hashes, .int .i64 p.salt] 81)).trans (hb.mono (by simp)))
  have HX := Lib.hid (blk_below (b := w.heap.size) (o := .cells #[.int .i64 p.len, .int .i64 p.hashes, .int .i64 p.salt] 81 (0, 0)) hb (by simp) (blk_new rfl))
  clear hb hg
  have z0 := lt_of_blk HX.out
  obtain ⟨p0, p1, p2⟩ := cells3 HX.out
  go_wp2_with fail
  go_ret
  exact ⟨rfl, HB.out.alloc HB.out.size _⟩
end
section
open Go.RowKit
theorem getD_at {α : Type} (l : List α) (d : α) {i : Nat} (h : i < l.length) : l.getD i d = l[i] := by rw [List.getD, List.getElem?_eq_getElem h]; rfl
def cmp3 (x y : Int) : Int := if x < y then -1 else if y < x then 1 else 0
theorem cmp3_self (x : Int) : cmp3 x x = 0 := by unfold cmp3; simp
theorem cmp3_eq {x y : Int} (h : cmp3 x y = 0) : x = y := by
  unfold cmp3 at h
  split at h
  · simp at h
  · split at h
    · simp at h
    · omega
def cmpW : List Int → List Int → Int
  | [], [] => 0
  | [], _ :: _ => -1
  | _ :: _, [] => 1
  | x :: a, y :: b => if cmp3 x y = 0 then cmpW a b else cmp3 x y
theorem cmpW_self : ∀ a : List Int, cmpW a a = 0
  | [] => rfl
  | x :: a => by unfold cmpW; rw [if_pos (cmp3_self x)]; exact cmpW_self a
theorem cmpW_eq : ∀ a b : List Int, cmpW a b = 0 → a = b
  | [], [], _ => rfl
  | [], _ :: _, h => by simp [cmpW] at h
  | _ :: _, [], h => by simp [cmpW] at h
  | x :: a, y :: b, h => by
    unfold cmpW at h
    split at h
    next h1 => rw [cmp3_eq h1, cmpW_eq a b h]
    next h1 => exact absurd h h1
theorem cmpW_nilr : ∀ a : List Int, cmpW a [] = if a.length = 0 then 0 else 1
  | [] => rfl
  | _ :: _ => rfl
theorem cmpW_nill : ∀ b : List Int, cmpW [] b = if b.length = 0 then 0 else -1
  | [] => rfl
  | _ :: _ => rfl
theorem cmpW_drop {a b : List Int} {k : Nat} (h1 : k < a.length) (h2 : k < b.length) : cmpW (a.drop k) (b.drop k) = if cmp3 (a.getD k 0) (b.getD k 0) = 0 then cmpW (a.drop (k + 1)) (b.drop (k + 1)) else cmp3 (a.getD k 0) (b.getD k 0) := by
  rw [List.drop_eq_getElem_cons h1, List.drop_eq_getElem_cons h2, getD_at _ _ h1, getD_at _ _ h2]; rfl
/-- the first that is not zero -/
def orN : List Int → Int
  | [] => 0
  | x :: l => if x = 0 then orN l else x
def cmpB (a b : BitsL) : Int := orN [cmp3 a.len b.len, cmp3 a.words.length b.words.length, cmpW a.words b.words]
theorem cmpB_self (a : BitsL) : cmpB a a = 0 := by simp [cmpB, orN, cmp3_self, cmpW_self]
theorem orN_zero : ∀ {l : List Int}, orN l = 0 → ∀ x ∈ l, x = 0
  | [], _, x, h => by simp at h
  | y :: l, h, x, hx => by
    unfold orN at h
    split at h
    next h1 =>
      rcases List.mem_cons.1 hx with rfl | hx
      · exact h1
      · exact orN_zero h x hx
    next h1 => exact absurd h h1
theorem cmpB_eq {a b : BitsL} (h : cmpB a b = 0) : a = b := by
  obtain ⟨n, u⟩ := a; obtain ⟨m, v⟩ := b
  have h1 := orN_zero h (cmp3 n m) (by simp)
  have h2 := orN_zero h (cmpW u v) (by simp)
  rw [cmp3_eq h1, cmpW_eq _ _ h2]
/-- two lists of arrays are equal -/
def sameAt (A B : List BitsL) (j : Nat) : Bool := decide (cmpB (A.getD j noBits) (B.getD j noBits) = 0)
def sameF (A B : List BitsL) : Bool := decide (A.length = B.length) && (List.range A.length).all (sameAt A B)
def sameE (a b : EncL) : Bool := decide (a.id = b.id) && (decide (a.ver = b.ver) && sameF a.fields b.fields)
theorem sameF_self (A : List BitsL) : sameF A A = true := by simp [sameF, sameAt, cmpB_self]
theorem sameE_self (a : EncL) : sameE a a = true := by simp [sameE, sameF_self]
def noneB (b : BitsL) : Bool := decide (b.len = 0) && decide (b.words.length = 0)
def badB (b : BitsL) : Bool := !noneB b && !validB b
def evalidB (e : EncL) : Bool := decide (1 ≤ e.id) && decide (e.id ≤ 1048576) && decide (1 ≤ e.ver) && decide (e.ver ≤ 1048576) && decide (1 ≤ e.fields.length) && decide (e.fields.length ≤ 5) && !(e.fields.any badB)
end
section
set_option maxRecDepth 100000
open Go.RowKit
/-- w' is w, but for blocks that meet T, and for new blocks -/
structure KeptBut (T : Nat → Prop) (w w' : World) : Prop where
  os : w'.os = w.os
  tape : w'.tape = w.tape
  output : w'.output = w.output
  size : w.heap.size ≤ w'.heap.size
  block : ∀ k, k < w.heap.size → ¬ T k → w'.heap[k]? = w.heap[k]?
theorem KeptBut.refl (T : Nat → Prop) (w : World) : KeptBut T w w := ⟨rfl, rfl, rfl, Nat.le_refl _, fun _ _ _ => rfl⟩
theorem KeptBut.trans {T : Nat → Prop} {a b c : World} (h : KeptBut T a b) (k : KeptBut T b c) : KeptBut T a c :=
  ⟨k.os.trans h.os, k.tape.trans h.tape, k.output.trans h.output, Nat.le_trans h.size k.size, fun i hi ht => (k.block i (Nat.lt_of_lt_of_le hi h.size) ht).trans (h.block i hi ht)⟩
theorem KeptBut.below {T : Nat → Prop} {a b : World} {B : Nat} (h : KeptBut T a b) (hB : ∀ k, k < B → ¬ T k) (hs : B ≤ a.heap.size) : Below B a b := ⟨h.os, h.tape, h.output, h.size, fun k hk => h.block k (by omega) (hB k hk)⟩
theorem KeptBut.ofBelow {T : Nat → Prop} {a b : World} (h : Below a.heap.size a b) : KeptBut T a b := ⟨h.os, h.tape, h.output, h.size, fun k hk _ => h.block k hk⟩
theorem KeptBut.set {T : Nat → Prop} {a b : World} (h : KeptBut T a b) {p : Addr} (hp : T p.block) (v : Value) : KeptBut T a (b.setCell p v) :=
  ⟨h.os, h.tape, h.output, by simpa [World.setCell] using h.size, fun k hk hn => (heap_setCell_other _ _ _ _ (fun e => hn (by rw [e]; exact hp))).trans (h.block k hk hn)⟩
theorem KeptBut.drew {T : Nat → Prop} {a b : World} (h : KeptBut T a b) : KeptBut T a b.drew := ⟨h.os, h.tape, h.output, h.size, h.block⟩
theorem KeptBut.blk {T : Nat → Prop} {a b : World} (h : KeptBut T a b) {k : Nat} {o : Obj} (hk : ¬ T k) (ho : a.heap[k]? = some o) : b.heap[k]? = some o := (h.block k (lt_of_blk ho) hk).trans ho
abbrev oneI (x : Int) : Obj := .cells #[.int .i64 x] 3 (0, 0)
abbrev parC (p : ParL) : Array Value := #[.int .i64 p.len, .int .i64 p.hashes, .int .i64 p.salt]
/-- a function that deals positions: its four variables -/
structure ClosAt (w : World) (nb yb pb xb : Nat) (p : ParL) (x y : Int) : Prop where
  n : w.heap[nb]? = some (oneI x)
  y : w.heap[yb]? = some (oneI y)
  p : w.heap[pb]? = some (.cells (parC p) 81 (0, 0))
  x : ∃ z, w.heap[xb]? = some (oneI z)
  ne1 : nb ≠ yb
  ne2 : nb ≠ pb
  ne3 : nb ≠ xb
  ne4 : xb ≠ yb
  ne5 : xb ≠ pb
theorem cell1 {w : World} {b : Nat} {x : Value} {t : TypeId} {fr : Nat × Nat} (h : w.heap[b]? = some (.cells #[x] t fr)) : w.cell? ⟨b, 0, none⟩ = some x := by rw [cell_of_row _ _ _ _ _ _ h]; rfl
set_option maxHeartbeats 4000000 in
theorem bnext_any (nb yb pb xb : Nat) (p : ParL) (x y : Int) (w : World) (h : ClosAt w nb yb pb xb p x y) (hp : ParOk p) (hx : 0 ≤ x) (hx2 : x < p.len) (hy : 1 ≤ y) (hy2 : y ≤ 1000) :
    Calls Tryz.prog 271 #[.pointer (some ⟨nb, 0, none⟩), .pointer (some ⟨yb, 0, none⟩), .pointer (some ⟨pb, 0, none⟩), .pointer (some ⟨xb, 0, none⟩)] w fun e w' =>
      e = .returned (.int .i64 x) ∧ ClosAt w' nb yb pb xb p ((x + y) % p.len) y ∧ KeptBut (fun k => k = nb ∨ k = xb) w w' := by
  obtain ⟨hn, hyy, hpp, ⟨z, hz⟩, ne1, ne2, ne3, ne4, ne5⟩ := h
  have hl1 := hp.len1; have hl2 := hp.len2
  have hl0 : p.len ≠ 0 := by omega
  have hw0 : IntKind.i64.wrap (x + y) = x + y := by rw [IntKind.wrap_i64]; omega
  have hw : (IntKind.i64.wrap (x + y)).tmod p.len = (x + y) % p.len := by rw [hw0, Int.tmod_eq_emod_of_nonneg (by omega)]
  clear hw0
  have c0 := cell1 hn; have c1 := cell1 hyy; have c2 := cell1 hz
  obtain ⟨q0, q1, q2⟩ := cells3 hpp
  have f0 := frozen_of_row _ _ 0 _ _ hn; have f1 := frozen_of_row _ _ 0 _ _ hz
  have z0 := lt_of_blk hn; have z1 := lt_of_blk hz
  have H1 := Lib.hid hn; have H2 := Lib.hid hyy; have H3 := Lib.hid hpp; have H4 := Lib.hid hz
  clear hn hyy hpp hz hp
  go_enter Tryz.func271, Tryz.ntmps271
  go_wp2_with fail
  refine wp_region_noPanic ?_
  refine wp_region_k (by kernel_rfl) (fun w' => w'.cell? ⟨nb, 0, none⟩ = some (.int .i64 x) ∧ w'.cell? ⟨yb, 0, none⟩ = some (.int .i64 y) ∧ w'.cell? ⟨pb, 0, none⟩ = some (.int .i64 p.len)) 8 (⟨c0, c1, q0⟩) (fun hHeld => ?_)
  refine tK 0 (h := ?_)
  try simp only [List.getElem_toArray, List.getElem_cons_zero, List.getElem_cons_succ, Act.put, List.setIfInBounds_toArray, List.set_cons_zero, List.set_cons_succ]
  refine tK 1 (h := ?_)
  try simp only [List.getElem_toArray, List.getElem_cons_zero, List.getElem_cons_succ, Act.put, List.setIfInBounds_toArray, List.set_cons_zero, List.set_cons_succ]
  refine tK 2 (h := ?_)
  try simp only [List.getElem_toArray, List.getElem_cons_zero, List.getElem_cons_succ, Act.put, List.setIfInBounds_toArray, List.set_cons_zero, List.set_cons_succ]
  refine tK 3 (h := ?_)
  try simp only [List.getElem_toArray, List.getElem_cons_zero, List.getElem_cons_succ, Act.put, List.setIfInBounds_toArray, List.set_cons_zero, List.set_cons_succ]
  refine tK 4 (h := ?_)
  try simp only [List.getElem_toArray, List.getElem_cons_zero, List.getElem_cons_succ, Act.put, List.setIfInBounds_toArray, List.set_cons_zero, List.set_cons_succ]
  refine tK 5 (h := ?_)
  try simp only [List.getElem_toArray, List.getElem_cons_zero, List.getElem_cons_succ, Act.put, List.setIfInBounds_toArray, List.set_cons_zero, List.set_cons_succ]
  refine tK 6 (h := ?_)
  try simp only [List.getElem_toArray, List.getElem_cons_zero, List.getElem_cons_succ, Act.put, List.setIfInBounds_toArray, List.set_cons_zero, List.set_cons_succ]
  have g0 : ∀ v, (w.setCell ⟨xb, 0, none⟩ v).cell? ⟨nb, 0, none⟩ = some (.int .i64 x) := fun v => by rw [cell1 (blk_far H1.out ne3)]
  have g1 : ∀ v, (w.setCell ⟨xb, 0, none⟩ v).cell? ⟨yb, 0, none⟩ = some (.int .i64 y) := fun v => by rw [cell1 (blk_far H2.out (Ne.symm ne4))]
  have g2 : ∀ v, (w.setCell ⟨xb, 0, none⟩ v).cell? ⟨pb, 0, none⟩ = some (.int .i64 p.len) := fun v => (cells3 (blk_far H3.out (Ne.symm ne5))).1
  refine wpAnyK_ready (rs := [7]) (by kernel_rfl) (by simp) ?_
  refine AllReadyK.cons rfl (fun K hK => ?_) AllReadyK.nil
  go_simp
  refine shutK hK (⟨g0 _, g1 _, g2 _⟩) (fun hHeld => ?_)
  clear hK K
  try simp only [List.getElem_toArray, List.getElem_cons_zero, List.getElem_cons_succ, Act.put, List.setIfInBounds_toArray, List.set_cons_zero, List.set_cons_succ]
  have g3 : ∀ v, (w.setCell ⟨xb, 0, none⟩ v).frozen? ⟨nb, 0, none⟩ = false := fun v => frozen_of_row _ _ 0 _ _ (blk_far H1.out ne3)
  refine wpAnyK_ready (rs := [8]) (by kernel_rfl) (by simp) ?_
  refine AllReadyK.cons rfl (fun K hK => ?_) AllReadyK.nil
  go_simp
  refine shutK_off hK (by decide) ?_
  clear hK K
  try simp only [List.getElem_toArray, List.getElem_cons_zero, List.getElem_cons_succ, Act.put, List.setIfInBounds_toArray, List.set_cons_zero, List.set_cons_succ]
  refine wpAnyK_done (by kernel_rfl) ?_ _
  refine NoPanic.normal ?_
  clear g0 g1 g2 g3
  have e1 := blk_set (i := 0) (v := .int .i64 x) H4.out
  have e2 : ((w.setCell ⟨xb, 0, none⟩ (.int .i64 x)).setCell ⟨nb, 0, none⟩ (.int .i64 ((x + y) % p.len))).heap[xb]? = some (oneI x) := blk_far e1 (Ne.symm ne3)
  have g4 : ((w.setCell ⟨xb, 0, none⟩ (.int .i64 x)).setCell ⟨nb, 0, none⟩ (.int .i64 ((x + y) % p.len))).cell? ⟨xb, 0, none⟩ = some (.int .i64 x) := cell1 e2
  go_wp2_with fail
  go_ret
  refine ⟨rfl, ⟨?_, ?_, ?_, ⟨x, ?_⟩, ne1, ne2, ne3, ne4, ne5⟩, ?_⟩
  · exact blk_set (i := 0) (v := .int .i64 ((x + y) % p.len)) (blk_far H1.out ne3)
  · exact blk_far (blk_far H2.out (Ne.symm ne4)) (Ne.symm ne1)
  · exact blk_far (blk_far H3.out (Ne.symm ne5)) (Ne.symm ne2)
  · exact e2
  · exact (((KeptBut.refl _ w).set (p := ⟨xb, 0, none⟩) (.inr rfl) _).set (p := ⟨nb, 0, none⟩) (.inl rfl) _).drew
theorem partsP_bd (ka kb : Int) (L : List (List UInt8)) : 0 ≤ partsP ka kb L ∧ partsP ka kb L < 18446744073709551616 := by
  unfold partsP sumP xr; exact bits_u64_bd _ _ _
def DrawnPost (p : ParL) (k : Int × Int) (g : List UInt8) (w : World) (e : Ending) (w' : World) : Prop :=
  ∃ nb yb pb xb : Nat, e = .returned (.func (.func 271) #[] #[.pointer (some ⟨nb, 0, none⟩), .pointer (some ⟨yb, 0, none⟩), .pointer (some ⟨pb, 0, none⟩), .pointer (some ⟨xb, 0, none⟩)]) ∧
    ClosAt w' nb yb pb xb p (firstP p k g) (stepP p k g) ∧ (w.heap.size ≤ nb ∧ w.heap.size ≤ xb ∧ w.heap.size ≤ yb ∧ w.heap.size ≤ pb) ∧ Below w.heap.size w w'
set_option maxHeartbeats 4000000 in
theorem drawn_any (p : ParL) (k : Int × Int) (g : List UInt8) (w : World) (hp : ParOk p) (hg : g.length ≤ 60000) :
    Calls Tryz.prog 239 #[.agg (parC p), .agg #[.int .u64 k.1, .int .u64 k.2], strV g] w (DrawnPost p k g w) := by
  have hl1 := hp.len1; have hl2 := hp.len2
  have hl0 : p.len ≠ 0 := by omega
  have hl3 : p.len - 1 ≠ 0 := by omega
  obtain ⟨h0, h1⟩ := partsP_bd k.1 k.2 [[49], g]
  obtain ⟨h2, h3⟩ := partsP_bd k.1 k.2 [[50], g]
  have hw1 : IntKind.u64.wrap p.len = p.len := by rw [IntKind.wrap_u64]; omega
  have hw2 : IntKind.i64.wrap (p.len - 1) = p.len - 1 := by rw [IntKind.wrap_i64]; omega
  have hw3 : IntKind.u64.wrap (p.len - 1) = p.len - 1 := by rw [IntKind.wrap_u64]; omega
  obtain ⟨X, hX⟩ : ∃ X, firstP p k g = X := ⟨_, rfl⟩
  obtain ⟨Y, hY⟩ : ∃ Y, (partsP k.1 k.2 [[50], g]) % (p.len - 1) = Y := ⟨_, rfl⟩
  have hm1 : (partsP k.1 k.2 [[49], g]).tmod p.len = X := by rw [← hX, Int.tmod_eq_emod_of_nonneg h0]; rfl
  have hm2 : (partsP k.1 k.2 [[50], g]).tmod (p.len - 1) = Y := by rw [← hY, Int.tmod_eq_emod_of_nonneg h2]
  have x0 : 0 ≤ X := by rw [← hX]; exact Int.emod_nonneg _ hl0
  have x1 : X < p.len := by rw [← hX]; exact Int.emod_lt_of_pos _ (by omega)
  have y0 : 0 ≤ Y := by rw [← hY]; exact Int.emod_nonneg _ hl3
  have y1 : Y < p.len - 1 := by rw [← hY]; exact Int.emod_lt_of_pos _ (by omega)
  have hc1 : IntKind.i64.wrap X = X := by rw [IntKind.wrap_i64]; omega
  have hc2 : IntKind.i64.wrap Y = Y := by rw [IntKind.wrap_i64]; omega
  have hc3 : IntKind.i64.wrap (1 + Y) = 1 + Y := by rw [IntKind.wrap_i64]; omega
  have HX := Lib.hid hX; have HY := Lib.hid (show stepP p k g = 1 + Y by rw [← hY]; rfl)
  clear hX hY h0 h1 h2 h3 x0 x1
  go_enter Tryz.func239, Tryz.ntmps239
  go_wp2_with fail
  refine wp_world (fun W hW => ?_)
  have hb0 : Below w.heap.size w W := by rw [hW]; exact ((Below.refl _ _).alloc (Nat.le_refl _) _).alloc (by simp) _
  have hp0 : W.heap[w.heap.size]? = some (.cells (parC p) 81 (0, 0)) := by rw [hW]; exact blk_old (blk_new rfl)
  have hk0 : W.heap[w.heap.size + 1]? = some (.cells #[.int .u64 k.1, .int .u64 k.2] 45 (0, 0)) := by rw [hW]; exact blk_new (by simp)
  clear hW
  have HB0 := Lib.hid hb0; have HP0 := Lib.hid hp0; have HK0 := Lib.hid hk0
  have hpW := lt_of_blk hp0; have hkW := lt_of_blk hk0
  obtain ⟨q0, q1, q2⟩ := cells3 hp0; obtain ⟨k0, k1⟩ := cells2K hk0
  clear hb0 hp0 hk0
  have bD : Below W.heap.size W W.drew := (Below.refl _ _).drew
  go_cut [7] (fun s7 wx => ∃ xb : Nat, s7 = .pointer (some ⟨xb, 0, none⟩) ∧ W.heap.size ≤ xb ∧ wx.heap[xb]? = some (oneI X) ∧ Below W.heap.size W wx)
  case first =>
    refine wp_region_noPanic ?_
    refine wp_region_k (by kernel_rfl) (fun w' => w'.cell? ⟨w.heap.size + 1, 0, none⟩ = some (.int .u64 k.1) ∧ w'.cell? ⟨w.heap.size + 1, 1, none⟩ = some (.int .u64 k.2) ∧ w'.cell? ⟨w.heap.size, 0, none⟩ = some (.int .i64 p.len)) 10 (⟨k0, k1, q0⟩) (fun hHeld => ?_)
    refine tK 0 (h := ?_)
    try simp only [List.getElem_toArray, List.getElem_cons_zero, List.getElem_cons_succ, Act.put, List.setIfInBounds_toArray, List.set_cons_zero, List.set_cons_succ]
    refine tK 1 (h := ?_)
    try simp only [List.getElem_toArray, List.getElem_cons_zero, List.getElem_cons_succ, Act.put, List.setIfInBounds_toArray, List.set_cons_zero, List.set_cons_succ]
    refine tK 4 (h := ?_)
    try simp only [List.getElem_toArray, List.getElem_cons_zero, List.getElem_cons_succ, Act.put, List.setIfInBounds_toArray, List.set_cons_zero, List.set_cons_succ]
    refine tK 5 (h := ?_)
    try simp only [List.getElem_toArray, List.getElem_cons_zero, List.getElem_cons_succ, Act.put, List.setIfInBounds_toArray, List.set_cons_zero, List.set_cons_succ]
    refine tK 6 (h := ?_)
    try simp only [List.getElem_toArray, List.getElem_cons_zero, List.getElem_cons_succ, Act.put, List.setIfInBounds_toArray, List.set_cons_zero, List.set_cons_succ]
    refine wpAnyK_ready (rs := [2, 9]) (by kernel_rfl) (by simp) ?_
    refine AllReadyK.cons rfl (fun K hK => ?_) (AllReadyK.cons rfl (fun K hK => ?_) AllReadyK.nil)
    focus
      go_simp
      refine shutK hK (⟨((bD.alloc bD.size _).cell (p := ⟨w.heap.size + 1, 0, none⟩) hkW).trans k0, ((bD.alloc bD.size _).cell (p := ⟨w.heap.size + 1, 1, none⟩) hkW).trans k1, ((bD.alloc bD.size _).cell (p := ⟨w.heap.size, 0, none⟩) hpW).trans q0⟩) (fun hHeld => ?_)
      clear hK K
      try simp only [List.getElem_toArray, List.getElem_cons_zero, List.getElem_cons_succ, Act.put, List.setIfInBounds_toArray, List.set_cons_zero, List.set_cons_succ]
      refine wpk_name (fun W1 hW1 => ?_)
      have b1 : Below W.heap.size W W1 := by rw [hW1]; exact bD.alloc bD.size (.cells #[strV [49], strV g] 9)
      have gs : W1.heap[W.heap.size]? = some (.cells #[strV [49], strV g] 9 (0, 0)) := by rw [hW1]; exact blk_new rfl
      have ltgs : W.heap.size ≤ W.heap.size := bD.size
      clear hW1 hHeld
      have hHeld : W1.cell? ⟨w.heap.size + 1, 0, none⟩ = some (.int .u64 k.1) ∧ W1.cell? ⟨w.heap.size + 1, 1, none⟩ = some (.int .u64 k.2) ∧ W1.cell? ⟨w.heap.size, 0, none⟩ = some (.int .i64 p.len) := ⟨(b1.cell (p := ⟨w.heap.size + 1, 0, none⟩) hkW).trans k0, (b1.cell (p := ⟨w.heap.size + 1, 1, none⟩) hkW).trans k1, (b1.cell (p := ⟨w.heap.size, 0, none⟩) hpW).trans q0⟩
      refine wpAnyK_ready (rs := [3, 9]) (by kernel_rfl) (by simp) ?_
      refine AllReadyK.cons rfl (fun K hK => ?_) (AllReadyK.cons rfl (fun K hK => ?_) AllReadyK.nil)
      focus
        go_simp
        refine (sparts_two k.1 k.2 [49] g (by decide) hg _ _ gs).mono ?_
        rintro e W2 ⟨rfl, hb⟩
        have b2 := b1.trans (hb.mono b1.size)
        clear hb
        refine shutK hK (⟨(b2.cell (p := ⟨w.heap.size + 1, 0, none⟩) hkW).trans k0, (b2.cell (p := ⟨w.heap.size + 1, 1, none⟩) hkW).trans k1, (b2.cell (p := ⟨w.heap.size, 0, none⟩) hpW).trans q0⟩) (fun hHeld => ?_)
        clear hK K
        try simp only [List.getElem_toArray, List.getElem_cons_zero, List.getElem_cons_succ, Act.put, List.setIfInBounds_toArray, List.set_cons_zero, List.set_cons_succ]
        refine tK 7 (h := ?_)
        try simp only [List.getElem_toArray, List.getElem_cons_zero, List.getElem_cons_succ, Act.put, List.setIfInBounds_toArray, List.set_cons_zero, List.set_cons_succ]
        refine tK 8 (h := ?_)
        try simp only [List.getElem_toArray, List.getElem_cons_zero, List.getElem_cons_succ, Act.put, List.setIfInBounds_toArray, List.set_cons_zero, List.set_cons_succ]
        refine wpAnyK_ready (rs := [9]) (by kernel_rfl) (by simp) ?_
        refine AllReadyK.cons rfl (fun K hK => ?_) AllReadyK.nil
        go_simp
        refine shutK hK (⟨((b2.alloc b2.size _).cell (p := ⟨w.heap.size + 1, 0, none⟩) hkW).trans k0, ((b2.alloc b2.size _).cell (p := ⟨w.heap.size + 1, 1, none⟩) hkW).trans k1, ((b2.alloc b2.size _).cell (p := ⟨w.heap.size, 0, none⟩) hpW).trans q0⟩) (fun hHeld => ?_)
        clear hK K
        try simp only [List.getElem_toArray, List.getElem_cons_zero, List.getElem_cons_succ, Act.put, List.setIfInBounds_toArray, List.set_cons_zero, List.set_cons_succ]
        refine wpk_name (fun W3 hW3 => ?_)
        have b3 : Below W.heap.size W W3 := by rw [hW3]; exact b2.alloc b2.size (.cells #[.int .i64 0] 3)
        have ga : W3.heap[W2.heap.size]? = some (oneI 0) := by rw [hW3]; exact blk_new rfl
        have ltga : W.heap.size ≤ W2.heap.size := b2.size
        clear hW3 hHeld
        have hHeld : W3.cell? ⟨w.heap.size + 1, 0, none⟩ = some (.int .u64 k.1) ∧ W3.cell? ⟨w.heap.size + 1, 1, none⟩ = some (.int .u64 k.2) ∧ W3.cell? ⟨w.heap.size, 0, none⟩ = some (.int .i64 p.len) := ⟨(b3.cell (p := ⟨w.heap.size + 1, 0, none⟩) hkW).trans k0, (b3.cell (p := ⟨w.heap.size + 1, 1, none⟩) hkW).trans k1, (b3.cell (p := ⟨w.heap.size, 0, none⟩) hpW).trans q0⟩
      rotate_left 1
      focus
        go_simp
        refine shutK hK (⟨((b1.alloc b1.size _).cell (p := ⟨w.heap.size + 1, 0, none⟩) hkW).trans k0, ((b1.alloc b1.size _).cell (p := ⟨w.heap.size + 1, 1, none⟩) hkW).trans k1, ((b1.alloc b1.size _).cell (p := ⟨w.heap.size, 0, none⟩) hpW).trans q0⟩) (fun hHeld => ?_)
        clear hK K
        try simp only [List.getElem_toArray, List.getElem_cons_zero, List.getElem_cons_succ, Act.put, List.setIfInBounds_toArray, List.set_cons_zero, List.set_cons_succ]
        refine wpk_name (fun W2 hW2 => ?_)
        have b2 : Below W.heap.size W W2 := by rw [hW2]; exact b1.alloc b1.size (.cells #[.int .i64 0] 3)
        have ga : W2.heap[W1.heap.size]? = some (oneI 0) := by rw [hW2]; exact blk_new rfl
        have ltga : W.heap.size ≤ W1.heap.size := b1.size
        have gs := (show W2.heap[_]? = some _ by rw [hW2]; exact blk_old gs)
        clear hW2 hHeld
        have hHeld : W2.cell? ⟨w.heap.size + 1, 0, none⟩ = some (.int .u64 k.1) ∧ W2.cell? ⟨w.heap.size + 1, 1, none⟩ = some (.int .u64 k.2) ∧ W2.cell? ⟨w.heap.size, 0, none⟩ = some (.int .i64 p.len) := ⟨(b2.cell (p := ⟨w.heap.size + 1, 0, none⟩) hkW).trans k0, (b2.cell (p := ⟨w.heap.size + 1, 1, none⟩) hkW).trans k1, (b2.cell (p := ⟨w.heap.size, 0, none⟩) hpW).trans q0⟩
        refine wpAnyK_ready (rs := [3]) (by kernel_rfl) (by simp) ?_
        refine AllReadyK.cons rfl (fun K hK => ?_) AllReadyK.nil
        go_simp
        refine (sparts_two k.1 k.2 [49] g (by decide) hg _ _ gs).mono ?_
        rintro e W3 ⟨rfl, hb⟩
        have b3 := b2.trans (hb.mono b2.size)
        have ga := blk_below hb (lt_of_blk ga) ga
        clear hb
        refine shutK hK (⟨(b3.cell (p := ⟨w.heap.size + 1, 0, none⟩) hkW).trans k0, (b3.cell (p := ⟨w.heap.size + 1, 1, none⟩) hkW).trans k1, (b3.cell (p := ⟨w.heap.size, 0, none⟩) hpW).trans q0⟩) (fun hHeld => ?_)
        clear hK K
        try simp only [List.getElem_toArray, List.getElem_cons_zero, List.getElem_cons_succ, Act.put, List.setIfInBounds_toArray, List.set_cons_zero, List.set_cons_succ]
        refine tK 7 (h := ?_)
        try simp only [List.getElem_toArray, List.getElem_cons_zero, List.getElem_cons_succ, Act.put, List.setIfInBounds_toArray, List.set_cons_zero, List.set_cons_succ]
        refine tK 8 (h := ?_)
        try simp only [List.getElem_toArray, List.getElem_cons_zero, List.getElem_cons_succ, Act.put, List.setIfInBounds_toArray, List.set_cons_zero, List.set_cons_succ]
    rotate_left 2
    focus
      go_simp
      refine shutK hK (⟨((bD.alloc bD.size _).cell (p := ⟨w.heap.size + 1, 0, none⟩) hkW).trans k0, ((bD.alloc bD.size _).cell (p := ⟨w.heap.size + 1, 1, none⟩) hkW).trans k1, ((bD.alloc bD.size _).cell (p := ⟨w.heap.size, 0, none⟩) hpW).trans q0⟩) (fun hHeld => ?_)
      clear hK K
      try simp only [List.getElem_toArray, List.getElem_cons_zero, List.getElem_cons_succ, Act.put, List.setIfInBounds_toArray, List.set_cons_zero, List.set_cons_succ]
      refine wpk_name (fun W1 hW1 => ?_)
      have b1 : Below W.heap.size W W1 := by rw [hW1]; exact bD.alloc bD.size (.cells #[.int .i64 0] 3)
      have ga : W1.heap[W.heap.size]? = some (oneI 0) := by rw [hW1]; exact blk_new rfl
      have ltga : W.heap.size ≤ W.heap.size := bD.size
      clear hW1 hHeld
      have hHeld : W1.cell? ⟨w.heap.size + 1, 0, none⟩ = some (.int .u64 k.1) ∧ W1.cell? ⟨w.heap.size + 1, 1, none⟩ = some (.int .u64 k.2) ∧ W1.cell? ⟨w.heap.size, 0, none⟩ = some (.int .i64 p.len) := ⟨(b1.cell (p := ⟨w.heap.size + 1, 0, none⟩) hkW).trans k0, (b1.cell (p := ⟨w.heap.size + 1, 1, none⟩) hkW).trans k1, (b1.cell (p := ⟨w.heap.size, 0, none⟩) hpW).trans q0⟩
      refine wpAnyK_ready (rs := [2]) (by kernel_rfl) (by simp) ?_
      refine AllReadyK.cons rfl (fun K hK => ?_) AllReadyK.nil
      go_simp
      refine shutK hK (⟨((b1.alloc b1.size _).cell (p := ⟨w.heap.size + 1, 0, none⟩) hkW).trans k0, ((b1.alloc b1.size _).cell (p := ⟨w.heap.size + 1, 1, none⟩) hkW).trans k1, ((b1.alloc b1.size _).cell (p := ⟨w.heap.size, 0, none⟩) hpW).trans q0⟩) (fun hHeld => ?_)
      clear hK K
      try simp only [List.getElem_toArray, List.getElem_cons_zero, List.getElem_cons_succ, Act.put, List.setIfInBounds_toArray, List.set_cons_zero, List.set_cons_succ]
      refine wpk_name (fun W2 hW2 => ?_)
      have b2 : Below W.heap.size W W2 := by rw [hW2]; exact b1.alloc b1.size (.cells #[strV [49], strV g] 9)
      have gs : W2.heap[W1.heap.size]? = some (.cells #[strV [49], strV g] 9 (0, 0)) := by rw [hW2]; exact blk_new rfl
      have ltgs : W.heap.size ≤ W1.heap.size := b1.size
      have ga := (show W2.heap[_]? = some _ by rw [hW2]; exact blk_old ga)
      clear hW2 hHeld
      have hHeld : W2.cell? ⟨w.heap.size + 1, 0, none⟩ = some (.int .u64 k.1) ∧ W2.cell? ⟨w.heap.size + 1, 1, none⟩ = some (.int .u64 k.2) ∧ W2.cell? ⟨w.heap.size, 0, none⟩ = some (.int .i64 p.len) := ⟨(b2.cell (p := ⟨w.heap.size + 1, 0, none⟩) hkW).trans k0, (b2.cell (p := ⟨w.heap.size + 1, 1, none⟩) hkW).trans k1, (b2.cell (p := ⟨w.heap.size, 0, none⟩) hpW).trans q0⟩
      refine wpAnyK_ready (rs := [3]) (by kernel_rfl) (by simp) ?_
      refine AllReadyK.cons rfl (fun K hK => ?_) AllReadyK.nil
      go_simp
      refine (sparts_two k.1 k.2 [49] g (by decide) hg _ _ gs).mono ?_
      rintro e W3 ⟨rfl, hb⟩
      have b3 := b2.trans (hb.mono b2.size)
      have ga := blk_below hb (lt_of_blk ga) ga
      clear hb
      refine shutK hK (⟨(b3.cell (p := ⟨w.heap.size + 1, 0, none⟩) hkW).trans k0, (b3.cell (p := ⟨w.heap.size + 1, 1, none⟩) hkW).trans k1, (b3.cell (p := ⟨w.heap.size, 0, none⟩) hpW).trans q0⟩) (fun hHeld => ?_)
      clear hK K
      try simp only [List.getElem_toArray, List.getElem_cons_zero, List.getElem_cons_succ, Act.put, List.setIfInBounds_toArray, List.set_cons_zero, List.set_cons_succ]
      refine tK 7 (h := ?_)
      try simp only [List.getElem_toArray, List.getElem_cons_zero, List.getElem_cons_succ, Act.put, List.setIfInBounds_toArray, List.set_cons_zero, List.set_cons_succ]
      refine tK 8 (h := ?_)
      try simp only [List.getElem_toArray, List.getElem_cons_zero, List.getElem_cons_succ, Act.put, List.setIfInBounds_toArray, List.set_cons_zero, List.set_cons_succ]
    all_goals
      have ca := cell1 ga; have fa := frozen_of_row _ _ 0 _ _ ga; have za := lt_of_blk ga
      refine wpAnyK_ready (rs := [10]) (by kernel_rfl) (by simp) ?_
      refine AllReadyK.cons rfl (fun K hK => ?_) AllReadyK.nil
      go_simp
      refine shutK_off hK (by decide) ?_
      clear hK K
      try simp only [List.getElem_toArray, List.getElem_cons_zero, List.getElem_cons_succ, Act.put, List.setIfInBounds_toArray, List.set_cons_zero, List.set_cons_succ]
      refine wpAnyK_done (by kernel_rfl) ?_ _
      refine NoPanic.normal ?_
      go_wp2_with fail
      go_meet
      exact ⟨_, rfl, ltga, blk_set (i := 0) (v := .int .i64 X) ga, b3.setCell (p := ⟨_, 0, none⟩) ltga _⟩
  case rest =>
    obtain ⟨xb, rfl, hxb, hx, hbx⟩ := hcut
    have HC := Lib.hid hx
    have HBX := Lib.hid hbx
    have k0 := (hbx.cell (p := ⟨w.heap.size + 1, 0, none⟩) hkW).trans k0; have k1 := (hbx.cell (p := ⟨w.heap.size + 1, 1, none⟩) hkW).trans k1; have q0 := (hbx.cell (p := ⟨w.heap.size, 0, none⟩) hpW).trans q0
    have hP1 := blk_below hbx hpW HP0.out; have hK1 := blk_below hbx hkW HK0.out
    have hpW0 := hpW; have hpW := lt_of_blk hP1; have hkW := lt_of_blk hK1
    have HP1 := Lib.hid hP1; have HK1 := Lib.hid hK1
    have hzW := hbx.size; have hxlt := lt_of_blk hx
    clear hbx hx hP1 hK1 bD
    obtain ⟨W0, hW0⟩ : ∃ W0, W0 = W := ⟨_, rfl⟩
    rw [← hW0] at HB0 HP0 HK0 HBX hxb hzW hpW0; clear hW0
    obtain ⟨W, rfl⟩ : ∃ W, W = wc := ⟨_, rfl⟩
    have bD : Below W.heap.size W W.drew := (Below.refl _ _).drew
    go_wp2_with fail
    go_cut [8] (fun s8 wx => ∃ yb : Nat, s8 = .pointer (some ⟨yb, 0, none⟩) ∧ W.heap.size ≤ yb ∧ wx.heap[yb]? = some (oneI (1 + Y)) ∧ Below W.heap.size W wx)
    case first =>
      refine wp_region_noPanic ?_
      refine wp_region_k (by kernel_rfl) (fun w' => w'.cell? ⟨w.heap.size + 1, 0, none⟩ = some (.int .u64 k.1) ∧ w'.cell? ⟨w.heap.size + 1, 1, none⟩ = some (.int .u64 k.2) ∧ w'.cell? ⟨w.heap.size, 0, none⟩ = some (.int .i64 p.len)) 12 (⟨k0, k1, q0⟩) (fun hHeld => ?_)
      refine tK 0 (h := ?_)
      try simp only [List.getElem_toArray, List.getElem_cons_zero, List.getElem_cons_succ, Act.put, List.setIfInBounds_toArray, List.set_cons_zero, List.set_cons_succ]
      refine tK 1 (h := ?_)
      try simp only [List.getElem_toArray, List.getElem_cons_zero, List.getElem_cons_succ, Act.put, List.setIfInBounds_toArray, List.set_cons_zero, List.set_cons_succ]
      refine tK 4 (h := ?_)
      try simp only [List.getElem_toArray, List.getElem_cons_zero, List.getElem_cons_succ, Act.put, List.setIfInBounds_toArray, List.set_cons_zero, List.set_cons_succ]
      refine tK 5 (h := ?_)
      try simp only [List.getElem_toArray, List.getElem_cons_zero, List.getElem_cons_succ, Act.put, List.setIfInBounds_toArray, List.set_cons_zero, List.set_cons_succ]
      refine tK 6 (h := ?_)
      try simp only [List.getElem_toArray, List.getElem_cons_zero, List.getElem_cons_succ, Act.put, List.setIfInBounds_toArray, List.set_cons_zero, List.set_cons_succ]
      refine tK 7 (h := ?_)
      try simp only [List.getElem_toArray, List.getElem_cons_zero, List.getElem_cons_succ, Act.put, List.setIfInBounds_toArray, List.set_cons_zero, List.set_cons_succ]
      refine wpAnyK_ready (rs := [2, 11]) (by kernel_rfl) (by simp) ?_
      refine AllReadyK.cons rfl (fun K hK => ?_) (AllReadyK.cons rfl (fun K hK => ?_) AllReadyK.nil)
      focus
        go_simp
        refine shutK hK (⟨((bD.alloc bD.size _).cell (p := ⟨w.heap.size + 1, 0, none⟩) hkW).trans k0, ((bD.alloc bD.size _).cell (p := ⟨w.heap.size + 1, 1, none⟩) hkW).trans k1, ((bD.alloc bD.size _).cell (p := ⟨w.heap.size, 0, none⟩) hpW).trans q0⟩) (fun hHeld => ?_)
        clear hK K
        try simp only [List.getElem_toArray, List.getElem_cons_zero, List.getElem_cons_succ, Act.put, List.setIfInBounds_toArray, List.set_cons_zero, List.set_cons_succ]
        refine wpk_name (fun W1 hW1 => ?_)
        have b1 : Below W.heap.size W W1 := by rw [hW1]; exact bD.alloc bD.size (.cells #[strV [50], strV g] 9)
        have gs : W1.heap[W.heap.size]? = some (.cells #[strV [50], strV g] 9 (0, 0)) := by rw [hW1]; exact blk_new rfl
        have ltgs : W.heap.size ≤ W.heap.size := bD.size
        clear hW1 hHeld
        have hHeld : W1.cell? ⟨w.heap.size + 1, 0, none⟩ = some (.int .u64 k.1) ∧ W1.cell? ⟨w.heap.size + 1, 1, none⟩ = some (.int .u64 k.2) ∧ W1.cell? ⟨w.heap.size, 0, none⟩ = some (.int .i64 p.len) := ⟨(b1.cell (p := ⟨w.heap.size + 1, 0, none⟩) hkW).trans k0, (b1.cell (p := ⟨w.heap.size + 1, 1, none⟩) hkW).trans k1, (b1.cell (p := ⟨w.heap.size, 0, none⟩) hpW).trans q0⟩
        refine wpAnyK_ready (rs := [3, 11]) (by kernel_rfl) (by simp) ?_
        refine AllReadyK.cons rfl (fun K hK => ?_) (AllReadyK.cons rfl (fun K hK => ?_) AllReadyK.nil)
        focus
          go_simp
          refine (sparts_two k.1 k.2 [50] g (by decide) hg _ _ gs).mono ?_
          rintro e W2 ⟨rfl, hb⟩
          have b2 := b1.trans (hb.mono b1.size)
          clear hb
          refine shutK hK (⟨(b2.cell (p := ⟨w.heap.size + 1, 0, none⟩) hkW).trans k0, (b2.cell (p := ⟨w.heap.size + 1, 1, none⟩) hkW).trans k1, (b2.cell (p := ⟨w.heap.size, 0, none⟩) hpW).trans q0⟩) (fun hHeld => ?_)
          clear hK K
          try simp only [List.getElem_toArray, List.getElem_cons_zero, List.getElem_cons_succ, Act.put, List.setIfInBounds_toArray, List.set_cons_zero, List.set_cons_succ]
          refine tK 8 (h := ?_)
          try simp only [List.getElem_toArray, List.getElem_cons_zero, List.getElem_cons_succ, Act.put, List.setIfInBounds_toArray, List.set_cons_zero, List.set_cons_succ]
          refine tK 9 (h := ?_)
          try simp only [List.getElem_toArray, List.getElem_cons_zero, List.getElem_cons_succ, Act.put, List.setIfInBounds_toArray, List.set_cons_zero, List.set_cons_succ]
          refine tK 10 (h := ?_)
          try simp only [List.getElem_toArray, List.getElem_cons_zero, List.getElem_cons_succ, Act.put, List.setIfInBounds_toArray, List.set_cons_zero, List.set_cons_succ]
          refine wpAnyK_ready (rs := [11]) (by kernel_rfl) (by simp) ?_
          refine AllReadyK.cons rfl (fun K hK => ?_) AllReadyK.nil
          go_simp
          refine shutK hK (⟨((b2.alloc b2.size _).cell (p := ⟨w.heap.size + 1, 0, none⟩) hkW).trans k0, ((b2.alloc b2.size _).cell (p := ⟨w.heap.size + 1, 1, none⟩) hkW).trans k1, ((b2.alloc b2.size _).cell (p := ⟨w.heap.size, 0, none⟩) hpW).trans q0⟩) (fun hHeld => ?_)
          clear hK K
          try simp only [List.getElem_toArray, List.getElem_cons_zero, List.getElem_cons_succ, Act.put, List.setIfInBounds_toArray, List.set_cons_zero, List.set_cons_succ]
          refine wpk_name (fun W3 hW3 => ?_)
          have b3 : Below W.heap.size W W3 := by rw [hW3]; exact b2.alloc b2.size (.cells #[.int .i64 0] 3)
          have ga : W3.heap[W2.heap.size]? = some (oneI 0) := by rw [hW3]; exact blk_new rfl
          have ltga : W.heap.size ≤ W2.heap.size := b2.size
          clear hW3 hHeld
          have hHeld : W3.cell? ⟨w.heap.size + 1, 0, none⟩ = some (.int .u64 k.1) ∧ W3.cell? ⟨w.heap.size + 1, 1, none⟩ = some (.int .u64 k.2) ∧ W3.cell? ⟨w.heap.size, 0, none⟩ = some (.int .i64 p.len) := ⟨(b3.cell (p := ⟨w.heap.size + 1, 0, none⟩) hkW).trans k0, (b3.cell (p := ⟨w.heap.size + 1, 1, none⟩) hkW).trans k1, (b3.cell (p := ⟨w.heap.size, 0, none⟩) hpW).trans q0⟩
        rotate_left 1
        focus
          go_simp
          refine shutK hK (⟨((b1.alloc b1.size _).cell (p := ⟨w.heap.size + 1, 0, none⟩) hkW).trans k0, ((b1.alloc b1.size _).cell (p := ⟨w.heap.size + 1, 1, none⟩) hkW).trans k1, ((b1.alloc b1.size _).cell (p := ⟨w.heap.size, 0, none⟩) hpW).trans q0⟩) (fun hHeld => ?_)
          clear hK K
          try simp only [List.getElem_toArray, List.getElem_cons_zero, List.getElem_cons_succ, Act.put, List.setIfInBounds_toArray, List.set_cons_zero, List.set_cons_succ]
          refine wpk_name (fun W2 hW2 => ?_)
          have b2 : Below W.heap.size W W2 := by rw [hW2]; exact b1.alloc b1.size (.cells #[.int .i64 0] 3)
          have ga : W2.heap[W1.heap.size]? = some (oneI 0) := by rw [hW2]; exact blk_new rfl
          have ltga : W.heap.size ≤ W1.heap.size := b1.size
          have gs := (show W2.heap[_]? = some _ by rw [hW2]; exact blk_old gs)
          clear hW2 hHeld
          have hHeld : W2.cell? ⟨w.heap.size + 1, 0, none⟩ = some (.int .u64 k.1) ∧ W2.cell? ⟨w.heap.size + 1, 1, none⟩ = some (.int .u64 k.2) ∧ W2.cell? ⟨w.heap.size, 0, none⟩ = some (.int .i64 p.len) := ⟨(b2.cell (p := ⟨w.heap.size + 1, 0, none⟩) hkW).trans k0, (b2.cell (p := ⟨w.heap.size + 1, 1, none⟩) hkW).trans k1, (b2.cell (p := ⟨w.heap.size, 0, none⟩) hpW).trans q0⟩
          refine wpAnyK_ready (rs := [3]) (by kernel_rfl) (by simp) ?_
          refine AllReadyK.cons rfl (fun K hK => ?_) AllReadyK.nil
          go_simp
          refine (sparts_two k.1 k.2 [50] g (by decide) hg _ _ gs).mono ?_
          rintro e W3 ⟨rfl, hb⟩
          have b3 := b2.trans (hb.mono b2.size)
          have ga := blk_below hb (lt_of_blk ga) ga
          clear hb
          refine shutK hK (⟨(b3.cell (p := ⟨w.heap.size + 1, 0, none⟩) hkW).trans k0, (b3.cell (p := ⟨w.heap.size + 1, 1, none⟩) hkW).trans k1, (b3.cell (p := ⟨w.heap.size, 0, none⟩) hpW).trans q0⟩) (fun hHeld => ?_)
          clear hK K
          try simp only [List.getElem_toArray, List.getElem_cons_zero, List.getElem_cons_succ, Act.put, List.setIfInBounds_toArray, List.set_cons_zero, List.set_cons_succ]
          refine tK 8 (h := ?_)
          try simp only [List.getElem_toArray, List.getElem_cons_zero, List.getElem_cons_succ, Act.put, List.setIfInBounds_toArray, List.set_cons_zero, List.set_cons_succ]
          refine tK 9 (h := ?_)
          try simp only [List.getElem_toArray, List.getElem_cons_zero, List.getElem_cons_succ, Act.put, List.setIfInBounds_toArray, List.set_cons_zero, List.set_cons_succ]
          refine tK 10 (h := ?_)
          try simp only [List.getElem_toArray, List.getElem_cons_zero, List.getElem_cons_succ, Act.put, List.setIfInBounds_toArray, List.set_cons_zero, List.set_cons_succ]
      rotate_left 2
      focus
        go_simp
        refine shutK hK (⟨((bD.alloc bD.size _).cell (p := ⟨w.heap.size + 1, 0, none⟩) hkW).trans k0, ((bD.alloc bD.size _).cell (p := ⟨w.heap.size + 1, 1, none⟩) hkW).trans k1, ((bD.alloc bD.size _).cell (p := ⟨w.heap.size, 0, none⟩) hpW).trans q0⟩) (fun hHeld => ?_)
        clear hK K
        try simp only [List.getElem_toArray, List.getElem_cons_zero, List.getElem_cons_succ, Act.put, List.setIfInBounds_toArray, List.set_cons_zero, List.set_cons_succ]
        refine wpk_name (fun W1 hW1 => ?_)
        have b1 : Below W.heap.size W W1 := by rw [hW1]; exact bD.alloc bD.size (.cells #[.int .i64 0] 3)
        have ga : W1.heap[W.heap.size]? = some (oneI 0) := by rw [hW1]; exact blk_new rfl
        have ltga : W.heap.size ≤ W.heap.size := bD.size
        clear hW1 hHeld
        have hHeld : W1.cell? ⟨w.heap.size + 1, 0, none⟩ = some (.int .u64 k.1) ∧ W1.cell? ⟨w.heap.size + 1, 1, none⟩ = some (.int .u64 k.2) ∧ W1.cell? ⟨w.heap.size, 0, none⟩ = some (.int .i64 p.len) := ⟨(b1.cell (p := ⟨w.heap.size + 1, 0, none⟩) hkW).trans k0, (b1.cell (p := ⟨w.heap.size + 1, 1, none⟩) hkW).trans k1, (b1.cell (p := ⟨w.heap.size, 0, none⟩) hpW).trans q0⟩
        refine wpAnyK_ready (rs := [2]) (by kernel_rfl) (by simp) ?_
        refine AllReadyK.cons rfl (fun K hK => ?_) AllReadyK.nil
        go_simp
        refine shutK hK (⟨((b1.alloc b1.size _).cell (p := ⟨w.heap.size + 1, 0, none⟩) hkW).trans k0, ((b1.alloc b1.size _).cell (p := ⟨w.heap.size + 1, 1, none⟩) hkW).trans k1, ((b1.alloc b1.size _).cell (p := ⟨w.heap.size, 0, none⟩) hpW).trans q0⟩) (fun hHeld => ?_)
        clear hK K
        try simp only [List.getElem_toArray, List.getElem_cons_zero, List.getElem_cons_succ, Act.put, List.setIfInBounds_toArray, List.set_cons_zero, List.set_cons_succ]
        refine wpk_name (fun W2 hW2 => ?_)
        have b2 : Below W.heap.size W W2 := by rw [hW2]; exact b1.alloc b1.size (.cells #[strV [50], strV g] 9)
        have gs : W2.heap[W1.heap.size]? = some (.cells #[strV [50], strV g] 9 (0, 0)) := by rw [hW2]; exact blk_new rfl
        have ltgs : W.heap.size ≤ W1.heap.size := b1.size
        have ga := (show W2.heap[_]? = some _ by rw [hW2]; exact blk_old ga)
        clear hW2 hHeld
        have hHeld : W2.cell? ⟨w.heap.size + 1, 0, none⟩ = some (.int .u64 k.1) ∧ W2.cell? ⟨w.heap.size + 1, 1, none⟩ = some (.int .u64 k.2) ∧ W2.cell? ⟨w.heap.size, 0, none⟩ = some (.int .i64 p.len) := ⟨(b2.cell (p := ⟨w.heap.size + 1, 0, none⟩) hkW).trans k0, (b2.cell (p := ⟨w.heap.size + 1, 1, none⟩) hkW).trans k1, (b2.cell (p := ⟨w.heap.size, 0, none⟩) hpW).trans q0⟩
        refine wpAnyK_ready (rs := [3]) (by kernel_rfl) (by simp) ?_
        refine AllReadyK.cons rfl (fun K hK => ?_) AllReadyK.nil
        go_simp
        refine (sparts_two k.1 k.2 [50] g (by decide) hg _ _ gs).mono ?_
        rintro e W3 ⟨rfl, hb⟩
        have b3 := b2.trans (hb.mono b2.size)
        have ga := blk_below hb (lt_of_blk ga) ga
        clear hb
        refine shutK hK (⟨(b3.cell (p := ⟨w.heap.size + 1, 0, none⟩) hkW).trans k0, (b3.cell (p := ⟨w.heap.size + 1, 1, none⟩) hkW).trans k1, (b3.cell (p := ⟨w.heap.size, 0, none⟩) hpW).trans q0⟩) (fun hHeld => ?_)
        clear hK K
        try simp only [List.getElem_toArray, List.getElem_cons_zero, List.getElem_cons_succ, Act.put, List.setIfInBounds_toArray, List.set_cons_zero, List.set_cons_succ]
        refine tK 8 (h := ?_)
        try simp only [List.getElem_toArray, List.getElem_cons_zero, List.getElem_cons_succ, Act.put, List.setIfInBounds_toArray, List.set_cons_zero, List.set_cons_succ]
        refine tK 9 (h := ?_)
        try simp only [List.getElem_toArray, List.getElem_cons_zero, List.getElem_cons_succ, Act.put, List.setIfInBounds_toArray, List.set_cons_zero, List.set_cons_succ]
        refine tK 10 (h := ?_)
        try simp only [List.getElem_toArray, List.getElem_cons_zero, List.getElem_cons_succ, Act.put, List.setIfInBounds_toArray, List.set_cons_zero, List.set_cons_succ]
      all_goals
        have ca := cell1 ga; have fa := frozen_of_row _ _ 0 _ _ ga; have za := lt_of_blk ga
        refine wpAnyK_ready (rs := [12]) (by kernel_rfl) (by simp) ?_
        refine AllReadyK.cons rfl (fun K hK => ?_) AllReadyK.nil
        go_simp
        refine shutK_off hK (by decide) ?_
        clear hK K
        try simp only [List.getElem_toArray, List.getElem_cons_zero, List.getElem_cons_succ, Act.put, List.setIfInBounds_toArray, List.set_cons_zero, List.set_cons_succ]
        refine wpAnyK_done (by kernel_rfl) ?_ _
        refine NoPanic.normal ?_
        go_wp2_with fail
        go_meet
        exact ⟨_, rfl, ltga, blk_set (i := 0) (v := .int .i64 (1 + Y)) ga, b3.setCell (p := ⟨_, 0, none⟩) ltga _⟩
    case rest =>
      obtain ⟨yb, rfl, hyb, hy, hby⟩ := hcut
      have hx2 := blk_below hby hxlt HC.out
      have cx := cell1 hx2
      have hp2 := blk_below hby hpW HP1.out
      have zc := lt_of_blk hy; have hz3 := HBX.out.size; have hz4 := HB0.out.size; have hz5 := hby.size
      have HY2 := Lib.hid hy; have HX2 := Lib.hid hx2; have HP2 := Lib.hid hp2; have HBY := Lib.hid hby
      clear hy hx2 hp2 hby
      go_wp2_with fail
      go_ret
      refine ⟨wc.heap.size, yb, w.heap.size, xb, rfl, ⟨?_, ?_, blk_old HP2.out, ⟨X, blk_old HX2.out⟩, by omega, by omega, by omega, by omega, by omega⟩, ⟨by omega, by omega, by omega, by omega⟩, ?_⟩
      · rw [HX.out]; exact blk_new rfl
      · rw [HY.out]; exact blk_old HY2.out
      · exact (HB0.out.trans ((HBX.out.mono HB0.out.size).trans (HBY.out.mono (by omega)))).alloc (by omega) _
end
section
set_option maxRecDepth 100000
open Go.RowKit Cal
attribute [local go_sem] toList_mk mk_size
theorem vecF_one {w : World} {A : Nat} {x : F2} (h : w.heap[A]? = some (.cells #[strV x.1, .int .i64 x.2] 79 (0, 0))) : Vec w Any1 2 encF (.slice (some ⟨A, 0, none⟩) 1 1) [x] :=
  ⟨_, 1, rfl, by simp, fun _ => ⟨A, 0, rfl, trivial, lt_of_blk h, fun j y hj i u hu => by
    have hj0 : j = 0 := by
      have := (List.getElem?_eq_some_iff.1 hj).1
      simp at this; exact this
    subst hj0
    simp at hj; subst hj
    rw [cell_of_row _ _ _ _ _ _ h]
    match i, hu with
    | 0, hu => simpa [encF] using hu
    | 1, hu => simpa [encF] using hu
    | i + 2, hu => simp [encF] at hu⟩⟩
/-- a call's world under a name of its own -/
theorem wp_calls_world {P : Program} {f : FuncId} {args : Array Value} {W : World} {K : Ending → World → Prop} (h : ∀ w', w' = W → Calls P f args w' K) : Calls P f args W K := h W rfl
end
end Go.Proofs.YtoeplomdcannlaaGreatDoor
