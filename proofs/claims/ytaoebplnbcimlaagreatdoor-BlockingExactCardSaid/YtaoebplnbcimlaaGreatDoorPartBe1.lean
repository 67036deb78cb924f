/- Parts of one proof: HeldK, Take, Lib, Lib2, Read, Vec, AppendNil, OwnV, Splice, AddPlain, BRow, BlkM, TextPlain, SipPlain, MakeA, SipA. -/
import Derived.OrdersHeld
import Derived.Deep.RegionHeld
import Derived.ProofKit
import Derived.Test.YtaoebplnbcimlaaGreatDoorRows
import Derived.WalkKit
import Derived.WalkSpells
import Derived.WalkSmall
import Derived.WalkLawsBesides
import Derived.Lib.Hide
import Derived.BigQuiet
import Derived.Deep.QuietTactic
import Derived.ChangeKeysEq
import Derived.Laws.BytesArg
import Derived.Deep.AppendLies
import Derived.Deep.RegionLaw
import Derived.Laws.OwnMore
import Derived.Laws.CopyRow
import Derived.Lib.Overlaps
import Derived.Lib.AppendZerosOnto
import Derived.Shelf.RegionOpenPlain
import Derived.Laws.Externs
import Derived.Laws.CopyOwn
import Derived.IntWalk
import Derived.Deep.RegionHeld3
set_option linter.unusedSimpArgs false
set_option linter.unusedVariables false
namespace Go.Proofs.YtaoebplnbcimlaaGreatDoor
section
open Go
section
variable {P : Program} {ops : Array Oper} {Q : Exit → Act → World → Prop} {md : Region.Mode} {S : World → Prop} {k : Nat}
/-- whatever is listed, all that it waits for is listed -/
def Closed (md : Region.Mode) (ops : Array Oper) (l : Array Bool) : Prop :=
  ∀ j o, ops[j]? = some o → l.getD j false = true → ∀ e ∈ o.after, Region.binds md e = true → l.getD e.on false = true
def closedB (md : Region.Mode) (ops : Array Oper) (l : Array Bool) : Bool :=
  (List.range ops.size).all fun j => match ops[j]? with
    | none => true
    | some o => !l.getD j false || o.after.all fun e => !Region.binds md e || l.getD e.on false
theorem closed_spec {l : Array Bool} (h : closedB md ops l = true) : Closed md ops l := by
  intro j o ho hl e he hb
  have hj : j < ops.size := (Array.getElem?_eq_some_iff.1 ho).1
  have h1 := List.all_eq_true.1 h j (List.mem_range.2 hj)
  simp only [ho] at h1
  rw [hl] at h1
  simp only [Bool.not_true, Bool.false_or, Array.all_eq_true_iff_forall_mem] at h1
  have h2 := h1 e he
  rw [hb] at h2
  simpa using h2
theorem closed_step {l : Array Bool} {j : Nat} (h : Closed md ops l) (hj : j ∈ Region.ready md ops l) : Closed md ops (l.setIfInBounds j true) := by
  intro i o ho hl e he hb
  by_cases hij : i = j
  · subst hij
    obtain ⟨_, o', ho', hall⟩ := mem_ready.1 hj
    rw [ho] at ho'; cases ho'
    exact getD_set_true (hall e he hb)
  · rw [getD_set_ne false (fun e => hij e.symm)] at hl
    exact getD_set_true (h i o ho hl e he hb)
/-- k waits for i -/
def reachB (md : Region.Mode) (ops : Array Oper) : Nat → Nat → Nat → Bool
  | 0, _, _ => false
  | f + 1, i, k => match ops[k]? with
    | none => false
    | some o => o.after.any fun e => Region.binds md e && (e.on == i || reachB md ops f i e.on)
theorem reach_spec {l : Array Bool} (hc : Closed md ops l) : ∀ (f i k : Nat), reachB md ops f i k = true → l.getD k false = true → l.getD i false = true := by
  intro f
  induction f with
  | zero => intro i k h; simp [reachB] at h
  | succ f ih =>
    intro i k h hk
    unfold reachB at h
    cases ho : ops[k]? with
    | none => simp [ho] at h
    | some o =>
      simp only [ho] at h
      obtain ⟨e, he, hb⟩ := Array.any_eq_true'.1 h
      simp only [Bool.and_eq_true, Bool.or_eq_true, beq_iff_eq] at hb
      have h1 := hc k o ho hk e he hb.1
      rcases hb.2 with h2 | h2
      · rw [← h2]; exact h1
      · exact ih i e.on h2 h1
def wpAnyK (P : Program) (md : Region.Mode) (ops : Array Oper) (Q : Exit → Act → World → Prop) (S : World → Prop) (k : Nat) : Nat → Array Bool → Act → World → Prop
  | 0, listed, a, w => Region.ready md ops listed = [] ∧ Q .normal a w
  | fuel + 1, listed, a, w =>
    (Region.ready md ops listed = [] → Q .normal a w) ∧
    ∀ i ∈ Region.ready md ops listed, wpOp P ops Q i (fun a' w' => ((listed.setIfInBounds i true).getD k false = false → S w') ∧ wpAnyK P md ops Q S k fuel (listed.setIfInBounds i true) a' w') a w
theorem wpAny_of_k : ∀ (fuel : Nat) (listed : Array Bool) (a : Act) (w : World), wpAnyK P md ops Q S k fuel listed a w → wpAny P md ops Q fuel listed a w
  | 0, _, _, _, h => h
  | fuel + 1, _, _, _, h => ⟨h.1, fun i hi => wpOp_mono (fun a' w' h' => wpAny_of_k fuel _ a' w' h'.2) (h.2 i hi)⟩
theorem wpAnyK_first {i : Nat} {oi : Oper} {v : Value} (hi : ops[i]? = some oi) (hsel : ∀ (j : Nat) (o : Oper) cs b, ops[j]? = some o → o.op ≠ .select cs b)
    (hQ : ∀ c a w, Q (.panic c) (a.put oi.dst v) w → Q (.panic c) a w) (f : Nat) (hreach : reachB md ops f i k = true) (hik : i ≠ k) :
    ∀ (fuel : Nat) (listed : Array Bool) (a : Act) (w : World), Closed md ops listed →
      (∀ j oj, ops[j]? = some oj → j ≠ i → listed.getD j true = false → (∀ e ∈ oj.after, Region.binds md e = true → e.on ≠ i) → oi.apart ops oj = true) →
      i ∈ Region.ready md ops listed → YieldsIf P ops S oi v a → S w →
      wpAnyK P md ops Q S k fuel (listed.setIfInBounds i true) (a.put oi.dst v) w → wpAnyK P md ops Q S k (fuel + 1) listed a w := by
  intro fuel
  induction fuel with
  | zero =>
    intro listed a w _ _ hr hy hS H
    refine ⟨fun h => (by rw [h] at hr; cases hr), fun j hj => ?_⟩
    by_cases hji : j = i
    · subst hji; exact hy.wpOp hi hS ⟨fun _ => hS, H⟩
    · have := ready_mono hj hji
      rw [H.1] at this
      cases this
  | succ fuel ih =>
    intro listed a w hcl hfree hr hy hS H
    refine ⟨fun h => (by rw [h] at hr; cases hr), fun j hj => ?_⟩
    by_cases hji : j = i
    · subst hji; exact hy.wpOp hi hS ⟨fun _ => hS, H⟩
    · have h1 := H.2 j (ready_mono hj hji)
      have hcl' := closed_step hcl hj
      obtain ⟨hjun, oj, hoj, hall⟩ := mem_ready.1 hj
      have hil : i < listed.size := by
        have h0 := (mem_ready.1 hr).1
        rcases Nat.lt_or_ge i listed.size with h' | h'
        · exact h'
        · simp [Array.getElem?_eq_none h'] at h0
      have hif : (listed.setIfInBounds j true).getD i false = false := by
        rw [getD_set_ne false hji]
        have h0 := (mem_ready.1 hr).1
        simp [hil] at h0 ⊢; exact h0
      have hnot : ∀ e ∈ oj.after, Region.binds md e = true → e.on ≠ i := fun e he hb heq => by
        have h1 := hall e he hb
        have h0 := (mem_ready.1 hr).1
        rw [heq] at h1
        simp [hil] at h0 h1; rw [h0] at h1; cases h1
      have hkf : ((listed.setIfInBounds i true).setIfInBounds j true).getD k false = false := by
        have hne : (listed.setIfInBounds j true).getD k false = false := by
          cases hv : (listed.setIfInBounds j true).getD k false with
          | false => rfl
          | true => rw [reach_spec hcl' f i k hreach hv] at hif; cases hif
        rw [Array.setIfInBounds_comm _ _ (fun e => hji e.symm), getD_set_ne false hik]; exact hne
      have h2 := wpOp_putIf hoj (hfree j oj hoj hji hjun hnot) (fun cs b => hsel i oi cs b hi) (fun cs b => hsel j oj cs b hoj) hQ hy h1
      have hfree' : ∀ k ok, ops[k]? = some ok → k ≠ i → (listed.setIfInBounds j true).getD k true = false →
          (∀ e ∈ ok.after, Region.binds md e = true → e.on ≠ i) → oi.apart ops ok = true := fun k ok hk hki hun hno => by
        refine hfree k ok hk hki ?_ hno
        by_cases hjk : j = k
        · subst hjk; exact hjun
        · rw [getD_set_ne true hjk] at hun; exact hun
      refine wpOp_mono (fun a' w' h3 => ⟨fun _ => h3.2.1 hkf, ih (listed.setIfInBounds j true) a' w' hcl' hfree' (ready_mono hr (Ne.symm hji)) h3.1 (h3.2.1 hkf) ?_⟩) h2
      rw [Array.setIfInBounds_comm _ _ hji]
      exact h3.2.2
theorem wpAnyK_take {i : Nat} {oi : Oper} {v : Value} {fuel : Nat} {listed : Array Bool} {a : Act} {w : World} (hi : ops[i]? = some oi)
    (hs : Region.noSelect ops = true) (hf : Region.free md ops listed i = true) (hr : (Region.ready md ops listed).contains i = true)
    (hc : (closedB md ops listed && reachB md ops 12 i k && (i != k)) = true)
    (hQ : ∀ c a w, Q (.panic c) (a.put oi.dst v) w → Q (.panic c) a w) (hy : YieldsIf P ops S oi v a) (hS : S w)
    (h : wpAnyK P md ops Q S k fuel (listed.setIfInBounds i true) (a.put oi.dst v) w) : wpAnyK P md ops Q S k (fuel + 1) listed a w := by
  simp only [Bool.and_eq_true, bne_iff_ne, ne_eq] at hc
  exact wpAnyK_first hi (Region.noSelect_spec hs) hQ 12 hc.1.2 hc.2 fuel listed a w (closed_spec hc.1.1) (Region.free_spec hi hf) (by simpa using hr) hy hS h
/-- what yields in whatever world may be taken first, before and behind k -/
theorem wpAnyK_first0 {i : Nat} {oi : Oper} {v : Value} (hi : ops[i]? = some oi) (hsel : ∀ (j : Nat) (o : Oper) cs b, ops[j]? = some o → o.op ≠ .select cs b)
    (hQ : ∀ c a w, Q (.panic c) (a.put oi.dst v) w → Q (.panic c) a w) (hik : i ≠ k) :
    ∀ (fuel : Nat) (listed : Array Bool) (a : Act) (w : World),
      (∀ j oj, ops[j]? = some oj → j ≠ i → listed.getD j true = false → (∀ e ∈ oj.after, Region.binds md e = true → e.on ≠ i) → oi.apart ops oj = true) →
      i ∈ Region.ready md ops listed → YieldsIf P ops (fun _ => True) oi v a → (listed.getD k false = false → S w) →
      wpAnyK P md ops Q S k fuel (listed.setIfInBounds i true) (a.put oi.dst v) w → wpAnyK P md ops Q S k (fuel + 1) listed a w := by
  intro fuel
  induction fuel with
  | zero =>
    intro listed a w _ hr hy hS H
    refine ⟨fun h => (by rw [h] at hr; cases hr), fun j hj => ?_⟩
    by_cases hji : j = i
    · subst hji; exact hy.wpOp hi trivial ⟨fun h => hS (by rw [getD_set_ne false hik] at h; exact h), H⟩
    · have := ready_mono hj hji
      rw [H.1] at this
      cases this
  | succ fuel ih =>
    intro listed a w hfree hr hy hS H
    refine ⟨fun h => (by rw [h] at hr; cases hr), fun j hj => ?_⟩
    by_cases hji : j = i
    · subst hji; exact hy.wpOp hi trivial ⟨fun h => hS (by rw [getD_set_ne false hik] at h; exact h), H⟩
    · have h1 := H.2 j (ready_mono hj hji)
      obtain ⟨hjun, oj, hoj, hall⟩ := mem_ready.1 hj
      have hnot : ∀ e ∈ oj.after, Region.binds md e = true → e.on ≠ i := fun e he hb heq => by
        have h1 := hall e he hb
        have h0 := (mem_ready.1 hr).1
        rw [heq] at h1
        rcases Nat.lt_or_ge i listed.size with h' | h'
        · simp [h'] at h0 h1; rw [h0] at h1; cases h1
        · simp [Array.getElem?_eq_none h'] at h1
      have h2 := wpOp_putIf hoj (hfree j oj hoj hji hjun hnot) (fun cs b => hsel i oi cs b hi) (fun cs b => hsel j oj cs b hoj) hQ hy h1
      have hfree' : ∀ k ok, ops[k]? = some ok → k ≠ i → (listed.setIfInBounds j true).getD k true = false →
          (∀ e ∈ ok.after, Region.binds md e = true → e.on ≠ i) → oi.apart ops ok = true := fun k ok hk hki hun hno => by
        refine hfree k ok hk hki ?_ hno
        by_cases hjk : j = k
        · subst hjk; exact hjun
        · rw [getD_set_ne true hjk] at hun; exact hun
      have hkf : (listed.setIfInBounds j true).getD k false = false → ((listed.setIfInBounds i true).setIfInBounds j true).getD k false = false := fun h => by
        rw [Array.setIfInBounds_comm _ _ (fun e => hji e.symm), getD_set_ne false hik]; exact h
      refine wpOp_mono (fun a' w' h3 => ⟨fun h => h3.2.1 (hkf h), ih (listed.setIfInBounds j true) a' w' hfree' (ready_mono hr (Ne.symm hji)) h3.1 (fun h => h3.2.1 (hkf h)) ?_⟩) h2
      rw [Array.setIfInBounds_comm _ _ hji]
      exact h3.2.2
theorem wpAnyK_take0 {i : Nat} {oi : Oper} {v : Value} {fuel : Nat} {listed : Array Bool} {a : Act} {w : World} (hi : ops[i]? = some oi)
    (hs : Region.noSelect ops = true) (hf : Region.free md ops listed i = true) (hr : (Region.ready md ops listed).contains i = true) (hik : i ≠ k)
    (hQ : ∀ c a w, Q (.panic c) (a.put oi.dst v) w → Q (.panic c) a w) (hy : YieldsIf P ops (fun _ => True) oi v a) (hS : listed.getD k false = false → S w)
    (h : wpAnyK P md ops Q S k fuel (listed.setIfInBounds i true) (a.put oi.dst v) w) : wpAnyK P md ops Q S k (fuel + 1) listed a w :=
  wpAnyK_first0 hi (Region.noSelect_spec hs) hQ hik fuel listed a w (Region.free_spec hi hf) (by simpa using hr) hy hS h
theorem wpAnyK_all {rs : List Nat} {fuel : Nat} {listed : Array Bool} {a : Act} {w : World} (hr : Region.ready md ops listed = rs) (hne : rs ≠ [])
    (h : ∀ i ∈ rs, wpOp P ops Q i (fun a' w' => ((listed.setIfInBounds i true).getD k false = false → S w') ∧ wpAnyK P md ops Q S k fuel (listed.setIfInBounds i true) a' w') a w) : wpAnyK P md ops Q S k (fuel + 1) listed a w :=
  ⟨fun h0 => absurd (hr ▸ h0) hne, hr ▸ h⟩
theorem wpAnyK_done {listed : Array Bool} {a : Act} {w : World} (hr : Region.ready md ops listed = []) (h : Q .normal a w) :
    ∀ fuel, wpAnyK P md ops Q S k fuel listed a w
  | 0 => ⟨hr, h⟩
  | _ + 1 => ⟨fun _ => h, by rw [hr]; simp⟩
def AllReadyK (P : Program) (md : Region.Mode) (ops : Array Oper) (Q : Exit → Act → World → Prop) (S : World → Prop) (k fuel : Nat) (listed : Array Bool) (a : Act) (w : World) (rs : List Nat) : Prop :=
  ∀ i ∈ rs, wpOp P ops Q i (fun a' w' => ((listed.setIfInBounds i true).getD k false = false → S w') ∧ wpAnyK P md ops Q S k fuel (listed.setIfInBounds i true) a' w') a w
theorem AllReadyK.nil {fuel : Nat} {listed : Array Bool} {a : Act} {w : World} : AllReadyK P md ops Q S k fuel listed a w [] := fun _ h => by cases h
theorem AllReadyK.cons {fuel : Nat} {listed : Array Bool} {a : Act} {w : World} {i : Nat} {o : Oper} {rs : List Nat} (ho : ops[i]? = some o)
    (h : ∀ K' : Act → World → Prop, Shut (∀ a w, ((listed.setIfInBounds i true).getD k false = false → S w) → wpAnyK P md ops Q S k fuel (listed.setIfInBounds i true) a w → K' a w) → if Region.wanted o (yielded ops a.tmps) = true then Oper.wp P o a w K' Q else K' (a.put o.dst undef) w)
    (hs : AllReadyK P md ops Q S k fuel listed a w rs) : AllReadyK P md ops Q S k fuel listed a w (i :: rs) := fun j hj => by
  rcases List.mem_cons.1 hj with rfl | hj
  · exact wpOp_step ho (fun K' hK => h K' (fun a w hS hW => hK a w ⟨hS, hW⟩))
  · exact hs j hj
theorem wpAnyK_ready {rs : List Nat} {fuel : Nat} {listed : Array Bool} {a : Act} {w : World} (hr : Region.ready md ops listed = rs) (hne : rs ≠ [])
    (h : AllReadyK P md ops Q S k fuel listed a w rs) : wpAnyK P md ops Q S k (fuel + 1) listed a w := wpAnyK_all hr hne h
theorem wp_region_k {id : Nat} {a : Act} {w : World} (hm : P.follows .mixedOrders = true) (S : World → Prop) (k : Nat) (hS : S w.drew)
    (h : S w.drew → wpAnyK P .any ops Q S k ops.size (Array.replicate ops.size false) a w.drew) : (Code.region id ops true).wp P Q a w :=
  wp_region_any hm (wpAny_of_k _ _ _ _ (h hS))
theorem shutK {S : World → Prop} {W : Act → World → Prop} {c : Prop} {K' : Act → World → Prop} {a : Act} {w : World} (hK : Shut (∀ a w, (c → S w) → W a w → K' a w)) (hS : S w) (h : S w → W a w) : K' a w := hK.out _ _ (fun _ => hS) (h hS)
theorem shutK_off {S : World → Prop} {W : Act → World → Prop} {c : Prop} {K' : Act → World → Prop} {a : Act} {w : World} (hK : Shut (∀ a w, (c → S w) → W a w → K' a w)) (hc : ¬ c) (h : W a w) : K' a w := hK.out _ _ (fun h0 => absurd h0 hc) h
end
end
section
open Go Go.RowKit
section
variable {P : Program} {ops : Array Oper} {Q : Exit → Act → World → Prop} {md : Region.Mode} {S : World → Prop} {k : Nat} {oi : Oper} {v : Value} {fuel : Nat} {listed : Array Bool} {a : Act} {w : World}
theorem tH (i : Nat) (hi : ops[i]? = some oi := by rfl) (hs : Region.noSelect ops = true := by kernel_rfl) (hf : Region.free md ops listed i = true := by kernel_rfl) (hr : (Region.ready md ops listed).contains i = true := by kernel_rfl)
    (hQ : ∀ c a w, Q (.panic c) (a.put oi.dst v) w → Q (.panic c) a w := by exact fun _ _ _ h => h) (hg : Region.wanted oi (yielded ops a.tmps) = true := by rfl)
    (hy : ∀ w, S w → (execOp a.eval oi).run P w = .ok (.value v) w := by intro wS hSw; (try dsimp only at hSw); go_simp; try with_reducible rfl) (hS : S w := by assumption)
    {a' : Act} {l' : Array Bool} (ha : a.put oi.dst v = a' := by first | (simp only [List.getElem_toArray, List.getElem_cons_zero, List.getElem_cons_succ, Act.put, List.setIfInBounds_toArray, List.set_cons_zero, List.set_cons_succ]; done) | (simp only [List.getElem_toArray, List.getElem_cons_zero, List.getElem_cons_succ, Act.put, List.setIfInBounds_toArray, List.set_cons_zero, List.set_cons_succ]; rfl) | rfl) (hl : listed.setIfInBounds i true = l' := by first | (simp only [List.getElem_toArray, List.getElem_cons_zero, List.getElem_cons_succ, Act.put, List.setIfInBounds_toArray, List.set_cons_zero, List.set_cons_succ]; done) | (simp only [List.getElem_toArray, List.getElem_cons_zero, List.getElem_cons_succ, Act.put, List.setIfInBounds_toArray, List.set_cons_zero, List.set_cons_succ]; rfl) | rfl)
    (h : wpAnyH P md ops Q S fuel l' a' w) : wpAnyH P md ops Q S (fuel + 1) listed a w :=
  wpAnyH_take hi hs hf hr hQ (Or.inl ⟨hg, hy⟩) hS (by rw [ha, hl]; exact h)
theorem sH (i : Nat) (hi : ops[i]? = some oi := by rfl) (hs : Region.noSelect ops = true := by kernel_rfl) (hf : Region.free md ops listed i = true := by kernel_rfl) (hr : (Region.ready md ops listed).contains i = true := by kernel_rfl)
    (hQ : ∀ c a w, Q (.panic c) (a.put oi.dst undef) w → Q (.panic c) a w := by exact fun _ _ _ h => h) (hg : Region.wanted oi (yielded ops a.tmps) = false := by rfl) (hS : S w := by assumption)
    {a' : Act} {l' : Array Bool} (ha : a.put oi.dst undef = a' := by first | (simp only [List.getElem_toArray, List.getElem_cons_zero, List.getElem_cons_succ, Act.put, List.setIfInBounds_toArray, List.set_cons_zero, List.set_cons_succ]; done) | (simp only [List.getElem_toArray, List.getElem_cons_zero, List.getElem_cons_succ, Act.put, List.setIfInBounds_toArray, List.set_cons_zero, List.set_cons_succ]; rfl) | rfl) (hl : listed.setIfInBounds i true = l' := by first | (simp only [List.getElem_toArray, List.getElem_cons_zero, List.getElem_cons_succ, Act.put, List.setIfInBounds_toArray, List.set_cons_zero, List.set_cons_succ]; done) | (simp only [List.getElem_toArray, List.getElem_cons_zero, List.getElem_cons_succ, Act.put, List.setIfInBounds_toArray, List.set_cons_zero, List.set_cons_succ]; rfl) | rfl)
    (h : wpAnyH P md ops Q S fuel l' a' w) : wpAnyH P md ops Q S (fuel + 1) listed a w :=
  wpAnyH_take hi hs hf hr hQ (Or.inr ⟨hg, rfl⟩) hS (by rw [ha, hl]; exact h)
theorem tK (i : Nat) (hi : ops[i]? = some oi := by rfl) (hs : Region.noSelect ops = true := by kernel_rfl) (hf : Region.free md ops listed i = true := by kernel_rfl) (hr : (Region.ready md ops listed).contains i = true := by kernel_rfl)
    (hc : (closedB md ops listed && reachB md ops 12 i k && (i != k)) = true := by kernel_rfl)
    (hQ : ∀ c a w, Q (.panic c) (a.put oi.dst v) w → Q (.panic c) a w := by exact fun _ _ _ h => h) (hg : Region.wanted oi (yielded ops a.tmps) = true := by rfl)
    (hy : ∀ w, S w → (execOp a.eval oi).run P w = .ok (.value v) w := by intro wS hSw; (try dsimp only at hSw); go_simp; try with_reducible rfl) (hS : S w := by assumption)
    {a' : Act} {l' : Array Bool} (ha : a.put oi.dst v = a' := by first | (simp only [List.getElem_toArray, List.getElem_cons_zero, List.getElem_cons_succ, Act.put, List.setIfInBounds_toArray, List.set_cons_zero, List.set_cons_succ]; done) | (simp only [List.getElem_toArray, List.getElem_cons_zero, List.getElem_cons_succ, Act.put, List.setIfInBounds_toArray, List.set_cons_zero, List.set_cons_succ]; rfl) | rfl) (hl : listed.setIfInBounds i true = l' := by first | (simp only [List.getElem_toArray, List.getElem_cons_zero, List.getElem_cons_succ, Act.put, List.setIfInBounds_toArray, List.set_cons_zero, List.set_cons_succ]; done) | (simp only [List.getElem_toArray, List.getElem_cons_zero, List.getElem_cons_succ, Act.put, List.setIfInBounds_toArray, List.set_cons_zero, List.set_cons_succ]; rfl) | rfl)
    (h : wpAnyK P md ops Q S k fuel l' a' w) : wpAnyK P md ops Q S k (fuel + 1) listed a w :=
  wpAnyK_take hi hs hf hr hc hQ (Or.inl ⟨hg, hy⟩) hS (by rw [ha, hl]; exact h)
theorem t0 (i : Nat) (hi : ops[i]? = some oi := by rfl) (hs : Region.noSelect ops = true := by kernel_rfl) (hf : Region.free md ops listed i = true := by kernel_rfl) (hr : (Region.ready md ops listed).contains i = true := by kernel_rfl)
    (hik : i ≠ k := by decide)
    (hQ : ∀ c a w, Q (.panic c) (a.put oi.dst v) w → Q (.panic c) a w := by exact fun _ _ _ h => h) (hg : Region.wanted oi (yielded ops a.tmps) = true := by rfl)
    (hy : ∀ w, True → (execOp a.eval oi).run P w = .ok (.value v) w := by intro wS hSw; (try dsimp only at hSw); go_simp; try with_reducible rfl)
    (hS : listed.getD k false = false → S w := by first | exact fun _ => by assumption | exact fun h => absurd h (by decide))
    {a' : Act} {l' : Array Bool} (ha : a.put oi.dst v = a' := by first | (simp only [List.getElem_toArray, List.getElem_cons_zero, List.getElem_cons_succ, Act.put, List.setIfInBounds_toArray, List.set_cons_zero, List.set_cons_succ]; done) | (simp only [List.getElem_toArray, List.getElem_cons_zero, List.getElem_cons_succ, Act.put, List.setIfInBounds_toArray, List.set_cons_zero, List.set_cons_succ]; rfl) | rfl) (hl : listed.setIfInBounds i true = l' := by first | (simp only [List.getElem_toArray, List.getElem_cons_zero, List.getElem_cons_succ, Act.put, List.setIfInBounds_toArray, List.set_cons_zero, List.set_cons_succ]; done) | (simp only [List.getElem_toArray, List.getElem_cons_zero, List.getElem_cons_succ, Act.put, List.setIfInBounds_toArray, List.set_cons_zero, List.set_cons_succ]; rfl) | rfl)
    (h : wpAnyK P md ops Q S k fuel l' a' w) : wpAnyK P md ops Q S k (fuel + 1) listed a w :=
  wpAnyK_take0 hi hs hf hr hik hQ (Or.inl ⟨hg, hy⟩) hS (by rw [ha, hl]; exact h)
end
end
section
open Go.RowKit

section
variable {P : Program} {w : World}
theorem run_index_arr {T len e : Nat} {k : IntKind} {i : Int} {cs : Array Value} {v : Value} (hu : P.underlying T = some (.array len e)) (he : P.plainKey e = true)
    (hs : ∀ w, (Go.sizeOf e).run P w = .ok 1 w) (h0 : 0 ≤ i) (h1 : i < len) (hv : cs[i.toNat]? = some v) (w : World) :
    (Instr.index T (.agg cs) (.int k i)).run P w = .ok v w := by
  simp [Instr.index, asIntOf, run_underlying hu, h0, h1, hs, run_part_plain w he hv]
theorem quiet_eq {f : FuncId} {args : Array Value} {n : Nat} {v : Value}
    (h : Calls P f args (w.drewN n) fun e w' => e = .returned v ∧ w.drewN n = w') : Calls P f args (w.drewN n) fun e w'' => e = .returned v ∧ ∃ m, w'' = w.drewN m :=
  h.mono fun _ _ ⟨he, hm⟩ => ⟨he, n, hm.symm⟩
end
theorem bcell {W w1 : World} (hb : Below W.heap.size W w1) : (∀ b o, b < W.heap.size → w1.cell? ⟨b, o, none⟩ = W.cell? ⟨b, o, none⟩) ∧ (∀ b o, b < W.heap.size → w1.frozen? ⟨b, o, none⟩ = W.frozen? ⟨b, o, none⟩) :=
  ⟨fun b o h => hb.cell (p := ⟨b, o, none⟩) h, fun b o h => hb.frozen (p := ⟨b, o, none⟩) h⟩
theorem blk_set {w : World} {b i : Nat} {v : Value} {cs : Array Value} {t : TypeId} {fr : Nat × Nat} (h : w.heap[b]? = some (.cells cs t fr)) :
    (w.setCell ⟨b, i, none⟩ v).heap[b]? = some (.cells (cs.setIfInBounds i v) t fr) := by
  have hlt : b < w.heap.size := by
    rcases Nat.lt_or_ge b w.heap.size with h' | h'
    · exact h'
    · simp [Array.getElem?_eq_none h'] at h
  have h' : w.heap[b] = .cells cs t fr := by simpa [Array.getElem?_eq_getElem hlt] using h
  show (w.heap.modify b _)[b]? = _
  rw [Array.getElem?_eq_getElem (by simpa using hlt), Array.getElem_modify_self, h']
  rfl
theorem blk_new {w : World} {k : Nat} {o : Obj} (h : k = w.heap.size) : (w.alloc o).heap[k]? = some o := by rw [h]; exact heap_alloc_new w o
theorem blk_old {w : World} {k : Nat} {o o' : Obj} (h : w.heap[k]? = some o') : (w.alloc o).heap[k]? = some o' := by
  have hlt : k < w.heap.size := by
    rcases Nat.lt_or_ge k w.heap.size with h' | h'
    · exact h'
    · simp [Array.getElem?_eq_none h'] at h
  rw [heap_alloc_old w o hlt]; exact h
theorem cells3 {w : World} {b : Nat} {x y z : Value} {t : TypeId} {fr : Nat × Nat} (h : w.heap[b]? = some (.cells #[x, y, z] t fr)) :
    w.cell? ⟨b, 0, none⟩ = some x ∧ w.cell? ⟨b, 1, none⟩ = some y ∧ w.cell? ⟨b, 2, none⟩ = some z := by
  refine ⟨?_, ?_, ?_⟩ <;> (rw [cell_of_row _ _ _ _ _ _ h]; rfl)
theorem free3 {w : World} {b : Nat} {cs : Array Value} {t : TypeId} (h : w.heap[b]? = some (.cells cs t (0, 0))) :
    w.frozen? ⟨b, 0, none⟩ = false ∧ w.frozen? ⟨b, 1, none⟩ = false ∧ w.frozen? ⟨b, 2, none⟩ = false := ⟨frozen_of_row _ _ _ _ _ h, frozen_of_row _ _ _ _ _ h, frozen_of_row _ _ _ _ _ h⟩
theorem add_plain (b o j : Nat) : (⟨b, o, none⟩ : Addr).add j = ⟨b, o + j, none⟩ := by unfold Addr.add; split <;> simp_all
theorem lt_of_blk {w : World} {k : Nat} {o : Obj} (h : w.heap[k]? = some o) : k < w.heap.size := (Array.getElem?_eq_some_iff.1 h).1
/-- a slice of integers that came in: nil, or a row of cells -/
def IsRow (k : IntKind) (w : World) (a : Option Addr) (len cap : Nat) (zs : List Int) : Prop :=
  (a = none ∧ len = 0 ∧ cap = 0 ∧ zs = []) ∨
  ∃ x, a = some x ∧ len ≤ cap ∧ cap ≤ maxLen ∧ zs.length = cap ∧ (∀ i, i < zs.length → w.cell? (x.add i) = some (.int k (zs.getD i 0))) ∧ ∀ n ∈ zs, (Lit.int k n).wf = true
theorem IsRow.read {k : IntKind} {w : World} {a : Option Addr} {len cap : Nat} {zs : List Int} (h : IsRow k w a len cap zs) :
    0 < len → ∃ b off, a = some ⟨b, off, none⟩ ∧ b < w.heap.size ∧ ∀ i, i < len → ∃ x : Int, w.cell? ⟨b, off + i, none⟩ = some (.int k x) := by
  intro h0
  rcases h with ⟨_, h1, _⟩ | ⟨x, rfl, hl, hm, hz, hc, _⟩
  · omega
  · obtain ⟨b, off, spot⟩ := x
    have hs : spot = none := by
      have := hc 0 (by omega)
      cases spot with
      | none => rfl
      | some s =>
        exfalso
        have he : ((⟨b, off, some s⟩ : Addr).add 0).spot.isSome = true := by unfold Addr.add; split <;> simp_all
        unfold World.cell? at this
        split at this
        · rw [if_pos he] at this; cases this
        · cases this
    subst hs
    refine ⟨b, off, rfl, ?_, fun i hi => ⟨zs.getD i 0, by rw [← add_plain]; exact hc i (by omega)⟩⟩
    have := hc 0 (by omega)
    rw [add_plain] at this
    exact World.block_lt_of_cell? _ _ this
theorem blk_far {w : World} {b : Nat} {a : Addr} {v : Value} {o : Obj} (h : w.heap[b]? = some o) (hn : b ≠ a.block) : (w.setCell a v).heap[b]? = some o := by
  rw [heap_setCell_other _ _ _ _ hn]; exact h
theorem blk_below {W w1 : World} {B b : Nat} {o : Obj} (hb : Below B W w1) (h : b < B) (ho : W.heap[b]? = some o) : w1.heap[b]? = some o := (hb.block b h).trans ho
section
variable {P : Program} {w : World} {fn : Func} {p u : Tmp} {ty : TypeId} {tmps : Array Value} {g : Nat} {t : TypeId} {cs : Array Value} {fr : Nat × Nat} {d : TypeDesc} {R : Ending → World → Prop}
theorem results_cell_row2 (h : fn.results = #[.cell p ty, .tmp u]) (hp : tmps.getD p undef = .pointer (some ⟨g, 0, none⟩)) (hg : w.heap[g]? = some (.cells cs t fr))
    (hu : P.underlying ty = some d) (hd : (match d with | .struct _ | .array _ _ => true | _ => false) = true) (hi : (P.info? ty).map (·.size) = some cs.size) :
    (results fn tmps).run P w = .ok (.tuple #[.agg cs, tmps.getD u undef]) w := by
  have hp' : tmps[p]?.getD undef = .pointer (some ⟨g, 0, none⟩) := by simpa using hp
  simp [results, h, hp', asAddr, run_loadVar_row w g t ty cs fr d hg hu hd hi]
/-- the end of a function with a struct as its first result and a plain second one: the result's block is known -/
theorem bodyPost_row2 (h : fn.results = #[.cell p ty, .tmp u]) (hp : tmps.getD p undef = .pointer (some ⟨g, 0, none⟩)) (hg : w.heap[g]? = some (.cells cs t fr))
    (hu : P.underlying ty = some d) (hd : (match d with | .struct _ | .array _ _ => true | _ => false) = true) (hi : (P.info? ty).map (·.size) = some cs.size)
    (hR : R (.returned (.tuple #[.agg cs, tmps.getD u undef])) w) : bodyPost P fn R .ret { tmps, defers := [] } w :=
  bodyPost_ret (results_cell_row2 h hp hg hu hd hi) rfl hR
/-- .. with a struct as its only result -/
theorem bodyPost_row1 (h : fn.results = #[.cell p ty]) (hp : tmps.getD p undef = .pointer (some ⟨g, 0, none⟩)) (hg : w.heap[g]? = some (.cells cs t fr))
    (hu : P.underlying ty = some d) (hd : (match d with | .struct _ | .array _ _ => true | _ => false) = true) (hi : (P.info? ty).map (·.size) = some cs.size)
    (hR : R (.returned (.agg cs)) w) : bodyPost P fn R .ret { tmps, defers := [] } w :=
  bodyPost_ret (results_cell_row h tmps w g t cs fr d hp hg hu hd hi) rfl hR
end
theorem size_le_maxLen {k : Nat} (h : k ≤ 1099511627776) : k ≤ maxLen := by unfold maxLen; omega
/-- append(s, x): s is nil or the call's own; x lies in the block that has just been made for it (of one element, of whatever number of cells) -/
theorem wpList_append_new {P : Program} {w : World} {ops : Array Oper} {rest : List Oper} {o : Oper} {a : Act} {Q : Exit → Act → World → Prop} (hgd : o.guard = none) (s x : Operand) (t : TypeId)
    (ho : o.op = .call { callee := .builtin .append, args := #[s, x], argTypes := #[t, t] })
    (base : Nat) (e : TypeId) (size bytes : Nat) (z : Value) (ht : P.underlying t = some (.slice e)) (hinfo : (P.info? e).map (fun i => (i.zero, i.size, i.bytes)) = some (some z, size, bytes))
    (hzs : z.cells.size = size) (hsz : 0 < size) (hby : bytes ≤ 128)
    (v : Value) (n : Nat) (xs : List Value) (hs : a.eval s = v) (hown : w.ownsRow base e size v n xs)
    (cs : Array Value) (c : Nat) (hx : a.eval x = .slice (some ⟨w.heap.size, 0, none⟩) 1 c) (hcs : cs.size = size) (h1 : ∀ u ∈ cs.toList, u.oneCell' = true)
    (hn : n < 1099511627776) (hbase : base ≤ w.heap.size)
    (h : ∀ v' w', w'.ownsRow base e size v' (n + 1) (xs ++ cs.toList) → (∀ W, Below base W w → Below base W w') → wpList P ops Q rest (a.put o.dst v') w') :
    wpList P ops Q (o :: rest) a (w.alloc (.cells cs e)) := by
  obtain ⟨i, hi, hz, h2, h3⟩ := info_parts hinfo
  refine wpList_append_own _ hgd s x t ho base e i z size bytes ht hi hz h2 h3 hzs hsz v n xs hs (hown.alloc _) ⟨w.heap.size, 0, none⟩ 1 c cs.toList hx (by simp [hcs]) ?_ h1 (size_le_maxLen (by omega)) ?_ (by simp; omega) ?_
  · intro j u hu
    have : (⟨w.heap.size, 0, none⟩ : Addr).add j = ⟨w.heap.size, j, none⟩ := by unfold Addr.add; split <;> simp_all
    rw [this, cell_of_row _ _ _ _ _ _ (heap_alloc_new w _)]
    simpa using hu
  · exact Nat.le_trans (Nat.mul_le_mul (Nat.le_of_lt_succ (by omega : n + 1 < 1099511627776 + 1)) hby) (by decide)
  · intro v' w' ho' hg _
    refine h v' w' ho' fun W hW => (hW.alloc hbase _).grown hg (by simp; omega) ?_
    intro k hk
    exact (hown.lt k hk).1
def byteV (c : UInt8) : Value := .int .u8 (c.toNat : Int)
theorem run_convert_owned {P : Program} {w : World} {B : Nat} {src dst e : TypeId} {v : Value} {n : Nat} (l : List UInt8) (hown : w.ownsRow B e 1 v n (l.map byteV))
    (hs : P.underlying src = some (.slice e)) (he : P.underlying e = some (.int .u8)) (hd : P.underlying dst = some .string) :
    (convert src dst v).run P w = .ok (.string ⟨l.toArray⟩) w := by
  obtain ⟨hl, h⟩ := hown
  have hl' : l.length = n := by simpa using hl
  rcases h with ⟨rfl, h0⟩ | ⟨g, cap, cur, rfl, hg, hh, hn, hc, hsz, ht⟩
  · subst h0
    have : l = [] := List.length_eq_zero_iff.1 hl'
    subst this
    exact run_convert_bytes_nil w src e hs he 0 0 dst hd
  · have e1 : (strOfNums (l.map fun c => (c.toNat : Int))) = ⟨l.toArray⟩ := by
      unfold strOfNums
      congr 2
      rw [List.map_map]
      conv => rhs; rw [← List.map_id l]
      refine List.map_congr_left fun c _ => ?_
      simp
    rw [← e1]
    refine run_convert_bytes_arg w src e hs he g 0 n cap (l.map fun c => (c.toNat : Int)) (by simpa using hl') (fun i hi => ?_) dst hd
    have hi' : i < l.length := by omega
    rw [cell_of_row w g (0 + i) cur e (0, 0) hh, Nat.zero_add]
    have : cur.toList[i]? = (l.map byteV)[i]? := by
      rw [← ht, List.getElem?_take]; simp [hi]
    rw [← Array.getElem?_toList, this]
    simp [hi', byteV]
theorem ret_int {k : IntKind} {a b : Int} (h : a = b) : Ending.returned (.int k a) = .returned (.int k b) := by rw [h]
theorem ret_bool {a b : Bool} (h : a = b) : Ending.returned (.bool a) = .returned (.bool b) := by rw [h]
end
section
open Go.RowKit
/-- the world under a name of its own -/
theorem wp_world {P : Program} {c : Code} {Q : Exit → Act → World → Prop} {a : Act} {W : World} (h : ∀ w', w' = W → c.wp P Q a w') : c.wp P Q a W := h W rfl
end
section
open Go.RowKit
/-- v is a slice of n elements of size cells each; its cells are xs, in a block of S -/
def Row (w : World) (S : Nat → Prop) (size : Nat) (v : Value) (n : Nat) (xs : List Value) : Prop :=
  ∃ a cap, v = .slice a n cap ∧ xs.length = n * size ∧ (0 < xs.length → ∃ b off, a = some ⟨b, off, none⟩ ∧ S b ∧ ∀ j, j < xs.length → w.cell? ⟨b, off + j, none⟩ = xs[j]?)
/-- all blocks that are there -/
def All (w : World) (b : Nat) : Prop := b < w.heap.size
theorem Row.move {w w' : World} {S S' : Nat → Prop} {size : Nat} {v : Value} {n : Nat} {xs : List Value} (h : Row w S size v n xs) (hS : ∀ b, b < w.heap.size → S b → w'.heap[b]? = w.heap[b]? ∧ S' b) : Row w' S' size v n xs := by
  obtain ⟨a, cap, h1, h2, h3⟩ := h
  refine ⟨a, cap, h1, h2, fun h0 => ?_⟩
  obtain ⟨b, off, h4, h5, h6⟩ := h3 h0
  have hb : b < w.heap.size := by
    have := h6 0 h0
    rw [List.getElem?_eq_getElem h0] at this
    exact World.block_lt_of_cell? _ _ this
  obtain ⟨e1, e2⟩ := hS b hb h5
  exact ⟨b, off, h4, e2, fun j hj => (World.cell?_of_block (w := w) (a := ⟨b, off + j, none⟩) e1).trans (h6 j hj)⟩
theorem Row.below {w w' : World} {size : Nat} {v : Value} {n : Nat} {xs : List Value} (h : Row w (All w) size v n xs) (hb : Below w.heap.size w w') : Row w' (All w') size v n xs :=
  h.move fun b hb' _ => ⟨hb.block b hb', Nat.lt_of_lt_of_le hb' hb.size⟩
theorem Row.nil (w : World) (S : Nat → Prop) (size : Nat) : Row w S size (.slice none 0 0) 0 [] := ⟨none, 0, rfl, by simp, by simp⟩
theorem Row.slice {w : World} {S : Nat → Prop} {size : Nat} {v : Value} {n : Nat} {xs : List Value} (h : Row w S size v n xs) : ∃ a cap, v = .slice a n cap := by
  obtain ⟨a, cap, h1, _⟩ := h; exact ⟨a, cap, h1⟩
/-- a row that the call owns can be read -/
theorem Row.owns {w : World} {B : Nat} {e : TypeId} {size : Nat} {v : Value} {n : Nat} {xs : List Value} (h : w.ownsRow B e size v n xs) {S : Nat → Prop} (hS : ∀ b, B ≤ b → b < w.heap.size → S b) : Row w S size v n xs := by
  obtain ⟨hl, h⟩ := h
  rcases h with ⟨rfl, rfl⟩ | ⟨g, cap, cur, rfl, hg, hh, hn, hc, hsz, ht⟩
  · have : xs = [] := List.length_eq_zero_iff.1 (by omega)
    subst this
    exact Row.nil w S size
  · refine ⟨_, cap, rfl, hl, fun h0 => ⟨g, 0, rfl, hS g hg (lt_of_blk hh), fun j hj => ?_⟩⟩
    rw [cell_of_row w g (0 + j) cur e (0, 0) hh, Nat.zero_add, ← ht, List.getElem?_take, if_pos (by omega), Array.getElem?_toList]
/-- cells of element k, five cells each -/
theorem Row.five {w : World} {S : Nat → Prop} {n : Nat} {xs : List Value} {a : Option Addr} {cap : Nat} (h : Row w S 5 (.slice a n cap) n xs) (k : Nat) (hk : k < n) (x0 x1 x2 x3 x4 : Value) (e : (xs.drop (k * 5)).take 5 = [x0, x1, x2, x3, x4]) :
    ∃ b off, a = some ⟨b, off, none⟩ ∧ b < w.heap.size ∧ w.cell? ⟨b, off + k * 5, none⟩ = some x0 ∧ w.cell? ⟨b, off + k * 5 + 1, none⟩ = some x1 ∧ w.cell? ⟨b, off + k * 5 + 2, none⟩ = some x2 ∧ w.cell? ⟨b, off + k * 5 + 3, none⟩ = some x3 ∧ w.cell? ⟨b, off + k * 5 + 4, none⟩ = some x4 := by
  obtain ⟨a', cap', h1, h2, h3⟩ := h
  have hlen : k * 5 + 5 ≤ xs.length := by rw [h2]; omega
  obtain ⟨b, off, h4, h5, h6⟩ := h3 (by omega)
  cases h1
  have g : ∀ i, (hi : i < 5) → xs[k * 5 + i]? = [x0, x1, x2, x3, x4][i]? := by
    intro i hi
    rw [← e, List.getElem?_take, if_pos hi, List.getElem?_drop]
  have c : ∀ i, (hi : i < 5) → w.cell? ⟨b, off + k * 5 + i, none⟩ = [x0, x1, x2, x3, x4][i]? := by
    intro i hi
    rw [Nat.add_assoc, h6 _ (by omega), g i hi]
  have c0 := c 0 (by omega)
  exact ⟨b, off, h4, World.block_lt_of_cell? _ ⟨b, off + k * 5 + 0, none⟩ c0, c0, c 1 (by omega), c 2 (by omega), c 3 (by omega), c 4 (by omega)⟩
end
section
open Go.RowKit
variable {α : Type}
def Vec (w : World) (S : Nat → Prop) (k : Nat) (enc : α → List Value) (v : Value) (L : List α) : Prop :=
  ∃ a cap, v = .slice a L.length cap ∧ L.length ≤ cap ∧ (0 < L.length → ∃ b off, a = some ⟨b, off, none⟩ ∧ S b ∧ b < w.heap.size ∧ ∀ j x, L[j]? = some x → ∀ i u, (enc x)[i]? = some u → w.cell? ⟨b, off + j * k + i, none⟩ = some u)
theorem Vec.move {w w' : World} {S S' : Nat → Prop} {k : Nat} {enc : α → List Value} {v : Value} {L : List α} (h : Vec w S k enc v L) (hz : w.heap.size ≤ w'.heap.size) (hS : ∀ b, b < w.heap.size → S b → w'.heap[b]? = w.heap[b]? ∧ S' b) : Vec w' S' k enc v L := by
  obtain ⟨a, cap, h1, h2, h3⟩ := h
  refine ⟨a, cap, h1, h2, fun h0 => ?_⟩
  obtain ⟨b, off, h4, h5, h5', h6⟩ := h3 h0
  obtain ⟨e1, e2⟩ := hS b h5' h5
  exact ⟨b, off, h4, e2, by omega, fun j x hj i u hu => (World.cell?_of_block (w := w) (a := ⟨b, off + j * k + i, none⟩) e1).trans (h6 j x hj i u hu)⟩
/-- any block -/
def Any1 (b : Nat) : Prop := True
theorem Vec.below {w w' : World} {S : Nat → Prop} {k : Nat} {enc : α → List Value} {v : Value} {L : List α} (h : Vec w S k enc v L) (hb : Below w.heap.size w w') : Vec w' S k enc v L :=
  h.move hb.size fun b hb' h => ⟨hb.block b hb', h⟩
theorem Vec.any {w : World} {S : Nat → Prop} {k : Nat} {enc : α → List Value} {v : Value} {L : List α} (h : Vec w S k enc v L) : Vec w Any1 k enc v L :=
  h.move (Nat.le_refl _) fun b hb' h => ⟨rfl, trivial⟩
theorem Vec.nil (w : World) (S : Nat → Prop) (k : Nat) (enc : α → List Value) : Vec w S k enc (.slice none 0 0) [] := ⟨none, 0, rfl, by simp, by simp⟩
theorem Vec.slice {w : World} {S : Nat → Prop} {k : Nat} {enc : α → List Value} {v : Value} {L : List α} (h : Vec w S k enc v L) : ∃ a cap, v = .slice a L.length cap := by
  obtain ⟨a, cap, h1, _⟩ := h; exact ⟨a, cap, h1⟩
theorem flat_get {k : Nat} {enc : α → List Value} (hk : ∀ x, (enc x).length = k) : ∀ (L : List α) (j : Nat) (x : α), L[j]? = some x → ∀ i, i < k → (L.flatMap enc)[j * k + i]? = (enc x)[i]? := by
  intro L
  induction L with
  | nil => intro j x h; simp at h
  | cons y L ih =>
    intro j x h i hi
    rw [List.flatMap_cons]
    cases j with
    | zero =>
      simp at h; subst h
      rw [List.getElem?_append_left (by rw [hk]; omega)]; simp
    | succ j =>
      rw [List.getElem?_append_right (by rw [hk, Nat.succ_mul]; omega), hk]
      rw [show (j + 1) * k + i - k = j * k + i by rw [Nat.succ_mul]; omega]
      exact ih j x (by simpa using h) i hi
theorem flat_len {k : Nat} {enc : α → List Value} (hk : ∀ x, (enc x).length = k) (L : List α) : (L.flatMap enc).length = L.length * k := by
  induction L with
  | nil => simp
  | cons y L ih => rw [List.flatMap_cons, List.length_append, hk, ih, List.length_cons, Nat.succ_mul]; omega
/-- a row that the call owns reads as its list -/
theorem Vec.owns {w : World} {B : Nat} {e : TypeId} {k : Nat} {enc : α → List Value} (hk : ∀ x, (enc x).length = k) {v : Value} {L : List α} (h : w.ownsRow B e k v L.length (L.flatMap enc)) {S : Nat → Prop} (hS : ∀ b, B ≤ b → b < w.heap.size → S b) : Vec w S k enc v L := by
  obtain ⟨hl, h⟩ := h
  rcases h with ⟨rfl, h0⟩ | ⟨g, cap, cur, rfl, hg, hh, hn, hc, hsz, ht⟩
  · have : L = [] := List.length_eq_zero_iff.1 h0
    subst this
    exact Vec.nil w S k enc
  · refine ⟨_, cap, rfl, hn, fun h0 => ⟨g, 0, rfl, hS g hg (lt_of_blk hh), lt_of_blk hh, fun j x hj i u hu => ?_⟩⟩
    have hi : i < k := by rw [← hk x]; exact (List.getElem?_eq_some_iff.1 hu).1
    rw [cell_of_row w g (0 + j * k + i) cur e (0, 0) hh, Nat.zero_add]
    have hx := flat_get hk L j x hj i hi
    rw [hu, ← ht, List.getElem?_take] at hx
    split at hx
    · rw [← Array.getElem?_toList]; exact hx
    · cases hx
/-- element j of a row -/
theorem Vec.get {w : World} {S : Nat → Prop} {k : Nat} {enc : α → List Value} {a : Option Addr} {n cap : Nat} {L : List α} (h : Vec w S k enc (.slice a n cap) L) (j : Nat) (hj : j < L.length) :
    ∃ b off, a = some ⟨b, off, none⟩ ∧ b < w.heap.size ∧ ∀ i u, (enc L[j])[i]? = some u → w.cell? ⟨b, off + j * k + i, none⟩ = some u := by
  obtain ⟨a', cap', h1, h2, h3⟩ := h
  cases h1
  obtain ⟨b, off, h4, h5, h5', h6⟩ := h3 (by omega)
  exact ⟨b, off, h4, h5', fun i u hu => h6 j _ (List.getElem?_eq_getElem hj) i u hu⟩
theorem Vec.len {w : World} {S : Nat → Prop} {k : Nat} {enc : α → List Value} {a : Option Addr} {n cap : Nat} {L : List α} (h : Vec w S k enc (.slice a n cap) L) : n = L.length ∧ n ≤ cap := by
  obtain ⟨a', cap', h1, h2, h3⟩ := h
  cases h1; exact ⟨rfl, h2⟩
end
section
open Go
theorem run_load_zero {P : Program} (a : Addr) (w : World) : Sem.run P (loadCells a 0) w = .ok #[] w := rfl
theorem run_append_zero {P : Program} {w : World} (base : Nat) (t ty e : TypeId) (i : TypeInfo) (size : Nat) (ht : P.underlying t = some (.slice e)) (hi : P.info? e = some i)
    (v : Value) (n : Nat) (xs : List Value) (hown : w.ownsRow base e size v n xs) (ad : Option Addr) (c : Nat) :
    (Builtin.append_ #[t, t] ty #[v, .slice ad 0 c]).run P w = .ok v w := by
  have lz := fun a => run_load_zero (P := P) a w
  rcases hown.2 with ⟨rfl, rfl⟩ | ⟨g, cap, cur, rfl, _, _, hnc, _⟩
  · cases ad <;> simp [Builtin.append_, run_underlying ht, sizeOf, typeInfo, hi, Builtin.lenOf, Builtin.firstCells, lz, Sem.run_pure, Result.andThen]
  · cases ad <;> simp [Builtin.append_, run_underlying ht, sizeOf, typeInfo, hi, Builtin.lenOf, Builtin.firstCells, hnc, storeCells, lz, Sem.run_pure, Result.andThen]
theorem wp_append_zero {P : Program} {w : World} {o : Oper} {a : Act} {K : Act → World → Prop} {Q : Exit → Act → World → Prop} (s x : Operand) (t : TypeId)
    (ho : o.op = .call { callee := .builtin .append, args := #[s, x], argTypes := #[t, t] })
    (base : Nat) (e : TypeId) (i : TypeInfo) (size : Nat) (ht : P.underlying t = some (.slice e)) (hi : P.info? e = some i)
    (v : Value) (n : Nat) (xs : List Value) (hs : a.eval s = v) (hown : w.ownsRow base e size v n xs) (ad : Option Addr) (c : Nat) (hx : a.eval x = .slice ad 0 c)
    (h : K (a.put o.dst v) w) : Oper.wp P o a w K Q := by
  have hrun := run_append_zero (P := P) (w := w) base t o.type e i size ht hi v n xs hown ad c
  unfold Oper.wp execOp
  simp only [ho, resolve, invoke, builtin, Sem.run_bind, Sem.run_pure, Result.andThen_ok, List.map_toArray, List.map_cons, List.map_nil, hs, hx, hrun]
  exact h
/-- a slice's elements can be read: m of them, of size cells each -/
def Reads (w : World) (size : Nat) (u : Value) (m : Nat) (news : List Value) : Prop :=
  ∃ ad c, u = .slice ad m c ∧ news.length = m * size ∧ (0 < m → ∃ A, ad = some A ∧ ∀ j v, news[j]? = some v → w.cell? (A.add j) = some v)
/-- append of whatever slice -/
theorem wp_append_reads {P : Program} {w : World} {o : Oper} {a : Act} {K : Act → World → Prop} {Q : Exit → Act → World → Prop} (s x : Operand) (t : TypeId)
    (ho : o.op = .call { callee := .builtin .append, args := #[s, x], argTypes := #[t, t] })
    (base : Nat) (e : TypeId) (z : Value) (size bytes : Nat) (ht : P.underlying t = some (.slice e)) (hinfo : (P.info? e).map (fun i => (i.zero, i.size, i.bytes)) = some (some z, size, bytes))
    (hzs : z.cells.size = size) (hsz : 0 < size)
    (v : Value) (n : Nat) (xs : List Value) (hs : a.eval s = v) (hown : w.ownsRow base e size v n xs)
    (u : Value) (m : Nat) (news : List Value) (hx : a.eval x = u) (hr : Reads w size u m news) (h1 : ∀ u ∈ news, u.oneCell' = true)
    (h63 : n + m ≤ maxLen) (hbytes : (n + m) * bytes ≤ 140737488355328) (hbase : base ≤ w.heap.size)
    (h : ∀ v' w', w'.ownsRow base e size v' (n + m) (xs ++ news) → w.grownBy w' v.ownBlock → (v'.ownBlock = none ∨ v.ownBlock = v'.ownBlock ∨ v'.ownBlock = some w.heap.size) → K (a.put o.dst v') w') : Oper.wp P o a w K Q := by
  obtain ⟨ad, c, rfl, hl, hc⟩ := hr
  obtain ⟨i, hi, hz, h2, h3⟩ := info_parts hinfo
  by_cases hm : m = 0
  · subst hm
    have hn : news = [] := List.length_eq_zero_iff.1 (by omega)
    subst hn
    refine wp_append_zero s x t ho base e i size ht hi v n xs hs hown ad c hx (h v w (by simpa using hown) ⟨rfl, rfl, rfl, Nat.le_refl _, fun _ _ _ => rfl⟩ (.inr (.inl rfl)))
  · obtain ⟨A, rfl, hcell⟩ := hc (by omega)
    refine wp_append_lies w s x t ho base e i z size bytes ht hi hz h2 h3 hzs hsz v n xs hs hown A m c news hx hl hcell h1 (by omega) h63 hbytes hbase _ rfl fun g cap w' ho' hg hat hlt => ?_
    rcases hat with h4 | h4
    · exact h _ w' ho' hg (.inr (.inl h4))
    · exact h _ w' ho' hg (.inr (.inr (by rw [h4]; rfl)))
end
section
open Go.RowKit
variable {α : Type}
/-- v is a row of elements of type e, which lies in blocks made since w0; what lay in w0 is as it was -/
def OwnV (e : TypeId) (size : Nat) (enc : α → List Value) (w0 : World) (v : Value) (L : List α) (w : World) : Prop :=
  w.ownsRow w0.heap.size e size v L.length (L.flatMap enc) ∧ Below w0.heap.size w0 w
theorem own_below' {w w' : World} {B e size n : Nat} {v : Value} {xs : List Value} (h : w.ownsRow B e size v n xs) (hb : Below w.heap.size w w') : w'.ownsRow B e size v n xs := by
  refine ⟨h.1, ?_⟩
  rcases h.2 with h0 | ⟨g, cap, cur, hv, hg, hh, rest⟩
  · exact .inl h0
  · exact .inr ⟨g, cap, cur, hv, hg, (hb.block g (lt_of_blk hh)).trans hh, rest⟩
theorem OwnV.below {e size : Nat} {enc : α → List Value} {w0 w w' : World} {v : Value} {L : List α} (h : OwnV e size enc w0 v L w) (hb : Below w.heap.size w w') : OwnV e size enc w0 v L w' :=
  ⟨own_below' h.1 hb, h.2.trans (hb.mono h.2.size)⟩
theorem OwnV.start (e size : Nat) (enc : α → List Value) (w0 : World) : OwnV e size enc w0 (.slice none 0 0) [] w0 := ⟨⟨by simp, .inl ⟨rfl, rfl⟩⟩, Below.refl _ _⟩
theorem OwnV.nil {e size : Nat} {enc : α → List Value} {w0 w : World} (hb : Below w0.heap.size w0 w) : OwnV e size enc w0 (.slice none 0 0) [] w := ⟨⟨by simp, .inl ⟨rfl, rfl⟩⟩, hb⟩
theorem OwnV.vec {e size : Nat} {enc : α → List Value} (hk : ∀ x, (enc x).length = size) {w0 w : World} {v : Value} {L : List α} (h : OwnV e size enc w0 v L w) : Vec w (fun b => w0.heap.size ≤ b) size enc v L :=
  Vec.owns hk h.1 fun b hb _ => hb
theorem OwnV.form {e size : Nat} {enc : α → List Value} {w0 w : World} {v : Value} {L : List α} (h : OwnV e size enc w0 v L w) : (v = .slice none 0 0 ∧ L = []) ∨ ∃ g cap, v = .slice (some ⟨g, 0, none⟩) L.length cap ∧ L.length ≤ cap ∧ cap ≤ maxLen ∧ g < w.heap.size := by
  rcases h.1.2 with ⟨rfl, h0⟩ | ⟨g, cap, cur, rfl, _, hh, h1, h2, _⟩
  · exact .inl ⟨rfl, List.length_eq_zero_iff.1 h0⟩
  · exact .inr ⟨g, cap, rfl, h1, h2, lt_of_blk hh⟩
theorem OwnV.rebase {e size : Nat} {enc : α → List Value} {w0 w1 w : World} {v : Value} {L : List α} (h : OwnV e size enc w1 v L w) (hb : Below w0.heap.size w0 w1) : OwnV e size enc w0 v L w := by
  refine ⟨⟨h.1.1, ?_⟩, hb.trans (h.2.mono hb.size)⟩
  rcases h.1.2 with h0 | ⟨g, cap, cur, hv, hg, rest⟩
  · exact .inl h0
  · exact .inr ⟨g, cap, cur, hv, Nat.le_trans hb.size hg, rest⟩
/-- one element that lies at the head of a block -/
theorem reads_block {w : World} {g : Nat} {t : TypeId} {fr : Nat × Nat} {size c : Nat} {xs : List Value} (h : w.heap[g]? = some (.cells xs.toArray t fr)) (hl : xs.length = size) : Reads w size (.slice (some ⟨g, 0, none⟩) 1 c) 1 xs :=
  ⟨_, c, rfl, by omega, fun _ => ⟨_, rfl, fun j u hj => by rw [add_plain, cell_of_row _ _ _ _ _ _ h, Nat.zero_add]; simpa using hj⟩⟩
/-- the elements of a row can be read -/
theorem Vec.reads {w : World} {S : Nat → Prop} {k : Nat} {enc : α → List Value} (hk : ∀ x, (enc x).length = k) {v : Value} {L : List α} (h : Vec w S k enc v L) : Reads w k v L.length (L.flatMap enc) := by
  obtain ⟨a, cap, rfl, _, h3⟩ := h
  refine ⟨a, cap, rfl, flat_len hk L, fun h0 => ?_⟩
  obtain ⟨b, off, rfl, _, hb, hc⟩ := h3 h0
  refine ⟨⟨b, off, none⟩, rfl, fun j u hj => ?_⟩
  rw [add_plain]
  have hjl : j < L.length * k := by rw [← flat_len hk L]; exact (List.getElem?_eq_some_iff.1 hj).1
  have hk0 : 0 < k := by
    rcases Nat.eq_zero_or_pos k with h' | h'
    · rw [h', Nat.mul_zero] at hjl; omega
    · exact h'
  have hq : j / k < L.length := Nat.div_lt_of_lt_mul (by rw [Nat.mul_comm]; exact hjl)
  have hr : j % k < k := Nat.mod_lt _ hk0
  have e1 : j / k * k + j % k = j := Nat.div_add_mod' j k
  have hg := flat_get hk L (j / k) _ (List.getElem?_eq_getElem hq) (j % k) hr
  rw [e1, hj] at hg
  have := hc (j / k) _ (List.getElem?_eq_getElem hq) (j % k) u hg.symm
  rwa [Nat.add_assoc, e1] at this
theorem Vec.reads_take {w : World} {S : Nat → Prop} {k : Nat} {enc : α → List Value} (hk : ∀ x, (enc x).length = k) {a : Option Addr} {n cap : Nat} {L : List α} (h : Vec w S k enc (.slice a n cap) L) (m : Nat) (hm : m ≤ L.length) : Reads w k (.slice a m cap) m ((L.take m).flatMap enc) := by
  have h' : Vec w S k enc (.slice a m cap) (L.take m) := by
    obtain ⟨a', cap', h1, h2, h3⟩ := h
    cases h1
    refine ⟨a, cap, by rw [List.length_take, Nat.min_eq_left hm], by rw [List.length_take]; omega, fun h0 => ?_⟩
    rw [List.length_take] at h0
    obtain ⟨b, off, h4, h5, h5', h6⟩ := h3 (by omega)
    refine ⟨b, off, h4, h5, h5', fun j x hj => h6 j x ?_⟩
    rw [List.getElem?_take] at hj
    split at hj
    · exact hj
    · cases hj
  have := h'.reads hk
  rwa [List.length_take, Nat.min_eq_left hm] at this
section
variable {P : Program} {w : World} {o : Oper} {a : Act} {K : Act → World → Prop} {Q : Exit → Act → World → Prop}
/-- append of a list, as an operation -/
theorem wp_append_v (s x : Operand) (t : TypeId) (ho : o.op = .call { callee := .builtin .append, args := #[s, x], argTypes := #[t, t] })
    (e : TypeId) (z : Value) (size bytes : Nat) (enc : α → List Value) (hk : ∀ x, (enc x).length = size) (h1 : ∀ x, ∀ u ∈ enc x, u.oneCell' = true) (ht : P.underlying t = some (.slice e)) (hinfo : (P.info? e).map (fun i => (i.zero, i.size, i.bytes)) = some (some z, size, bytes))
    (hzs : z.cells.size = size) (hsz : 0 < size) (hby : bytes ≤ 128) {w0 : World} {v u : Value} {A B : List α} (hs : a.eval s = v) (hown : OwnV e size enc w0 v A w) (hx : a.eval x = u) (hr : Reads w size u B.length (B.flatMap enc)) (hn : A.length + B.length ≤ 1000000000)
    (h : ∀ v' w', OwnV e size enc w0 v' (A ++ B) w' → (∀ k o, some k ≠ v.ownBlock → w.heap[k]? = some o → w'.heap[k]? = some o) → w.heap.size ≤ w'.heap.size → K (a.put o.dst v') w') : Oper.wp P o a w K Q := by
  refine wp_append_reads s x t ho w0.heap.size e z size bytes ht hinfo hzs hsz v A.length (A.flatMap enc) hs hown.1 u B.length (B.flatMap enc) hx hr (fun u hu => ?_) (by unfold maxLen; omega) ?_ hown.2.size ?_
  · obtain ⟨y, _, hy⟩ := List.mem_flatMap.1 hu
    exact h1 y u hy
  · exact Nat.le_trans (Nat.mul_le_mul hn hby) (by decide)
  · intro v' w' ho' hg hat
    refine h v' w' ⟨by rw [List.length_append, List.flatMap_append]; exact ho', hown.2.grown hg hown.2.size fun k hk => ?_⟩ (fun k o hk hko => (hg.block k (lt_of_blk hko) hk).trans hko) hg.size
    rcases hown.1.2 with ⟨rfl, _⟩ | ⟨g, cap, cur, rfl, hg1, _⟩
    · simp [Value.ownBlock] at hk
    · have : g = k := by simpa [Value.ownBlock] using hk
      omega
end
end
section
open Go.RowKit
/-- copy: of elements of k cells each -/
theorem run_copy_rowK {P : Program} (w : World) (dT sT ty elem : TypeId) (k g o dLen dCap : Nat) (a : Addr) (sLen sCap : Nat) (cur : Array Value) (t : TypeId) (cs : List Value)
    (hu : P.underlying dT = some (.slice elem)) (hs : (P.info? elem).map (·.size) = some k)
    (hg : w.heap[g]? = some (.cells cur t (0, 0))) (hn : cs.length = Nat.min sLen dLen * k)
    (hsrc : ∀ j v, cs[j]? = some v → w.cell? (a.add j) = some v) (hfit : o + cs.length ≤ cur.size) (h1 : ∀ v ∈ cs, v.oneCell' = true) :
    (Builtin.copy_ #[dT, sT] ty #[.slice (some ⟨g, o, none⟩) dLen dCap, .slice (some a) sLen sCap]).run P w =
      .ok (goInt (Nat.min sLen dLen)) (w.setRow g (cur.toList.take o ++ cs ++ cur.toList.drop (o + cs.length)).toArray) := by
  have hl := run_loadCells_list (P := P) w a cs hsrc
  have hst := run_storeCells_at P g o t cs 0 cur w hg (by simpa using hfit) h1
  cases hq : P.info? elem with
  | none => simp [hq] at hs
  | some i =>
    have hi : i.size = k := by simpa [hq] using hs
    simp [Builtin.copy_, run_underlying hu, Builtin.lenOf, Builtin.firstCells, sizeOf, typeInfo, hq, hi, ← hn, hl, hst]
section
variable {P : Program}
theorem wp_copy_runJ (w : World) {o : Oper} {a : Act} {K : Act → World → Prop} {Q : Exit → Act → World → Prop} (d s : Operand) (t t' : TypeId)
    (ho : o.op = .call { callee := .builtin .copy, args := #[d, s], argTypes := #[t, t'] }) (v u : Value) (hd : a.eval d = v) (hs : a.eval s = u) {v' : Value} {w' : World}
    (hr : (Builtin.copy_ #[t, t'] o.type #[v, u]).run P w = .ok v' w') (h : K (a.put o.dst v') w') : o.wp P a w K Q := by
  unfold Oper.wp execOp
  simp only [ho, resolve, invoke, builtin, Sem.run_bind, Sem.run_pure, Result.andThen_ok, List.map_toArray, List.map_cons, List.map_nil, hd, hs, hr]
  exact h
theorem wpList_copy_runJ (w : World) {ops : Array Oper} {rest : List Oper} {o : Oper} {a : Act} {Q : Exit → Act → World → Prop} (hgd : o.guard = none) (d s : Operand) (t t' : TypeId)
    (ho : o.op = .call { callee := .builtin .copy, args := #[d, s], argTypes := #[t, t'] }) (v u : Value) (hd : a.eval d = v) (hs : a.eval s = u) {v' : Value} {w' : World}
    (hr : (Builtin.copy_ #[t, t'] o.type #[v, u]).run P w = .ok v' w') (h : wpList P ops Q rest (a.put o.dst v') w') : wpList P ops Q (o :: rest) a w :=
  wpList_plain hgd fun _ hK => wp_copy_runJ w d s t t' ho v u hd hs hr (hK _ _ h)
theorem step_copy_runJ {ops : Array Oper} {o : Oper} {a : Act} {w : World} {K : Act → World → Prop} {Q : Exit → Act → World → Prop} {E : Prop}
    (hg : o.guard = none) (d x : Operand) (dT sT : TypeId) (hop : o.op = Op.call { callee := Callee.builtin Builtin.copy, args := #[d, x], argTypes := #[dT, sT] })
    (v u : Value) (hd : a.eval d = v) (hx : a.eval x = u) {v' : Value} {w' : World} (hr : (Builtin.copy_ #[dT, sT] o.type #[v, u]).run P w = .ok v' w') (hK : K (a.put o.dst v') w') :
    if Region.wanted o (yielded ops a.tmps) = true then Oper.wp P o a w K Q else E := by
  have hw : Region.wanted o (yielded ops a.tmps) = true := by simp [Region.wanted, hg]
  rw [if_pos hw]
  unfold Oper.wp
  simp [execOp, hop, resolve, invoke, builtin, hd, hx, hr, Result.andThen]
  exact hK
end
/-- cells laid over a list -/
def lay {α : Type} (L : List α) (o : Nat) (cs : List α) : List α := L.take o ++ cs ++ L.drop (o + cs.length)
theorem lay_len {α : Type} (L : List α) (o : Nat) (cs : List α) (h : o + cs.length ≤ L.length) : (lay L o cs).length = L.length := by simp [lay]; omega
theorem lay_get {α : Type} (L : List α) (o : Nat) (cs : List α) (h : o + cs.length ≤ L.length) (j : Nat) : (lay L o cs)[j]? = if j < o then L[j]? else if j < o + cs.length then cs[j - o]? else L[j]? := by
  unfold lay
  have hm : (L.take o).length = o := by rw [List.length_take]; omega
  by_cases h1 : j < o
  · rw [if_pos h1, List.append_assoc, List.getElem?_append_left (by omega), List.getElem?_take, if_pos h1]
  · rw [if_neg h1, List.append_assoc, List.getElem?_append_right (by omega), hm]
    by_cases h2 : j < o + cs.length
    · rw [if_pos h2, List.getElem?_append_left (by omega)]
    · rw [if_neg h2, List.getElem?_append_right (by omega), List.getElem?_drop, show o + cs.length + (j - o - cs.length) = j by omega]
/-- shifted up in place, then the new cells -/
theorem lay_shift {α : Type} (Z X Y xs : List α) (i m : Nat) (hY : Y.length = m) (hX : X = xs.drop i) (hi : i ≤ xs.length) (hz : xs.length + m ≤ Z.length) (hp : Z.take xs.length = xs) :
    (lay (lay Z (i + m) X) i Y).take (xs.length + m) = xs.take i ++ Y ++ xs.drop i := by
  have hXl : X.length = xs.length - i := by rw [hX, List.length_drop]
  have l1 := lay_len Z (i + m) X (by omega)
  have hm : (xs.take i).length = i := by rw [List.length_take]; omega
  apply List.ext_getElem?
  intro j
  rw [List.getElem?_take, lay_get _ _ _ (by omega), lay_get _ _ _ (by omega), List.append_assoc]
  have hzj : ∀ j, j < xs.length → Z[j]? = xs[j]? := by
    intro j hj
    have := congrArg (fun l => l[j]?) hp
    simp only [List.getElem?_take, if_pos hj] at this
    exact this
  by_cases h1 : j < i
  · rw [if_pos (by omega), if_pos h1, if_pos (by omega), List.getElem?_append_left (by omega), List.getElem?_take, if_pos h1]
    exact hzj j (by omega)
  · rw [List.getElem?_append_right (by omega), hm]
    by_cases h2 : j < i + Y.length
    · rw [if_pos (by omega), if_neg h1, if_pos h2, List.getElem?_append_left (by omega)]
    · rw [List.getElem?_append_right (by omega), List.getElem?_drop]
      by_cases h3 : j < xs.length + m
      · rw [if_pos h3, if_neg h1, if_neg h2, if_neg (by omega), if_pos (by omega), hX, List.getElem?_drop, show i + (j - (i + m)) = i + (j - i - Y.length) by omega]
      · rw [if_neg h3, List.getElem?_eq_none (by omega)]
/-- a new row: the new cells, then what stood behind -/
theorem lay_grow {α : Type} (Z X Y xs : List α) (i m : Nat) (hY : Y.length = m) (hX : X = xs.drop i) (hi : i ≤ xs.length) (hz : xs.length + m ≤ Z.length) (hp : Z.take i = xs.take i) :
    (lay (lay Z i Y) (i + m) X).take (xs.length + m) = xs.take i ++ Y ++ xs.drop i := by
  have hXl : X.length = xs.length - i := by rw [hX, List.length_drop]
  have l1 := lay_len Z i Y (by omega)
  have hm : (xs.take i).length = i := by rw [List.length_take]; omega
  apply List.ext_getElem?
  intro j
  rw [List.getElem?_take, lay_get _ _ _ (by omega), lay_get _ _ _ (by omega), List.append_assoc]
  by_cases h1 : j < i
  · rw [if_pos (by omega), if_pos (by omega), if_pos h1, List.getElem?_append_left (by omega)]
    have := congrArg (fun l => l[j]?) hp
    simp only [List.getElem?_take, if_pos h1] at this
    rw [List.getElem?_take, if_pos h1]; exact this
  · rw [List.getElem?_append_right (by omega), hm]
    by_cases h2 : j < i + Y.length
    · rw [if_pos (by omega), if_pos (by omega), if_neg h1, if_pos h2, List.getElem?_append_left (by omega)]
    · rw [List.getElem?_append_right (by omega), List.getElem?_drop]
      by_cases h3 : j < xs.length + m
      · rw [if_pos h3, if_neg (by omega), if_pos (by omega), hX, List.getElem?_drop, show i + (j - (i + m)) = i + (j - i - Y.length) by omega]
      · rw [if_neg h3, List.getElem?_eq_none (by omega)]
theorem flat_takeK {α : Type} {k : Nat} {enc : α → List Value} (hk : ∀ x, (enc x).length = k) : ∀ (L : List α) (i : Nat), (L.take i).flatMap enc = (L.flatMap enc).take (i * k)
  | [], i => by simp
  | x :: L, 0 => by simp
  | x :: L, i + 1 => by
    rw [List.take_succ_cons, List.flatMap_cons, List.flatMap_cons, flat_takeK hk L i, List.take_append, hk, Nat.succ_mul, show i * k + k - k = i * k by omega, List.take_of_length_le (l := enc x) (by rw [hk]; omega)]
theorem flat_dropK {α : Type} {k : Nat} {enc : α → List Value} (hk : ∀ x, (enc x).length = k) : ∀ (L : List α) (i : Nat), (L.drop i).flatMap enc = (L.flatMap enc).drop (i * k)
  | [], i => by simp
  | x :: L, 0 => by simp
  | x :: L, i + 1 => by
    rw [List.drop_succ_cons, List.flatMap_cons, flat_dropK hk L i, List.drop_append, hk, Nat.succ_mul, show i * k + k - k = i * k by omega, List.drop_eq_nil_of_le (show (enc x).length ≤ i * k + k by rw [hk]; omega)]; rfl
/-- blocks from B on, but for the row's own -/
def OffRow (B : Nat) (v : Value) (x : Nat) : Prop := B ≤ x ∧ some x ≠ v.ownBlock
section
variable {α : Type} {P : Program} {w : World} {ops : Array Oper} {rest : List Oper} {o : Oper} {a : Act} {Q : Exit → Act → World → Prop}
/-- append of a list; where the row lies afterwards -/
theorem wpList_append_at (hgd : o.guard = none) (s x : Operand) (t : TypeId) (ho : o.op = .call { callee := .builtin .append, args := #[s, x], argTypes := #[t, t] })
    (e : TypeId) (z : Value) (size bytes : Nat) (enc : α → List Value) (hk : ∀ x, (enc x).length = size) (h1 : ∀ x, ∀ u ∈ enc x, u.oneCell' = true) (ht : P.underlying t = some (.slice e)) (hinfo : (P.info? e).map (fun i => (i.zero, i.size, i.bytes)) = some (some z, size, bytes))
    (hzs : z.cells.size = size) (hsz : 0 < size) (hby : bytes ≤ 128) {w0 : World} {v u : Value} {A B : List α} (hs : a.eval s = v) (hown : OwnV e size enc w0 v A w) (hx : a.eval x = u) (hr : Reads w size u B.length (B.flatMap enc)) (hn : A.length + B.length ≤ 1000000000)
    (h : ∀ v' w', OwnV e size enc w0 v' (A ++ B) w' → (∀ k o, some k ≠ v.ownBlock → w.heap[k]? = some o → w'.heap[k]? = some o) → w.heap.size ≤ w'.heap.size → (v'.ownBlock = none ∨ v.ownBlock = v'.ownBlock ∨ v'.ownBlock = some w.heap.size) → wpList P ops Q rest (a.put o.dst v') w') : wpList P ops Q (o :: rest) a w := by
  refine wpList_plain hgd fun K hK => ?_
  refine wp_append_reads s x t ho w0.heap.size e z size bytes ht hinfo hzs hsz v A.length (A.flatMap enc) hs hown.1 u B.length (B.flatMap enc) hx hr (fun u hu => ?_) (by unfold maxLen; omega) ?_ hown.2.size ?_
  · obtain ⟨y, _, hy⟩ := List.mem_flatMap.1 hu
    exact h1 y u hy
  · exact Nat.le_trans (Nat.mul_le_mul hn hby) (by decide)
  · intro v' w' ho' hg hat
    refine hK _ _ (h v' w' ⟨by rw [List.length_append, List.flatMap_append]; exact ho', hown.2.grown hg hown.2.size fun k hk => ?_⟩ (fun k o hk hko => (hg.block k (lt_of_blk hko) hk).trans hko) hg.size hat)
    rcases hown.1.2 with ⟨rfl, _⟩ | ⟨g, cap, cur, rfl, hg1, _⟩
    · simp [Value.ownBlock] at hk
    · have : g = k := by simpa [Value.ownBlock] using hk
      omega
end
end
section
abbrev BkP := Int × List Int
def addB : List BkP → Int → Int → List BkP
  | [], k, x => [(k, [x])]
  | b :: L, k, x => if b.1 < k then b :: addB L k x else if b.1 = k then (b.1, b.2 ++ [x]) :: L else (k, [x]) :: b :: L
theorem addB_at (k x : Int) : ∀ (L : List BkP) (i : Nat) (hi : i < L.length), (∀ t, t < i → (L.getD t default).1 < k) → (L.getD i default).1 = k → addB L k x = L.set i (L[i].1, L[i].2 ++ [x]) := by
  intro L
  induction L with
  | nil => intro i hi; simp at hi
  | cons b L ih =>
    intro i hi hl he
    cases i with
    | zero =>
      have he' : b.1 = k := by simpa using he
      unfold addB
      rw [if_neg (by omega), if_pos he']; rfl
    | succ i =>
      have h0 : b.1 < k := by simpa using hl 0 (by omega)
      unfold addB
      rw [if_pos h0, ih i (by simpa using hi) (fun t ht => by simpa using hl (t + 1) (by omega)) (by simpa using he)]
      rfl
theorem addB_new (k x : Int) : ∀ (L : List BkP) (i : Nat), i ≤ L.length → (∀ t, t < i → (L.getD t default).1 < k) → (i < L.length → k < (L.getD i default).1) → addB L k x = L.take i ++ (k, [x]) :: L.drop i := by
  intro L
  induction L with
  | nil => intro i hi _ _; simp [addB]
  | cons b L ih =>
    intro i hi hl hg
    cases i with
    | zero =>
      have h0 : k < b.1 := by simpa using hg (by simp)
      unfold addB
      rw [if_neg (by omega), if_neg (by omega)]; rfl
    | succ i =>
      have h0 : b.1 < k := by simpa using hl 0 (by omega)
      unfold addB
      rw [if_pos h0, ih i (by simpa using hi) (fun t ht => by simpa using hl (t + 1) (by omega)) (fun h => by simpa using hg (by simpa using h))]
      rfl
/-- ascending hashes -/
def AscBk (L : List BkP) : Prop := L.Pairwise fun a b => a.1 < b.1
theorem addB_mem {L : List BkP} {k x : Int} {b : BkP} (h : b ∈ addB L k x) : b.1 = k ∨ b ∈ L := by
  induction L with
  | nil => simp [addB] at h; left; rw [h]
  | cons c L ih =>
    unfold addB at h
    split at h
    · rcases List.mem_cons.1 h with h1 | h1
      · exact .inr (by rw [h1]; exact List.mem_cons_self)
      · rcases ih h1 with h2 | h2
        · exact .inl h2
        · exact .inr (List.mem_cons_of_mem _ h2)
    · split at h
      · next h2 =>
        rcases List.mem_cons.1 h with h1 | h1
        · exact .inl (by rw [h1]; exact h2)
        · exact .inr (List.mem_cons_of_mem _ h1)
      · rcases List.mem_cons.1 h with h1 | h1
        · exact .inl (by rw [h1])
        · exact .inr h1
theorem AscBk.add {L : List BkP} (h : AscBk L) (k x : Int) : AscBk (addB L k x) := by
  induction L with
  | nil => simp [addB, AscBk]
  | cons c L ih =>
    have h1 := List.pairwise_cons.1 h
    unfold addB
    split
    · next hc =>
      refine List.pairwise_cons.2 ⟨fun b hb => ?_, ih h1.2⟩
      rcases addB_mem hb with h2 | h2
      · rw [h2]; exact hc
      · exact h1.1 b h2
    · split
      · exact List.pairwise_cons.2 ⟨h1.1, h1.2⟩
      · next hc hc2 =>
        refine List.pairwise_cons.2 ⟨fun b hb => ?_, h⟩
        rcases List.mem_cons.1 hb with h2 | h2
        · rw [h2]; show k < c.1; omega
        · have := h1.1 b h2; show k < b.1; omega
theorem AscBk.le {L : List BkP} (h : AscBk L) : ∀ a b, a ≤ b → b < L.length → (L.getD a default).1 ≤ (L.getD b default).1 := by
  intro a b hab hb
  rw [List.getD, List.getD, List.getElem?_eq_getElem hb, List.getElem?_eq_getElem (by omega)]
  by_cases e : a = b
  · subst e; exact Int.le_refl _
  · exact Int.le_of_lt (List.pairwise_iff_getElem.1 h a b (by omega) hb (by omega))
/-- the blocks of records: each its hash, if it has one, and its ID -/
def addAll (L : List BkP) : List ((Int × Bool) × Int) → List BkP
  | [] => L
  | (h, x) :: R => addAll (if h.2 = true then addB L h.1 x else L) R
theorem AscBk.all : ∀ {R : List ((Int × Bool) × Int)} {L : List BkP}, AscBk L → AscBk (addAll L R)
  | [], _, h => h
  | (a, x) :: R, L, h => by
    unfold addAll
    refine AscBk.all ?_
    split
    · exact h.add _ _
    · exact h
theorem addB_len (L : List BkP) (k x : Int) : (addB L k x).length ≤ L.length + 1 := by
  induction L with
  | nil => simp [addB]
  | cons c L ih =>
    unfold addB
    split
    · simp only [List.length_cons]; omega
    · split <;> simp
end
section
set_option maxRecDepth 100000
open Go.RowKit
structure BkV where
  h : Int
  a : Option Addr
  n : Nat
  c : Nat
  ids : List Int
instance : Inhabited BkV := ⟨⟨0, none, 0, 0, []⟩⟩
abbrev encBk (x : BkV) : List Value := [.int .u64 x.h, .slice x.a x.n x.c]
abbrev idV (x : BkV) : Value := .slice x.a x.n x.c
def pB (x : BkV) : BkP := (x.h, x.ids)
structure BRow (w0 : World) (v : Value) (C : List BkV) (w : World) : Prop where
  own : OwnV 93 2 encBk w0 v C w
  ids : ∀ x ∈ C, w.ownsRow w0.heap.size 3 1 (idV x) x.ids.length (x.ids.map (Value.int .i64))
  off : ∀ x ∈ C, (idV x).ownBlock = none ∨ (idV x).ownBlock ≠ v.ownBlock
  apart : C.Pairwise fun x y => (idV x).ownBlock = none ∨ (idV x).ownBlock ≠ (idV y).ownBlock
theorem BRow.nil {w0 w : World} (hb : Below w0.heap.size w0 w) : BRow w0 (.slice none 0 0) [] w := ⟨OwnV.nil hb, fun x h => by simp at h, fun x h => by simp at h, List.Pairwise.nil⟩
theorem BRow.below {w0 w w' : World} {v : Value} {C : List BkV} (h : BRow w0 v C w) (hb : Below w.heap.size w w') : BRow w0 v C w' :=
  ⟨h.own.below hb, fun x hx => own_below' (h.ids x hx) hb, h.off, h.apart⟩
/-- a row's blocks lie where they are kept -/
theorem own_keptR {w w' : World} {B e size n : Nat} {v : Value} {xs : List Value} {r : Option Nat} (h : w.ownsRow B e size v n xs) (hk : ∀ k o, some k ≠ r → w.heap[k]? = some o → w'.heap[k]? = some o) (hr : v.ownBlock = none ∨ v.ownBlock ≠ r) : w'.ownsRow B e size v n xs := by
  refine ⟨h.1, ?_⟩
  rcases h.2 with h0 | ⟨g, cap, cur, hv, hg, hh, rest⟩
  · exact .inl h0
  · refine .inr ⟨g, cap, cur, hv, hg, hk g _ ?_ hh, rest⟩
    rcases hr with h1 | h1
    · rw [hv] at h1; cases h1
    · rw [hv] at h1; exact h1
theorem BRow.put {w0 w w' : World} {v v' : Value} {C : List BkV} (h : BRow w0 v C w) (i : Nat) (hi : i ≤ C.length) (k : Int) (ho : OwnV 93 2 encBk w0 v' (C.take i ++ ⟨k, none, 0, 0, []⟩ :: C.drop i) w')
    (hk : ∀ k o, some k ≠ v.ownBlock → w.heap[k]? = some o → w'.heap[k]? = some o) (hv : v'.ownBlock = none ∨ v.ownBlock = v'.ownBlock ∨ v'.ownBlock = some w.heap.size) : BRow w0 v' (C.take i ++ ⟨k, none, 0, 0, []⟩ :: C.drop i) w' := by
  have hm : ∀ x, x ∈ C.take i ++ ⟨k, none, 0, 0, []⟩ :: C.drop i → x = ⟨k, none, 0, 0, []⟩ ∨ x ∈ C := by
    intro x hx
    rcases List.mem_append.1 hx with h1 | h1
    · exact .inr (List.mem_of_mem_take h1)
    · rcases List.mem_cons.1 h1 with h2 | h2
      · exact .inl h2
      · exact .inr (List.mem_of_mem_drop h2)
  refine ⟨ho, fun x hx => ?_, fun x hx => ?_, ?_⟩
  · rcases hm x hx with rfl | h1
    · exact ⟨rfl, .inl ⟨rfl, rfl⟩⟩
    · exact own_keptR (h.ids x h1) hk (h.off x h1)
  · rcases hm x hx with rfl | h1
    · exact .inl rfl
    · rcases h.off x h1 with h2 | h2
      · exact .inl h2
      · rcases hv with h3 | h3 | h3
        · rw [h3]
          by_cases h4 : (idV x).ownBlock = none
          · exact .inl h4
          · exact .inr h4
        · rw [← h3]; exact .inr h2
        · right
          rw [h3]
          intro e
          have := ((h.ids x h1).lt _ e).2
          omega
  · have hs : ∀ x y : BkV, ((idV x).ownBlock = none ∨ (idV x).ownBlock ≠ (idV y).ownBlock) → ((idV y).ownBlock = none ∨ (idV y).ownBlock ≠ (idV x).ownBlock) := by
      intro x y h1
      rcases h1 with h1 | h1
      · by_cases h2 : (idV y).ownBlock = none
        · exact .inl h2
        · exact .inr (by rw [h1]; exact h2)
      · exact .inr (Ne.symm h1)
    have h1 := h.apart
    rw [← List.take_append_drop i C] at h1
    have h2 := List.pairwise_append.1 h1
    refine List.pairwise_append.2 ⟨h2.1, List.pairwise_cons.2 ⟨fun y _ => .inl rfl, h2.2.1⟩, fun x hx y hy => ?_⟩
    rcases List.mem_cons.1 hy with rfl | hy'
    · exact hs _ _ (.inl rfl)
    · exact h2.2.2 x hx y hy'
theorem own_set {w : World} {B e n : Nat} {v : Value} {C : List BkV} {g : Nat} (h : w.ownsRow B e 2 v n (C.flatMap encBk)) (hg : v.ownBlock = some g) (j : Nat) (hj : j < C.length) (x : BkV) (hx : x.h = C[j].h) :
    (w.setCell ⟨g, j * 2 + 1, none⟩ (idV x)).ownsRow B e 2 v n ((C.set j x).flatMap encBk) := by
  have hl : (C.flatMap encBk).length = C.length * 2 := flat_len (k := 2) (enc := encBk) (fun _ => rfl) C
  refine ⟨by rw [← h.1, hl, flat_len (k := 2) (enc := encBk) (fun _ => rfl), List.length_set], ?_⟩
  rcases h.2 with ⟨hv, _⟩ | ⟨g', cap, cur, hv, hB, hh, h1, h2, h3, h4⟩
  · rw [hv] at hg; cases hg
  · rw [hv] at hg
    have hgg : g' = g := by simpa [Value.ownBlock] using hg
    subst hgg
    refine .inr ⟨g', cap, cur.setIfInBounds (j * 2 + 1) (idV x), hv, hB, blk_set hh, h1, h2, by simpa using h3, ?_⟩
    have hn : n * 2 = C.length * 2 := by rw [← h.1, hl]
    rw [Array.toList_setIfInBounds, hn]
    rw [hn] at h4
    apply List.ext_getElem?
    intro t
    have hcur : ∀ t, t < C.length * 2 → cur.toList[t]? = (C.flatMap encBk)[t]? := by
      intro t ht
      have := congrArg (fun l => l[t]?) h4
      simp only [List.getElem?_take, if_pos ht] at this
      exact this
    have hcl : C.length * 2 ≤ cur.toList.length := by
      have := congrArg List.length h4
      rw [List.length_take, hl] at this
      omega
    rw [List.getElem?_take]
    by_cases ht : t < C.length * 2
    · rw [if_pos ht, List.getElem?_set]
      have hq : t / 2 < C.length := by omega
      have e1 : t / 2 * 2 + t % 2 = t := by omega
      have hset := flat_get (k := 2) (enc := encBk) (fun _ => rfl) (C.set j x) (t / 2) ((C.set j x)[t / 2]'(by simpa using hq)) (List.getElem?_eq_getElem (by simpa using hq)) (t % 2) (by omega)
      have hold := flat_get (k := 2) (enc := encBk) (fun _ => rfl) C (t / 2) C[t / 2] (List.getElem?_eq_getElem hq) (t % 2) (by omega)
      rw [e1] at hset hold
      rw [hset, hcur t ht, hold]
      by_cases hjt : j = t / 2
      · subst hjt
        rw [List.getElem_set_self]
        rcases (by omega : t % 2 = 0 ∨ t % 2 = 1) with h0 | h0
        · rw [if_neg (by omega), h0]
          show some (Value.int .u64 C[t / 2].h) = some (Value.int .u64 x.h)
          rw [hx]
        · rw [if_pos (by omega), if_pos (by omega), h0]; rfl
      · rw [List.getElem_set_ne hjt, if_neg (by omega)]
    · rw [if_neg ht, List.getElem?_eq_none (by rw [flat_len (k := 2) (enc := encBk) (fun _ => rfl), List.length_set]; omega)]
/-- an ID more in block j -/
theorem BRow.add {w0 w w1 : World} {v : Value} {C : List BkV} (h : BRow w0 v C w) (j : Nat) (hj : j < C.length) (g : Nat) (hg : v.ownBlock = some g) (u : Value) (id : Int) (a : Option Addr) (n c : Nat) (hu : u = .slice a n c)
    (ho : w1.ownsRow w0.heap.size 3 1 u (C[j].ids.length + 1) ((C[j].ids ++ [id]).map (Value.int .i64)))
    (hk : ∀ k o, some k ≠ (idV C[j]).ownBlock → w.heap[k]? = some o → w1.heap[k]? = some o) (hb : Below w0.heap.size w0 w1) (hv : (idV C[j]).ownBlock = u.ownBlock ∨ u.ownBlock = some w.heap.size) :
    BRow w0 v (C.set j ⟨C[j].h, a, n, c, C[j].ids ++ [id]⟩) (w1.setCell ⟨g, j * 2 + 1, none⟩ u) := by
  subst hu
  obtain ⟨B, hB⟩ : ∃ B, w0.heap.size = B := ⟨_, rfl⟩
  have hgw := h.own.1.lt g hg
  have hoff := h.off C[j] (List.getElem_mem hj)
  have hug : ∀ k, (Value.slice a n c).ownBlock = some k → k ≠ g := by
    intro k hk' e
    subst e
    rcases hv with h1 | h1
    · rw [← h1] at hk'
      rcases hoff with h2 | h2
      · rw [h2] at hk'; cases hk'
      · rw [hk', hg] at h2; exact h2 rfl
    · rw [h1] at hk'
      have : w.heap.size = k := by simpa using hk'
      omega
  have hrow1 := own_keptR h.own.1 hk (by
    by_cases h0 : v.ownBlock = none
    · exact .inl h0
    · right
      rcases hoff with h2 | h2
      · rw [h2]; exact h0
      · exact Ne.symm h2)
  have hset := own_set (x := ⟨C[j].h, a, n, c, C[j].ids ++ [id]⟩) hrow1 hg j hj rfl
  have hown : OwnV 93 2 encBk w0 v (C.set j ⟨C[j].h, a, n, c, C[j].ids ++ [id]⟩) (w1.setCell ⟨g, j * 2 + 1, none⟩ (.slice a n c)) := by
    refine ⟨?_, hb.setCell (p := ⟨g, j * 2 + 1, none⟩) hgw.1 _⟩
    rw [List.length_set]
    exact hset
  have hfar : ∀ {e size m : Nat} {u : Value} {xs : List Value}, w1.ownsRow w0.heap.size e size u m xs → (u.ownBlock = none ∨ u.ownBlock ≠ some g) → (w1.setCell ⟨g, j * 2 + 1, none⟩ (.slice a n c)).ownsRow w0.heap.size e size u m xs := by
    intro e size n' u xs h1 h2
    refine own_keptR (r := some g) h1 (fun k o hk' hko => ?_) h2
    exact blk_far hko (fun e => hk' (by rw [e]))
  have hap : ∀ i k (hi : i < C.length) (hk2 : k < C.length), i ≠ k → (idV C[i]).ownBlock = none ∨ (idV C[i]).ownBlock ≠ (idV C[k]).ownBlock := by
    intro i k hi hk2 hne
    rcases Nat.lt_or_ge i k with h1 | h1
    · exact List.pairwise_iff_getElem.1 h.apart i k hi hk2 h1
    · rcases List.pairwise_iff_getElem.1 h.apart k i hk2 hi (by omega) with h2 | h2
      · by_cases h3 : (idV C[i]).ownBlock = none
        · exact .inl h3
        · exact .inr (by rw [h2]; exact h3)
      · exact .inr (Ne.symm h2)
  have hlt : ∀ i (hi : i < C.length) b, (idV C[i]).ownBlock = some b → b < w.heap.size := fun i hi b e => ((h.ids C[i] (List.getElem_mem hi)).lt b e).2
  have hnew : ∀ i (hi : i < C.length), i ≠ j → (Value.slice a n c).ownBlock = none ∨ (Value.slice a n c).ownBlock ≠ (idV C[i]).ownBlock := by
    intro i hi hij
    rcases hv with h1 | h1
    · rw [← h1]; exact hap j i hj hi (Ne.symm hij)
    · right
      rw [h1]
      intro e
      have := hlt i hi _ e.symm
      omega
  have hmem : ∀ {x : BkV}, x ∈ C.set j ⟨C[j].h, a, n, c, C[j].ids ++ [id]⟩ → x = ⟨C[j].h, a, n, c, C[j].ids ++ [id]⟩ ∨ ∃ i, ∃ hi : i < C.length, i ≠ j ∧ x = C[i] := by
    intro x hx
    obtain ⟨i, hi, rfl⟩ := List.mem_iff_getElem.1 hx
    by_cases hij : j = i
    · subst hij; left; rw [List.getElem_set_self]
    · right
      exact ⟨i, by simpa using hi, Ne.symm hij, by rw [List.getElem_set_ne hij]⟩
  refine ⟨hown, fun x hx => ?_, fun x hx => ?_, ?_⟩
  · rcases hmem hx with rfl | ⟨i, hi, hij, rfl⟩
    · refine hfar (show w1.ownsRow w0.heap.size 3 1 (.slice a n c) (C[j].ids ++ [id]).length ((C[j].ids ++ [id]).map (Value.int .i64)) by rw [List.length_append]; exact ho) ?_
      by_cases h0 : (Value.slice a n c).ownBlock = none
      · exact .inl h0
      · exact .inr fun e => hug g e rfl
    · refine hfar (own_keptR (h.ids C[i] (List.getElem_mem hi)) hk (hap i j hi hj hij)) ?_
      rw [← hg]; exact h.off C[i] (List.getElem_mem hi)
  · rcases hmem hx with rfl | ⟨i, hi, hij, rfl⟩
    · by_cases h0 : (Value.slice a n c).ownBlock = none
      · exact .inl h0
      · exact .inr fun e => hug g (by rw [← hg]; exact e) rfl
    · exact h.off C[i] (List.getElem_mem hi)
  · refine List.pairwise_iff_getElem.2 fun p q hp hq hpq => ?_
    have hp' : p < C.length := by simpa using hp
    have hq' : q < C.length := by simpa using hq
    by_cases e1 : j = p
    · subst e1
      rw [List.getElem_set_self, List.getElem_set_ne (by omega)]
      exact hnew q hq' (by omega)
    · by_cases e2 : j = q
      · subst e2
        rw [List.getElem_set_ne e1, List.getElem_set_self]
        rcases hnew p hp' (by omega) with h1 | h1
        · by_cases h2 : (idV C[p]).ownBlock = none
          · exact .inl h2
          · exact .inr (by rw [show (idV ⟨C[j].h, a, n, c, C[j].ids ++ [id]⟩).ownBlock = none from h1]; exact h2)
        · exact .inr (Ne.symm h1)
      · rw [List.getElem_set_ne e1, List.getElem_set_ne e2]
        exact hap p q hp' hq' (by omega)
/-- blocks in memory: each its hash and the row of its IDs -/
abbrev encIn (x : Int) : List Value := [.int .i64 x]
def BlocksAt (w : World) (S : Nat → Prop) (v : Value) (L : List BkP) : Prop := ∃ C : List BkV, Vec w S 2 encBk v C ∧ C.map pB = L ∧ ∀ x ∈ C, Vec w S 1 encIn (idV x) x.ids
theorem encIn_flat (l : List Int) : l.flatMap encIn = l.map (Value.int .i64) := by
  induction l with
  | nil => rfl
  | cons x l ih => rw [List.flatMap_cons, ih]; rfl
theorem BRow.at {w0 w : World} {v : Value} {C : List BkV} (h : BRow w0 v C w) : BlocksAt w (fun b => w0.heap.size ≤ b) v (C.map pB) :=
  ⟨C, OwnV.vec (size := 2) (enc := encBk) (fun _ => rfl) h.own, rfl, fun x hx => Vec.owns (k := 1) (enc := encIn) (fun _ => rfl) (by rw [encIn_flat]; exact h.ids x hx) fun b hb _ => hb⟩
theorem BlocksAt.move {w w' : World} {S T : Nat → Prop} {v : Value} {L : List BkP} (h : BlocksAt w S v L) (hz : w.heap.size ≤ w'.heap.size) (hS : ∀ b, b < w.heap.size → S b → w'.heap[b]? = w.heap[b]? ∧ T b) : BlocksAt w' T v L := by
  obtain ⟨C, h1, h2, h3⟩ := h
  exact ⟨C, h1.move hz hS, h2, fun x hx => (h3 x hx).move hz hS⟩
theorem BlocksAt.below {w w' : World} {S : Nat → Prop} {v : Value} {L : List BkP} (h : BlocksAt w S v L) (hb : Below w.heap.size w w') : BlocksAt w' S v L := h.move hb.size fun b hb' hs => ⟨hb.block b hb', hs⟩
theorem BlocksAt.slice {w : World} {S : Nat → Prop} {v : Value} {L : List BkP} (h : BlocksAt w S v L) : ∃ a cap, v = .slice a L.length cap := by
  obtain ⟨C, h1, h2, _⟩ := h
  obtain ⟨a, cap, rfl⟩ := h1.slice
  exact ⟨a, cap, by rw [← h2, List.length_map]⟩
end
section
set_option maxRecDepth 100000
open Go.RowKit
theorem infoBk : (Tryz.prog.info? 93).map (fun i => (i.zero, i.size, i.bytes)) = some (some (.agg #[.int .u64 0, .slice none 0 0]), 2, 32) := by kernel_rfl
theorem one_encBk : ∀ x : BkV, ∀ u ∈ encBk x, u.oneCell' = true := by intro x u hu; simp at hu; rcases hu with rfl | rfl <;> rfl
def newBk (k : Int) : BkV := ⟨k, none, 0, 0, []⟩
def InsPost (w0 : World) (G : List BkV) (v : Value) (w : World) (e : Ending) (w' : World) : Prop :=
  ∃ v', e = .returned v' ∧ OwnV 93 2 encBk w0 v' G w' ∧ (∀ k o, some k ≠ v.ownBlock → w.heap[k]? = some o → w'.heap[k]? = some o) ∧ w.heap.size ≤ w'.heap.size ∧ (v'.ownBlock = none ∨ v.ownBlock = v'.ownBlock ∨ v'.ownBlock = some w.heap.size)
/-- at the end -/
theorem insert_end (w0 : World) (v : Value) (A : List BkV) (k : Int) (b : Nat) (w : World) (h : OwnV 93 2 encBk w0 v A w) (hx : w.heap[b]? = some (.cells #[.int .u64 k, .slice none 0 0] 93 (0, 0))) (hn : A.length ≤ 1000000) :
    Calls Tryz.prog 114 #[v, .int .i64 A.length, .slice (some ⟨b, 0, none⟩) 1 1] w (InsPost w0 (A ++ [newBk k]) v w) := by
  have HO := Lib.hid h
  have HRd := Lib.hid (show Reads w 2 (.slice (some ⟨b, 0, none⟩) 1 1) [newBk k].length ([newBk k].flatMap encBk) from reads_block (t := 93) (fr := (0, 0)) hx rfl)
  have hcn : A.length + [newBk k].length ≤ 1000000000 := by simp only [List.length_cons, List.length_nil]; omega
  rcases h.form with ⟨rfl, rfl⟩ | ⟨g, cap, rfl, h1, h2, hg⟩
  · clear h hx
    go_enter Tryz.func114, Tryz.ntmps114
    go_wp2_with (at_builtin; refine wpList_append_at rfl (.tmp 23) (.tmp 24) 59 rfl 93 (.agg #[.int .u64 0, .slice none 0 0]) 2 32 encBk (fun _ => rfl) one_encBk Tryz.underlying59 infoBk rfl (by decide) (by decide) (w0 := w0) (v := .slice none 0 0) (A := ([] : List BkV)) (B := [newBk k]) rfl HO.out rfl HRd.out hcn ?_; intro v4 w4 ho4 hk4 hz4 hat4)
    go_ret
    exact ⟨v4, rfl, ho4, hk4, hz4, hat4⟩
  · clear h hx
    have hm63 : cap ≤ 9223372036854775807 := by unfold maxLen at h2; omega
    clear h2
    go_enter Tryz.func114, Tryz.ntmps114
    go_wp2_with (at_builtin; refine wpList_append_at rfl (.tmp 23) (.tmp 24) 59 rfl 93 (.agg #[.int .u64 0, .slice none 0 0]) 2 32 encBk (fun _ => rfl) one_encBk Tryz.underlying59 infoBk rfl (by decide) (by decide) (w0 := w0) (v := .slice (some ⟨g, 0, none⟩) A.length cap) (A := A) (B := [newBk k]) rfl HO.out rfl HRd.out hcn ?_; intro v4 w4 ho4 hk4 hz4 hat4)
    all_goals go_ret
    all_goals exact ⟨v4, rfl, ho4, hk4, hz4, hat4⟩
set_option maxHeartbeats 4000000 in
/-- in the row, in place -/
theorem insert_room (w0 : World) (g cap : Nat) (A : List BkV) (i : Nat) (k : Int) (b : Nat) (w : World) (h : OwnV 93 2 encBk w0 (.slice (some ⟨g, 0, none⟩) A.length cap) A w) (hx : w.heap[b]? = some (.cells #[.int .u64 k, .slice none 0 0] 93 (0, 0))) (hbg : b ≠ g) (hn : A.length ≤ 1000000) (hi : i < A.length) (hr : A.length + 1 ≤ cap) :
    Calls Tryz.prog 114 #[.slice (some ⟨g, 0, none⟩) A.length cap, .int .i64 i, .slice (some ⟨b, 0, none⟩) 1 1] w (InsPost w0 (A.take i ++ newBk k :: A.drop i) (.slice (some ⟨g, 0, none⟩) A.length cap) w) := by
  obtain ⟨n, hnl⟩ : ∃ n, A.length = n := ⟨_, rfl⟩
  have HB := Lib.hid h.2
  rcases h.1.2 with ⟨h0, _⟩ | ⟨g', cap', cur, h0, hg0, hg, h1, h2, h3, h4⟩
  · cases h0
  cases h0
  rw [hnl] at h hi hn hr h1 h4 ⊢
  have hov : ∀ (W : World) oo lb cb, W.heap[b]? = some (.cells #[.int .u64 k, .slice none 0 0] 93 (0, 0)) → W.heap[g]? = some (.cells cur 93 (0, 0)) → (callFunc 169 #[.slice (some ⟨b, 0, none⟩) 1 1, .slice (some ⟨g, oo, none⟩) lb cb]).run Tryz.prog W = .ok (.value (.bool false)) W := fun W oo lb cb hxW hgW => by
    rw [run_callFunc_extern Tryz.func169 (by kernel_rfl) (by kernel_rfl) (by kernel_rfl) (e := Extern.SlicesOverlaps.overlaps #[59, 59] #[4]) (by kernel_rfl),
      Lib.run_overlaps_apart W 59 4 93 Tryz.underlying59 2 (fun _ => rfl) ⟨b, 0, none⟩ ⟨g, oo, none⟩ 1 1 lb cb hbg 93 93 2 cur.size (by simp [World.shape?, hxW]) (by simp [World.shape?, hgW]) (by omega) (by simp [World.frozen?, hxW]) (by simp [World.frozen?, hxW])]
    rfl
  have hm63 : cap ≤ 9223372036854775807 := by unfold maxLen at h2; omega
  have HCap := Lib.hid h2
  obtain ⟨xs, hxs⟩ : ∃ xs, A.flatMap encBk = xs := ⟨_, rfl⟩
  rw [hxs] at h4
  have hxl : xs.length = n * 2 := by rw [← hxs, flat_len (k := 2) (enc := encBk) (fun _ => rfl), hnl]
  have hx1 : ∀ u ∈ xs, u.oneCell' = true := by rw [← hxs]; intro u hu; obtain ⟨y, _, hy⟩ := List.mem_flatMap.1 hu; exact one_encBk y u hy
  have hcl : n * 2 ≤ cur.toList.length := by rw [Array.length_toList, h3]; omega
  have hcg : ∀ (W : World) (c : List Value), W.heap[g]? = some (.cells c.toArray 93 (0, 0)) → ∀ j u, c[j]? = some u → W.cell? ⟨g, j, none⟩ = some u := fun W c hW j u hu => by rw [cell_of_row _ _ _ _ _ _ hW, List.getElem?_toArray]; exact hu
  have hsz : (Tryz.prog.info? 93).map (·.size) = some 2 := by kernel_rfl
  have hcp1 : ∀ (W : World), W.heap[g]? = some (.cells cur 93 (0, 0)) → ∀ ty dc sc, (Builtin.copy_ #[59, 59] ty #[.slice (some ⟨g, (i + 1) * 2, none⟩) (n - i) dc, .slice (some ⟨g, i * 2, none⟩) (n + 1 - i) sc]).run Tryz.prog W = .ok (goInt (Nat.min (n + 1 - i) (n - i))) (W.setRow g (lay cur.toList ((i + 1) * 2) (xs.drop (i * 2))).toArray) := fun W hW ty dc sc =>
    run_copy_rowK W _ _ ty 93 2 g ((i + 1) * 2) (n - i) dc ⟨g, i * 2, none⟩ (n + 1 - i) sc cur 93 (xs.drop (i * 2)) Tryz.underlying59 hsz hW (by have e : Nat.min (n + 1 - i) (n - i) = n - i := Nat.min_eq_right (by omega); rw [List.length_drop, hxl, e]; omega)
      (fun j u hj => by
        rw [add_plain]
        refine hcg W cur.toList (by simpa using hW) _ _ ?_
        have e : xs[i * 2 + j]? = some u := by rwa [List.getElem?_drop] at hj
        have hlt : i * 2 + j < n * 2 := by rw [← hxl]; exact (List.getElem?_eq_some_iff.1 e).1
        rw [← h4, List.getElem?_take, if_pos hlt] at e
        exact e) (by rw [List.length_drop, hxl, h3]; omega) (fun u hu => hx1 u (List.mem_of_mem_drop hu))
  have hL1 : (lay cur.toList ((i + 1) * 2) (xs.drop (i * 2))).length = cap * 2 := by rw [lay_len _ _ _ (by rw [List.length_drop, hxl, Array.length_toList, h3]; omega), Array.length_toList, h3]
  have hcp2 : ∀ (W : World), W.heap[g]? = some (.cells (lay cur.toList ((i + 1) * 2) (xs.drop (i * 2))).toArray 93 (0, 0)) → W.heap[b]? = some (.cells #[.int .u64 k, .slice none 0 0] 93 (0, 0)) → ∀ ty dc, (Builtin.copy_ #[59, 59] ty #[.slice (some ⟨g, i * 2, none⟩) (n + 1 - i) dc, .slice (some ⟨b, 0, none⟩) 1 1]).run Tryz.prog W = .ok (goInt (Nat.min 1 (n + 1 - i))) (W.setRow g (lay (lay cur.toList ((i + 1) * 2) (xs.drop (i * 2))) (i * 2) (encBk (newBk k))).toArray) := fun W hW hWx ty dc =>
    run_copy_rowK W _ _ ty 93 2 g (i * 2) (n + 1 - i) dc ⟨b, 0, none⟩ 1 1 _ 93 (encBk (newBk k)) Tryz.underlying59 hsz hW (by have e : Nat.min 1 (n + 1 - i) = 1 := Nat.min_eq_left (by omega); rw [e]; rfl)
      (fun j u hj => by rw [add_plain, cell_of_row _ _ _ _ _ _ hWx, Nat.zero_add]; simpa [newBk] using hj) (show i * 2 + 2 ≤ (lay cur.toList ((i + 1) * 2) (xs.drop (i * 2))).toArray.size by rw [List.size_toArray, hL1]; omega) (one_encBk _)
  have hw1 : IntKind.i64.wrap ((i : Int) + 1) = (i : Int) + 1 := by rw [IntKind.wrap_i64]; omega
  have hb1 : (0 : Int) ≤ (i : Int) + 1 := by omega
  have htn : ((i : Int) + 1).toNat = i + 1 := by omega
  have hb2 : ¬ (cap = i + 1) := by omega
  have hb3 : (i : Int) ≤ (n : Int) + 1 := by omega
  have hb4 : ¬ (cap = i) := by omega
  have hin : i ≤ n := by omega
  have mixed : Tryz.prog.follows .mixedOrders = true := by kernel_rfl
  have HXS := Lib.hid hxs; have HC4 := Lib.hid h4; have HL1 := Lib.hid hL1; have HXL := Lib.hid hxl
  obtain ⟨L1, hL1e⟩ : ∃ L1, lay cur.toList ((i + 1) * 2) (xs.drop (i * 2)) = L1 := ⟨_, rfl⟩
  rw [hL1e] at hcp1 hcp2 HL1
  obtain ⟨L2, hL2e⟩ : ∃ L2, lay L1 (i * 2) (encBk (newBk k)) = L2 := ⟨_, rfl⟩
  rw [hL2e] at hcp2
  have HE1 := Lib.hid hL1e; have HE2 := Lib.hid hL2e
  clear h h2 hxs h4 hL1 hxl hL1e hL2e hx1 hcl
  go_enter Tryz.func114, Tryz.ntmps114
  go_wp2_with (simp only [hov _ _ _ _ hx hg])
  have hr1 := hcp1 w.drew hg 3 (cap - (i + 1)) (cap - i)
  go_region_law_o (refine step_copy_runJ rfl (.tmp 73) (.tmp 76) 59 59 rfl (.slice (some ⟨g, (i + 1) * 2, none⟩) (n - i) (cap - (i + 1))) (.slice (some ⟨g, i * 2, none⟩) (n + 1 - i) (cap - i)) (by simp [Act.eval, Act.put]) (by simp [Act.eval, Act.put]) hr1 ?_)
  have hg2 : (w.drew.setRow g L1.toArray).heap[g]? = some (.cells L1.toArray 93 (0, 0)) := setRow_heap w.drew g cur _ _ _ hg
  have hx2 : (w.drew.setRow g L1.toArray).heap[b]? = some (.cells #[.int .u64 k, .slice none 0 0] 93 (0, 0)) := (setRow_other w.drew g b _ hbg).trans hx
  go_wp2_with (at_builtin; refine wpList_copy_runJ _ rfl (.tmp 80) (.tmp 81) 59 59 rfl _ _ rfl rfl (hcp2 _ hg2 hx2 _ _) ?_)
  go_ret
  have hfl : (A.take i ++ newBk k :: A.drop i).flatMap encBk = xs.take (i * 2) ++ encBk (newBk k) ++ xs.drop (i * 2) := by
    rw [List.flatMap_append, List.flatMap_cons, flat_takeK (k := 2) (enc := encBk) (fun _ => rfl), flat_dropK (k := 2) (enc := encBk) (fun _ => rfl), HXS.out, List.append_assoc]
  have hlen : (A.take i ++ newBk k :: A.drop i).length = n + 1 := by simp [hnl]; omega
  have hL2 : L2.length = cap * 2 := by rw [← HE2.out, lay_len _ _ _ (by rw [HL1.out]; show i * 2 + 2 ≤ _; omega), HL1.out]
  have htk : L2.take ((n + 1) * 2) = xs.take (i * 2) ++ encBk (newBk k) ++ xs.drop (i * 2) := by
    rw [← HE2.out, ← HE1.out, show (i + 1) * 2 = i * 2 + 2 by omega, show (n + 1) * 2 = xs.length + 2 by rw [HXL.out]; omega]
    exact lay_shift cur.toList (xs.drop (i * 2)) (encBk (newBk k)) xs (i * 2) 2 rfl rfl (by rw [HXL.out]; omega) (by rw [HXL.out, Array.length_toList, h3]; omega) (by rw [HXL.out]; exact HC4.out)
  refine ⟨.slice (some ⟨g, 0, none⟩) (n + 1) cap, rfl, ⟨⟨?_, .inr ⟨g, cap, L2.toArray, by rw [hlen], hg0, setRow_heap _ g _ _ _ _ hg2, by rw [hlen]; exact hr, HCap.out, by rw [List.size_toArray, hL2], ?_⟩⟩, below_setRow (below_setRow HB.out.drew hg0 _) hg0 _⟩, fun k' o hk hko => ?_, ?_, .inr (.inl rfl)⟩
  · rw [flat_len (k := 2) (enc := encBk) (fun _ => rfl)]
  · rw [hlen, hfl]; exact htk
  · have hne : k' ≠ g := fun e => hk (by rw [e]; rfl)
    exact ((setRow_other _ g k' _ hne).trans (setRow_other w.drew g k' _ hne)).trans hko
  · show w.heap.size ≤ _; simp [World.setRow]
theorem zeros_len (m : Nat) : (Builtin.zeroCells (Value.agg #[.int .u64 0, .slice none 0 0]).cells m).size = m * 2 := by simp [Builtin.zeroCells, Value.cells]
set_option maxHeartbeats 4000000 in
/-- in the row, into a new row -/
theorem insert_grow (w0 : World) (g cap : Nat) (A : List BkV) (i : Nat) (k : Int) (b : Nat) (w : World) (h : OwnV 93 2 encBk w0 (.slice (some ⟨g, 0, none⟩) A.length cap) A w) (hx : w.heap[b]? = some (.cells #[.int .u64 k, .slice none 0 0] 93 (0, 0))) (hn : A.length ≤ 1000000) (hi : i < A.length) (hr : cap < A.length + 1) :
    Calls Tryz.prog 114 #[.slice (some ⟨g, 0, none⟩) A.length cap, .int .i64 i, .slice (some ⟨b, 0, none⟩) 1 1] w (InsPost w0 (A.take i ++ newBk k :: A.drop i) (.slice (some ⟨g, 0, none⟩) A.length cap) w) := by
  obtain ⟨n, hnl⟩ : ∃ n, A.length = n := ⟨_, rfl⟩
  have HB := Lib.hid h.2
  rcases h.1.2 with ⟨h0, _⟩ | ⟨g', cap', cur, h0, hg0, hg, h1, h2, h3, h4⟩
  · cases h0
  cases h0
  rw [hnl] at h hi hn hr h1 h4 ⊢
  obtain rfl : cap = n := by omega
  obtain ⟨xs, hxs⟩ : ∃ xs, A.flatMap encBk = xs := ⟨_, rfl⟩
  rw [hxs] at h4
  have hxl : xs.length = cap * 2 := by rw [← hxs, flat_len (k := 2) (enc := encBk) (fun _ => rfl), hnl]
  have hx1 : ∀ u ∈ xs, u.oneCell' = true := by rw [← hxs]; intro u hu; obtain ⟨y, _, hy⟩ := List.mem_flatMap.1 hu; exact one_encBk y u hy
  have hcl : cap * 2 = cur.toList.length := by rw [Array.length_toList, h3]
  have hgw := lt_of_blk hg; have hbw := lt_of_blk hx
  have hcg : ∀ (W : World), W.heap[g]? = some (.cells cur 93 (0, 0)) → ∀ j u, xs[j]? = some u → W.cell? ⟨g, j, none⟩ = some u := fun W hW j u hu => by
    rw [cell_of_row _ _ _ _ _ _ hW, ← Array.getElem?_toList]
    have hlt : j < cap * 2 := by rw [← hxl]; exact (List.getElem?_eq_some_iff.1 hu).1
    rw [← h4, List.getElem?_take, if_pos hlt] at hu
    exact hu
  have hsz : (Tryz.prog.info? 93).map (·.size) = some 2 := by kernel_rfl
  obtain ⟨i0, hi0, hz0, hz1, hz2⟩ := info_parts infoBk
  obtain ⟨G, hG⟩ : ∃ G, G = grownCap w (cap + 1) cap 93 := ⟨_, rfl⟩
  obtain ⟨ROW, hROW⟩ : ∃ ROW : Array Value, ROW = (xs.take (i * 2)).toArray ++ Builtin.zeroCells (Value.agg #[.int .u64 0, .slice none 0 0]).cells (cap + 1 - i) ++ Builtin.zeroCells (Value.agg #[.int .u64 0, .slice none 0 0]).cells (G - (cap + 1)) := ⟨_, rfl⟩
  have hold : (Builtin.firstCells i0.size i (.slice (some ⟨g, 0, none⟩) i cap)).run Tryz.prog w.drew = .ok (xs.take (i * 2)).toArray w.drew := by
    rw [hz1]
    exact run_firstCells_some w.drew 2 i ⟨g, 0, none⟩ i cap (xs.take (i * 2)) (by rw [List.length_take, hxl]; omega) (fun j v hj => by
      rw [add_plain, Nat.zero_add]
      rw [List.getElem?_take] at hj
      split at hj
      · exact hcg w.drew hg j v hj
      · cases hj)
  have hGn : cap + 1 ≤ G := by rw [hG]; exact grownCap_ge w _ _ _
  have hG63 : G ≤ maxLen := by rw [hG]; exact grownCap_le_maxLen w (cap + 1) cap _ (by unfold maxLen; omega)
  have hrz : ∀ ty, (Builtin.append_ #[59, 3] ty #[.slice (some ⟨g, 0, none⟩) i cap, .int .i64 ((cap : Int) + 1 - i)]).run Tryz.prog w =
      .ok (.slice (some ⟨w.heap.size, 0, none⟩) (cap + 1) G) (w.drew.alloc (.cells ROW 93)) := fun ty => by
    have h := Lib.run_append_grow_zeros w 59 3 ty 93 i0 _ .i64 .i64 Tryz.underlying59 Tryz.underlying3 hi0 hz0 (some ⟨g, 0, none⟩) i cap (xs.take (i * 2)) hold (cap + 1 - i) (by omega) (by omega) (by omega) (by omega) (by rw [hz2]; omega) (by rw [hz2, show i + (cap + 1 - i) = cap + 1 by omega]; exact growslice_fits (by omega) (by omega))
    rw [show i + (cap + 1 - i) = cap + 1 by omega, ← hG, ← hROW] at h
    rw [show (cap : Int) + 1 - i = ((cap + 1 - i : Nat) : Int) by omega]
    exact h
  have hRl : ROW.size = G * 2 := by
    rw [hROW, Array.size_append, Array.size_append, zeros_len, zeros_len, List.size_toArray, List.length_take, hxl]; omega
  have hRt : ROW.toList.take (i * 2) = xs.take (i * 2) := by
    have hm : (xs.take (i * 2)).length = i * 2 := by rw [List.length_take, hxl]; omega
    rw [hROW, Array.toList_append, Array.toList_append, List.append_assoc, List.toList_toArray, List.take_append_of_le_length (by rw [hm]; exact Nat.le_refl _), List.take_of_length_le (by rw [hm]; exact Nat.le_refl _)]
  have hcpA : ∀ (W : World), W.heap[w.heap.size]? = some (.cells ROW 93 (0, 0)) → W.heap[b]? = some (.cells #[.int .u64 k, .slice none 0 0] 93 (0, 0)) → ∀ ty dc, (Builtin.copy_ #[59, 59] ty #[.slice (some ⟨w.heap.size, i * 2, none⟩) (cap + 1 - i) dc, .slice (some ⟨b, 0, none⟩) 1 1]).run Tryz.prog W = .ok (goInt (Nat.min 1 (cap + 1 - i))) (W.setRow w.heap.size (lay ROW.toList (i * 2) (encBk (newBk k))).toArray) := fun W hW hWx ty dc =>
    run_copy_rowK W _ _ ty 93 2 w.heap.size (i * 2) (cap + 1 - i) dc ⟨b, 0, none⟩ 1 1 ROW 93 (encBk (newBk k)) Tryz.underlying59 hsz hW (by have e : Nat.min 1 (cap + 1 - i) = 1 := Nat.min_eq_left (by omega); rw [e]; rfl)
      (fun j u hj => by rw [add_plain, cell_of_row _ _ _ _ _ _ hWx, Nat.zero_add]; simpa [newBk] using hj) (show i * 2 + 2 ≤ ROW.size by rw [hRl]; omega) (one_encBk _)
  have hL1 : (lay ROW.toList (i * 2) (encBk (newBk k))).length = G * 2 := by rw [lay_len _ _ _ (by show i * 2 + 2 ≤ ROW.toList.length; rw [Array.length_toList, hRl]; omega), Array.length_toList, hRl]
  have hcpB : ∀ (W : World), W.heap[w.heap.size]? = some (.cells (lay ROW.toList (i * 2) (encBk (newBk k))).toArray 93 (0, 0)) → W.heap[g]? = some (.cells cur 93 (0, 0)) → ∀ ty dc sc, (Builtin.copy_ #[59, 59] ty #[.slice (some ⟨w.heap.size, (i + 1) * 2, none⟩) (cap - i) dc, .slice (some ⟨g, i * 2, none⟩) (cap - i) sc]).run Tryz.prog W = .ok (goInt (Nat.min (cap - i) (cap - i))) (W.setRow w.heap.size (lay (lay ROW.toList (i * 2) (encBk (newBk k))) ((i + 1) * 2) (xs.drop (i * 2))).toArray) := fun W hW hWg ty dc sc =>
    run_copy_rowK W _ _ ty 93 2 w.heap.size ((i + 1) * 2) (cap - i) dc ⟨g, i * 2, none⟩ (cap - i) sc _ 93 (xs.drop (i * 2)) Tryz.underlying59 hsz hW (by have e : Nat.min (cap - i) (cap - i) = cap - i := Nat.min_self _; rw [List.length_drop, hxl, e]; omega)
      (fun j u hj => by
        rw [add_plain]
        exact hcg W hWg _ _ (by rwa [List.getElem?_drop] at hj)) (show (i + 1) * 2 + (xs.drop (i * 2)).length ≤ (lay ROW.toList (i * 2) (encBk (newBk k))).toArray.size by rw [List.size_toArray, hL1, List.length_drop, hxl]; omega) (fun u hu => hx1 u (List.mem_of_mem_drop hu))
  have hw1 : IntKind.i64.wrap ((i : Int) + 1) = (i : Int) + 1 := by rw [IntKind.wrap_i64]; omega
  have hb1 : (0 : Int) ≤ (i : Int) + 1 := by omega
  have htn : ((i : Int) + 1).toNat = i + 1 := by omega
  have hGi : ¬ (G = i) := by omega
  have hGi1 : ¬ (G = i + 1) := by omega
  have hb4 : ¬ (cap = i) := by omega
  have hin : i ≤ cap := by omega
  have hz3 : (cap : Int) < (cap : Int) + 1 := by omega
  have hb3 : (i : Int) ≤ (cap : Int) := by omega
  have hG6 : G ≤ 9223372036854775807 := by unfold maxLen at hG63; omega
  have mixed : Tryz.prog.follows .mixedOrders = true := by kernel_rfl
  have HXS := Lib.hid hxs; have HC4 := Lib.hid h4; have HL1 := Lib.hid hL1; have HXL := Lib.hid hxl; have HRT := Lib.hid hRt; have HG63 := Lib.hid hG63; have HRL := Lib.hid hRl
  obtain ⟨L1, hL1e⟩ : ∃ L1, lay ROW.toList (i * 2) (encBk (newBk k)) = L1 := ⟨_, rfl⟩
  rw [hL1e] at hcpA hcpB HL1
  obtain ⟨L2, hL2e⟩ : ∃ L2, lay L1 ((i + 1) * 2) (xs.drop (i * 2)) = L2 := ⟨_, rfl⟩
  rw [hL2e] at hcpB
  have HE1 := Lib.hid hL1e; have HE2 := Lib.hid hL2e
  clear h h2 hxs h4 hL1 hxl hL1e hL2e hx1 hcl hRl hRt hG63 hROW hG hold hi0 hz0 hz1 hz2 hcg
  have hgA : ((w.alloc (.cells ROW 93)).drew).heap[w.heap.size]? = some (.cells ROW 93 (0, 0)) := blk_new (w := w) rfl
  have hxA : ((w.alloc (.cells ROW 93)).drew).heap[b]? = some (.cells #[.int .u64 k, .slice none 0 0] 93 (0, 0)) := blk_old (w := w) hx
  have hg1 : ((w.alloc (.cells ROW 93)).drew).heap[g]? = some (.cells cur 93 (0, 0)) := blk_old (w := w) hg
  go_enter Tryz.func114, Tryz.ntmps114
  go_wp2_with (first
    | (at_builtin; refine Lib.wpList_append_run _ rfl _ _ _ _ rfl _ _ rfl rfl _ _ (hrz _) ?_)
    | (simp only [hcpA _ hgA hxA _ _, Result.andThen_ok]))
  have hg2 : ((((w.alloc (.cells ROW 93)).drew).setRow w.heap.size L1.toArray)).heap[w.heap.size]? = some (.cells L1.toArray 93 (0, 0)) := setRow_heap _ _ ROW _ _ _ hgA
  have hg3 : ((((w.alloc (.cells ROW 93)).drew).setRow w.heap.size L1.toArray)).heap[g]? = some (.cells cur 93 (0, 0)) := (setRow_other _ _ g _ (by omega)).trans hg1
  have hr1 := hcpB (((w.alloc (.cells ROW 93)).drew).setRow w.heap.size L1.toArray).drew hg2 hg3 3 (G - (i + 1)) (cap - i)
  go_region_law_o (refine step_copy_runJ rfl (.tmp 50) (.tmp 53) 59 59 rfl (.slice (some ⟨w.heap.size, (i + 1) * 2, none⟩) (cap - i) (G - (i + 1))) (.slice (some ⟨g, i * 2, none⟩) (cap - i) (cap - i)) (by simp [Act.eval, Act.put]) (by simp [Act.eval, Act.put]) hr1 ?_)
  go_wp2
  go_ret
  have hg5 : (((w.alloc (.cells ROW 93)).drew.setRow w.heap.size L1.toArray).drew.setRow w.heap.size L2.toArray).heap[w.heap.size]? = some (.cells L2.toArray 93 (0, 0)) := setRow_heap _ _ L1.toArray _ _ _ hg2
  have hbl : Below w0.heap.size w0 (((w.alloc (.cells ROW 93)).drew.setRow w.heap.size L1.toArray).drew.setRow w.heap.size L2.toArray) := below_setRow (below_setRow (HB.out.alloc HB.out.size _).drew HB.out.size _).drew HB.out.size _
  have hold : ∀ k' o, w.heap[k']? = some o → (((w.alloc (.cells ROW 93)).drew.setRow w.heap.size L1.toArray).drew.setRow w.heap.size L2.toArray).heap[k']? = some o := fun k' o hko => by
    have hne : k' ≠ w.heap.size := by have := lt_of_blk hko; omega
    exact ((setRow_other _ w.heap.size k' _ hne).trans (setRow_other (w.alloc (.cells ROW 93)).drew w.heap.size k' _ hne)).trans (blk_old (w := w) hko)
  have hsz5 : w.heap.size ≤ (((w.alloc (.cells ROW 93)).drew.setRow w.heap.size L1.toArray).drew.setRow w.heap.size L2.toArray).heap.size := by simp [World.setRow]
  obtain ⟨w5, hw5⟩ : ∃ w5, (((w.alloc (.cells ROW 93)).drew.setRow w.heap.size L1.toArray).drew.setRow w.heap.size L2.toArray) = w5 := ⟨_, rfl⟩
  rw [hw5] at hg5 hbl hold hsz5 ⊢
  have hfl : (A.take i ++ newBk k :: A.drop i).flatMap encBk = xs.take (i * 2) ++ encBk (newBk k) ++ xs.drop (i * 2) := by
    rw [List.flatMap_append, List.flatMap_cons, flat_takeK (k := 2) (enc := encBk) (fun _ => rfl), flat_dropK (k := 2) (enc := encBk) (fun _ => rfl), HXS.out, List.append_assoc]
  have hlen : (A.take i ++ newBk k :: A.drop i).length = cap + 1 := by simp [hnl]; omega
  have hL2 : L2.length = G * 2 := by rw [← HE2.out, lay_len _ _ _ (by rw [HL1.out, List.length_drop, HXL.out]; omega), HL1.out]
  have htk : L2.take ((cap + 1) * 2) = xs.take (i * 2) ++ encBk (newBk k) ++ xs.drop (i * 2) := by
    rw [← HE2.out, ← HE1.out, show (i + 1) * 2 = i * 2 + 2 by omega, show (cap + 1) * 2 = xs.length + 2 by rw [HXL.out]; omega]
    exact lay_grow ROW.toList (xs.drop (i * 2)) (encBk (newBk k)) xs (i * 2) 2 rfl rfl (by rw [HXL.out]; omega) (by rw [HXL.out, Array.length_toList, HRL.out]; omega) HRT.out
  refine ⟨.slice (some ⟨w.heap.size, 0, none⟩) (cap + 1) G, rfl, ⟨⟨?_, .inr ⟨w.heap.size, G, L2.toArray, by rw [hlen], HB.out.size, hg5, by rw [hlen]; exact hGn, HG63.out, by rw [List.size_toArray, hL2], ?_⟩⟩, hbl⟩, fun k' o _ hko => hold k' o hko, hsz5, .inr (.inr rfl)⟩
  · rw [flat_len (k := 2) (enc := encBk) (fun _ => rfl)]
  · rw [hlen, hfl]; exact htk
theorem insert_bk (w0 : World) (v : Value) (A : List BkV) (i : Nat) (k : Int) (b : Nat) (w : World) (h : OwnV 93 2 encBk w0 v A w) (hx : w.heap[b]? = some (.cells #[.int .u64 k, .slice none 0 0] 93 (0, 0))) (hb : v.ownBlock ≠ some b) (hn : A.length ≤ 1000000) (hi : i ≤ A.length) :
    Calls Tryz.prog 114 #[v, .int .i64 i, .slice (some ⟨b, 0, none⟩) 1 1] w (InsPost w0 (A.take i ++ newBk k :: A.drop i) v w) := by
  by_cases hlt : i < A.length
  · rcases h.form with ⟨rfl, rfl⟩ | ⟨g, cap, rfl, h1, h2, hg⟩
    · simp at hlt
    · have hbg : b ≠ g := fun e => hb (by rw [e]; rfl)
      by_cases hr : A.length + 1 ≤ cap
      · exact insert_room w0 g cap A i k b w h hx hbg hn hlt hr
      · exact insert_grow w0 g cap A i k b w h hx hn hlt (by omega)
  · obtain rfl : i = A.length := by omega
    rw [List.take_length, List.drop_length]
    exact insert_end w0 v A k b w h hx hn
end
section
/-- a pair of bytes that stands for one letter -/
def isPair (a b : UInt8) : Bool := a == 195 && (128 ≤ b && b ≤ 191)
def okByte (a : UInt8) : Bool := 32 ≤ a && a ≤ 126
def validL : List UInt8 → Bool
  | [] => true
  | [a] => okByte a
  | a :: b :: r => if isPair a b then validL r else okByte a && validL (b :: r)
def isLow (a : UInt8) : Bool := 97 ≤ a && a ≤ 122
def isUp (a : UInt8) : Bool := 65 ≤ a && a ≤ 90
def isDgt (a : UInt8) : Bool := 48 ≤ a && a ≤ 57
/-- what becomes of a byte that begins no pair -/
def plainB (a : UInt8) : List UInt8 := if isUp a then [a + 32] else if isLow a || isDgt a then [a] else if a == 39 then [] else [32]
def replT : List (List UInt8) :=
  [[97], [97], [97], [97], [97], [97], [97, 101], [99], [101], [101], [101], [101], [105], [105], [105], [105],
   [100], [110], [111], [111], [111], [111], [111], [], [111], [117], [117], [117], [117], [121], [116, 104], [115, 115],
   [97], [97], [97], [97], [97], [97], [97, 101], [99], [101], [101], [101], [101], [105], [105], [105], [105],
   [100], [110], [111], [111], [111], [111], [111], [], [111], [117], [117], [117], [117], [121], [116, 104], [121]]
def replB (b : UInt8) : List UInt8 := replT.getD (b.toNat - 128) []
def rawL : List UInt8 → List UInt8
  | [] => []
  | [a] => plainB a
  | a :: b :: r => if isPair a b then replB b ++ rawL r else plainB a ++ rawL (b :: r)
/-- the parts between spaces; p is the part that has begun -/
def toksA : List UInt8 → List UInt8 → List (List UInt8)
  | p, [] => if p = [] then [] else [p]
  | p, c :: r => if c == 32 then (if p = [] then toksA [] r else p :: toksA [] r) else toksA (p ++ [c]) r
def toks (l : List UInt8) : List (List UInt8) := toksA [] l
def joinL : List (List UInt8) → List UInt8
  | [] => []
  | [a] => a
  | a :: b :: r => a ++ [32] ++ joinL (b :: r)
def lettersL (l : List UInt8) : List UInt8 := l.filter isLow
def foldV (l : List UInt8) : Bool := validL l && decide (l.length ≤ 64)
def foldL (l : List UInt8) : List UInt8 := joinL (toks (rawL l))
/-- a text as a value -/
abbrev strV (l : List UInt8) : Value := .string ⟨l.toArray⟩
end
section
open Go.RowKit
def xr (a b : Int) : Int := bits .xor .u64 a b
def ad (a b : Int) : Int := IntKind.u64.wrap (a + b)
/-- turned left by p, where p * q = 2 ^ 64 -/
def rotP (p q x : Int) : Int := bits .or .u64 (IntKind.u64.wrap (x * p)) (x / q)
structure Sip where
  a : Int
  b : Int
  c : Int
  d : Int
def rndP (s : Sip) : Sip :=
  let a := ad s.a s.b
  let b := xr (rotP 8192 2251799813685248 s.b) a
  let a := rotP 4294967296 4294967296 a
  let c := ad s.c s.d
  let d := xr (rotP 65536 281474976710656 s.d) c
  let a := ad a d
  let d := xr (rotP 2097152 8796093022208 d) a
  let c := ad c b
  let b := xr (rotP 131072 140737488355328 b) c
  ⟨a, b, rotP 4294967296 4294967296 c, d⟩
def wordP (s : Sip) (m : Int) : Sip :=
  let s := rndP (rndP ⟨s.a, s.b, s.c, xr s.d m⟩)
  ⟨xr s.a m, s.b, s.c, s.d⟩
/-- the first bytes, the least first -/
def numP (i : Nat) (m : Int) : List UInt8 → Int
  | [] => m
  | x :: l => numP (i + 1) (bits .or .u64 m (IntKind.u64.wrap (IntKind.u64.wrap (x.toNat : Int) * 2 ^ (8 * i)))) l
def eachP (s : Sip) (l : List UInt8) : Nat → Sip × List UInt8
  | 0 => (s, l)
  | n + 1 => eachP (wordP s (numP 0 0 (l.take 8))) (l.drop 8) n
def sumP (ka kb : Int) (l : List UInt8) : Int :=
  let p := eachP ⟨xr ka 8317987319222330741, xr kb 7237128888997146477, xr ka 7816392313619706465, xr kb 8387220255154660723⟩ l (l.length / 8)
  let s := wordP p.1 (bits .or .u64 (numP 0 0 p.2) (IntKind.u64.wrap ((l.length : Int) * 72057594037927936)))
  let s := rndP (rndP (rndP (rndP ⟨s.a, s.b, xr s.c 255, s.d⟩)))
  xr (xr (xr s.a s.b) s.c) s.d
def partP (t : List UInt8) : List UInt8 := UInt8.ofNat (min t.length 65535 / 256) :: UInt8.ofNat (min t.length 65535) :: t.take 65535
def partsP (ka kb : Int) (L : List (List UInt8)) : Int := sumP ka kb (L.flatMap partP)
def deriveP (ka kb : Int) (l : List UInt8) : Int × Int := (partsP ka kb [l, [97]], partsP ka kb [l, [98]])
end
section
open Go.RowKit

theorem bits_u64_bd (op : BinOp) (x y : Int) : 0 ≤ bits op .u64 x y ∧ bits op .u64 x y < 18446744073709551616 := by
  have : ∃ e, bits op .u64 x y = IntKind.u64.wrap e := by unfold bits; exact ⟨_, rfl⟩
  obtain ⟨e, he⟩ := this
  rw [he]
  simp only [IntKind.wrap, IntKind.bits, IntKind.signed]
  simp
  omega

theorem grown_refl (w : World) (r : Option Nat) : w.grownBy w r := ⟨rfl, rfl, rfl, Nat.le_refl _, fun _ _ _ => rfl⟩
theorem grown_trans {w w1 w2 : World} {r : Option Nat} (h : w.grownBy w1 r) (h' : w1.grownBy w2 r) : w.grownBy w2 r :=
  ⟨h'.os.trans h.os, h'.tape.trans h.tape, h'.output.trans h.output, Nat.le_trans h.size h'.size, fun k hk hr => (h'.block k (Nat.lt_of_lt_of_le hk h.size) hr).trans (h.block k hk hr)⟩
theorem grown_drewN {w w1 : World} {r : Option Nat} (h : w.grownBy w1 r) (n : Nat) : w.grownBy (w1.drewN n) r := ⟨h.os, h.tape, h.output, h.size, h.block⟩
theorem grown_set {w w1 : World} {D i : Nat} {v : Value} (h : w.grownBy w1 (some D)) : w.grownBy (w1.setCell ⟨D, i, none⟩ v) (some D) :=
  grown_trans h ⟨rfl, rfl, rfl, by simp [World.setCell], fun k hk hr => heap_setCell_other _ _ _ _ (fun e => hr (by rw [e]))⟩
theorem grown_below {w w1 : World} {r : Option Nat} (h : Below w.heap.size w w1) : w.grownBy w1 r := ⟨h.os, h.tape, h.output, h.size, fun k hk _ => h.block k hk⟩
theorem grown_blk {w w1 : World} {D k : Nat} {o : Obj} (h : w.grownBy w1 (some D)) (ho : w.heap[k]? = some o) (hk : k ≠ D) : w1.heap[k]? = some o := by
  have hlt : k < w.heap.size := by
    rcases Nat.lt_or_ge k w.heap.size with h' | h'
    · exact h'
    · simp [Array.getElem?_eq_none h'] at ho
  rw [h.block k hlt (by simpa using hk)]; exact ho

/-- a slice of ints that can be read, in a block below D -/
def ListAt (w : World) (D : Nat) (s : Value) (n : Nat) : Prop :=
  ∃ a cap, s = .slice a n cap ∧ n ≤ 400 ∧ (0 < n → ∃ b off, a = some ⟨b, off, none⟩ ∧ b < D ∧ ∀ i, i < n → ∃ x : Int, w.cell? ⟨b, off + i, none⟩ = some (.int .i64 x))
theorem ListAt.same {w w1 : World} {D n : Nat} {s : Value} (h : ListAt w D s n) (hg : ∀ k, k < D → w1.heap[k]? = w.heap[k]?) : ListAt w1 D s n := by
  obtain ⟨a, cap, h1, h2, h3⟩ := h
  refine ⟨a, cap, h1, h2, fun hn => ?_⟩
  obtain ⟨b, off, h4, h5, h7⟩ := h3 hn
  refine ⟨b, off, h4, h5, fun i hi => ?_⟩
  obtain ⟨x, hx⟩ := h7 i hi
  exact ⟨x, (World.cell?_of_block (w := w) (a := ⟨b, off + i, none⟩) (hg b h5)).trans hx⟩
/-- a deck lies in block D -/
def DeckAt (w : World) (D : Nat) : Prop :=
  ∃ (s : Value) (n : Nat) (t st : Int), w.heap[D]? = some (.cells #[s, .int .i64 t, .int .u64 st] 95 (0, 0)) ∧ ListAt w D s n ∧ 0 ≤ t ∧ t ≤ n
theorem DeckAt.lt {w : World} {D : Nat} (h : DeckAt w D) : D < w.heap.size := by
  obtain ⟨s, n, t, st, h, _⟩ := h
  exact (Array.getElem?_eq_some_iff.1 h).1
theorem DeckAt.same {w w1 : World} {D : Nat} (h : DeckAt w D) (hg : ∀ k, k ≤ D → w1.heap[k]? = w.heap[k]?) : DeckAt w1 D := by
  obtain ⟨s, n, t, st, h1, h2, h3⟩ := h
  exact ⟨s, n, t, st, (hg D (Nat.le_refl _)).trans h1, h2.same fun k hk => hg k (Nat.le_of_lt hk), h3⟩
/-- a deck is as it was behind whatever leaves all that was there as it was -/
theorem DeckAt.below {w w1 : World} {D : Nat} (h : DeckAt w D) (hb : Below w.heap.size w w1) : DeckAt w1 D := by
  have hlt := h.lt
  exact h.same fun k hk => hb.block k (by omega)
/-- w' is w, but for the deck in block D, which has moved on, and for new blocks -/
structure Moved (D : Nat) (w w' : World) : Prop where
  grown : w.grownBy w' (some D)
  deck : DeckAt w' D
  lt : D < w.heap.size
theorem Moved.start {D : Nat} {w : World} (h : DeckAt w D) : Moved D w w := ⟨grown_refl _ _, h, h.lt⟩
theorem Moved.trans {D : Nat} {w w1 w2 : World} (h : Moved D w w1) (h' : Moved D w1 w2) : Moved D w w2 := ⟨grown_trans h.grown h'.grown, h'.deck, h.lt⟩
theorem Moved.below {D : Nat} {w w1 w2 : World} (h : Moved D w w1) (hb : Below w1.heap.size w1 w2) : Moved D w w2 := ⟨grown_trans h.grown (grown_below hb), h.deck.below hb, h.lt⟩
theorem Moved.alloc {D : Nat} {w w1 : World} (h : Moved D w w1) (o : Obj) : Moved D w (w1.alloc o) := h.below ((Below.refl _ _).alloc (Nat.le_refl _) _)
theorem Moved.drew {D : Nat} {w w1 : World} (h : Moved D w w1) : Moved D w w1.drew := h.below (Below.refl _ _).drew
theorem Moved.drewN {D : Nat} {w w1 : World} (h : Moved D w w1) (n : Nat) : Moved D w (w1.drewN n) := h.below (below_drewN (Below.refl _ _) n)
theorem Moved.set {D : Nat} {w w1 : World} (h : Moved D w w1) {a : Addr} (ha : w.heap.size ≤ a.block) (v : Value) : Moved D w (w1.setCell a v) := by
  have := h.lt
  refine ⟨⟨h.grown.os, h.grown.tape, h.grown.output, by simpa [World.setCell] using h.grown.size, fun k hk hr => ?_⟩, h.deck.same fun k hk => heap_setCell_other _ _ _ _ (by omega), this⟩
  rw [heap_setCell_other _ _ _ _ (by omega)]; exact h.grown.block k hk hr
theorem Moved.blk {D k : Nat} {w w1 : World} {o : Obj} (h : Moved D w w1) (hk : k ≠ D) (ho : w.heap[k]? = some o) : w1.heap[k]? = some o := grown_blk h.grown ho hk
theorem Moved.size {D : Nat} {w w1 : World} (h : Moved D w w1) : w.heap.size ≤ w1.heap.size := h.grown.size
/-- as seen from before the deck was made -/
theorem Moved.base {D B : Nat} {w0 w w1 : World} (h : Moved D w w1) (hb : Below B w0 w) (hB : B ≤ D) : Below B w0 w1 :=
  hb.trans ⟨h.grown.os, h.grown.tape, h.grown.output, h.grown.size, fun k hk => h.grown.block k (by have := h.lt; omega) (by simp; omega)⟩
def WordPost (D : Nat) (w : World) (e : Ending) (w' : World) : Prop :=
  ∃ r : Int, e = .returned (.int .u64 r) ∧ 0 ≤ r ∧ r < 18446744073709551616 ∧ Moved D w w'
theorem word_done {D n : Nat} {w w' : World} {s : Value} {r t st : Int} (hL : ListAt w D s n) (hg : w.grownBy w' (some D)) (hD : w'.heap[D]? = some (.cells #[s, .int .i64 t, .int .u64 st] 95 (0, 0)))
    (hlt : D < w.heap.size) (h0 : 0 ≤ t) (h1 : t ≤ n) (hr : 0 ≤ r ∧ r < 18446744073709551616) : WordPost D w (.returned (.int .u64 r)) w' :=
  ⟨r, rfl, hr.1, hr.2, hg, ⟨s, n, t, st, hD, hL.same fun k hk => hg.block k (by omega) (by simp; omega), h0, h1⟩, hlt⟩
set_option maxHeartbeats 400000 in
theorem word_more (D : Nat) (w : World) (b off n cap : Nat) (t st x : Int) (hD : w.heap[D]? = some (.cells #[.slice (some ⟨b, off, none⟩) n cap, .int .i64 t, .int .u64 st] 95 (0, 0)))
    (hL : ListAt w D (.slice (some ⟨b, off, none⟩) n cap) n) (hn : n ≤ 400) (h0 : 0 ≤ t) (h1 : t < n) (hb : b < D) (hx : w.cell? ⟨b, off + t.toNat, none⟩ = some (.int .i64 x)) :
    Calls Tryz.prog 49 #[.pointer (some ⟨D, 0, none⟩)] w (WordPost D w) := by
  obtain ⟨p0, p1, p2⟩ := cells3 hD
  obtain ⟨f0, f1, f2⟩ := free3 hD
  obtain ⟨t, rfl⟩ := Int.eq_ofNat_of_zero_le h0
  rw [Int.toNat_natCast] at hx
  have hlt := lt_of_blk hD
  have HD := Lib.hid hD; clear hD
  go_enter Tryz.func49, Tryz.ntmps49
  go_wp2
  go_quiet (fail)
  go_wp2
  go_quiet (fail)
  go_wp2
  go_quiet (fail)
  go_wp2
  go_ret
  exact word_done hL (grown_drewN (grown_set (grown_set (grown_drewN (grown_refl w _) _))) _) (blk_set (blk_set HD.out)) hlt (by omega) (by omega) (bits_u64_bd _ _ _)
set_option maxHeartbeats 400000 in
theorem word_end (D : Nat) (w : World) (a : Option Addr) (n cap : Nat) (t st : Int) (hD : w.heap[D]? = some (.cells #[.slice a n cap, .int .i64 t, .int .u64 st] 95 (0, 0)))
    (hL : ListAt w D (.slice a n cap) n) (hn : n ≤ 400) (h0 : 0 ≤ t) (h1 : t = n) :
    Calls Tryz.prog 49 #[.pointer (some ⟨D, 0, none⟩)] w (WordPost D w) := by
  subst h1
  obtain ⟨p0, p1, p2⟩ := cells3 hD
  obtain ⟨f0, f1, f2⟩ := free3 hD
  have hlt := lt_of_blk hD
  have HD := Lib.hid hD; clear hD
  go_enter Tryz.func49, Tryz.ntmps49
  go_wp2
  go_quiet (fail)
  go_wp2
  go_quiet (fail)
  go_wp2
  go_ret
  exact word_done hL (grown_drewN (grown_set (grown_drewN (grown_refl w _) _)) _) (blk_set HD.out) hlt (by omega) (by omega) (bits_u64_bd _ _ _)
theorem word_any (D : Nat) (w : World) (h : DeckAt w D) :
    Calls Tryz.prog 49 #[.pointer (some ⟨D, 0, none⟩)] w (WordPost D w) := by
  obtain ⟨s, n, t, st, hD, hL, h0, h1⟩ := h
  have hL' := hL
  obtain ⟨a, cap, rfl, hn, h2⟩ := hL
  by_cases ht : t = n
  · exact word_end D w a n cap t st hD hL' hn h0 ht
  · have ht' : t < n := by clear h2 hL'; omega
    obtain ⟨b, off, rfl, hb, hc⟩ := h2 (by clear h2 hL'; omega)
    obtain ⟨x, hx⟩ := hc t.toNat (by clear hc h2 hL'; omega)
    exact word_more D w b off n cap t st x hD hL' hn h0 ht' hb hx

theorem next_val {r k : Int} (h0 : 0 ≤ r) (h1 : r < 18446744073709551616) (hk : 1 ≤ k) : 0 ≤ (wrap64 (r / 2)).tmod k ∧ (wrap64 (r / 2)).tmod k < k := by
  have e : wrap64 (r / 2) = r / 2 := IntWalk.wrap64_in (r / 2) (by constructor <;> omega)
  have h2 : 0 ≤ r / 2 := by omega
  rw [e, Int.tmod_eq_emod_of_nonneg h2]
  exact ⟨Int.emod_nonneg _ (by omega), Int.emod_lt_of_pos _ (by omega)⟩
def NextPost (D : Nat) (w : World) (k : Int) (e : Ending) (w' : World) : Prop :=
  ∃ r : Int, e = .returned (.int .i64 r) ∧ 0 ≤ r ∧ r < k ∧ Moved D w w'
set_option maxHeartbeats 400000 in
theorem next_any (D : Nat) (w : World) (k : Int) (h : DeckAt w D) (hk : 1 ≤ k) (hk2 : k ≤ 1000000000) :
    Calls Tryz.prog 13 #[.pointer (some ⟨D, 0, none⟩), .int .i64 k] w (NextPost D w k) := by
  go_enter Tryz.func13, Tryz.ntmps13
  go_wp2_with fail
  refine (word_any D _ h).mono ?_
  rintro e w1 ⟨r, rfl, h0, h1, h2⟩
  have H1 := Lib.hid h1; clear h1
  have H2 := Lib.hid h2; clear h2
  go_wp2_with fail
  go_ret
  have hv := next_val h0 H1.out hk
  exact ⟨_, rfl, hv.1, hv.2, H2.out⟩
set_option maxHeartbeats 400000 in
theorem few_any (a : Option Addr) (n cap : Nat) (w : World) :
    Calls Tryz.prog 6 #[.slice a n cap] w fun e w' => e = .returned (.bool (decide (n ≤ 400))) ∧ w = w' := by
  go_enter Tryz.func6, Tryz.ntmps6
  go_wp2
  go_ret
  exact ⟨ret_bool (by simp; omega), rfl⟩
set_option maxHeartbeats 400000 in
theorem new_any (a : Option Addr) (n cap : Nat) (w : World) :
    Calls Tryz.prog 9 #[.slice a n cap] w fun e w' => e = .returned (.pointer (some ⟨w.heap.size, 0, none⟩)) ∧ w.alloc (.cells #[.slice a n cap, .int .i64 0, .int .u64 11400714819323198485] 95) = w' := by
  go_enter Tryz.func9, Tryz.ntmps9
  go_wp2
  go_ret
  exact ⟨rfl, rfl⟩
/-- a list that can be read, and no more than 400 numbers, makes a deck -/
theorem deck_new {w : World} {a : Option Addr} {n cap : Nat} (hn : n ≤ 400) (h : 0 < n → ∃ b off, a = some ⟨b, off, none⟩ ∧ b < w.heap.size ∧ ∀ i, i < n → ∃ x : Int, w.cell? ⟨b, off + i, none⟩ = some (.int .i64 x)) :
    DeckAt (w.alloc (.cells #[.slice a n cap, .int .i64 0, .int .u64 11400714819323198485] 95)) w.heap.size := by
  refine ⟨_, n, 0, _, blk_new rfl, ⟨a, cap, rfl, hn, fun h0 => ?_⟩, by omega, by omega⟩
  obtain ⟨b, off, h1, h2, h3⟩ := h h0
  refine ⟨b, off, h1, h2, fun i hi => ?_⟩
  obtain ⟨x, hx⟩ := h3 i hi
  exact ⟨x, (World.cell?_of_block (w := w) (a := ⟨b, off + i, none⟩) (((Below.refl _ _).alloc (Nat.le_refl _) _).block b h2)).trans hx⟩
end
section
set_option maxRecDepth 100000
open Go.RowKit
abbrev sipC (s : Sip) : Array Value := #[.int .u64 s.a, .int .u64 s.b, .int .u64 s.c, .int .u64 s.d]
set_option maxHeartbeats 400000 in
theorem rot13 (x : Int) (w : World) : Calls Tryz.prog 255 #[.int .u64 x, .int .i64 13] w fun e w' => e = .returned (.int .u64 (rotP 8192 2251799813685248 x)) ∧ w = w' := by
  have hb : bits .and .u64 13 63 = 13 := by decide +kernel
  go_enter Tryz.func255, Tryz.ntmps255
  go_wp2
  go_ret
  exact ⟨rfl, rfl⟩
set_option maxHeartbeats 400000 in
theorem rot32 (x : Int) (w : World) : Calls Tryz.prog 255 #[.int .u64 x, .int .i64 32] w fun e w' => e = .returned (.int .u64 (rotP 4294967296 4294967296 x)) ∧ w = w' := by
  have hb : bits .and .u64 32 63 = 32 := by decide +kernel
  go_enter Tryz.func255, Tryz.ntmps255
  go_wp2
  go_ret
  exact ⟨rfl, rfl⟩
set_option maxHeartbeats 400000 in
theorem rot16 (x : Int) (w : World) : Calls Tryz.prog 255 #[.int .u64 x, .int .i64 16] w fun e w' => e = .returned (.int .u64 (rotP 65536 281474976710656 x)) ∧ w = w' := by
  have hb : bits .and .u64 16 63 = 16 := by decide +kernel
  go_enter Tryz.func255, Tryz.ntmps255
  go_wp2
  go_ret
  exact ⟨rfl, rfl⟩
set_option maxHeartbeats 400000 in
theorem rot21 (x : Int) (w : World) : Calls Tryz.prog 255 #[.int .u64 x, .int .i64 21] w fun e w' => e = .returned (.int .u64 (rotP 2097152 8796093022208 x)) ∧ w = w' := by
  have hb : bits .and .u64 21 63 = 21 := by decide +kernel
  go_enter Tryz.func255, Tryz.ntmps255
  go_wp2
  go_ret
  exact ⟨rfl, rfl⟩
set_option maxHeartbeats 400000 in
theorem rot17 (x : Int) (w : World) : Calls Tryz.prog 255 #[.int .u64 x, .int .i64 17] w fun e w' => e = .returned (.int .u64 (rotP 131072 140737488355328 x)) ∧ w = w' := by
  have hb : bits .and .u64 17 63 = 17 := by decide +kernel
  go_enter Tryz.func255, Tryz.ntmps255
  go_wp2
  go_ret
  exact ⟨rfl, rfl⟩
theorem cellsS {w : World} {b : Nat} {x y z u : Value} {t : TypeId} {fr : Nat × Nat} (h : w.heap[b]? = some (.cells #[x, y, z, u] t fr)) :
    w.cell? ⟨b, 0, none⟩ = some x ∧ w.cell? ⟨b, 1, none⟩ = some y ∧ w.cell? ⟨b, 2, none⟩ = some z ∧ w.cell? ⟨b, 3, none⟩ = some u := by
  refine ⟨?_, ?_, ?_, ?_⟩ <;> (rw [cell_of_row _ _ _ _ _ _ h]; rfl)
theorem freeS {w : World} {b : Nat} {cs : Array Value} {t : TypeId} (h : w.heap[b]? = some (.cells cs t (0, 0))) :
    w.frozen? ⟨b, 0, none⟩ = false ∧ w.frozen? ⟨b, 1, none⟩ = false ∧ w.frozen? ⟨b, 2, none⟩ = false ∧ w.frozen? ⟨b, 3, none⟩ = false := ⟨frozen_of_row _ _ _ _ _ h, frozen_of_row _ _ _ _ _ h, frozen_of_row _ _ _ _ _ h, frozen_of_row _ _ _ _ _ h⟩
/-- s lies in block b; all but that block is as it was -/
def SipAt (w : World) (b : Nat) (s : Sip) (w' : World) : Prop := w'.heap[b]? = some (.cells (sipC s) 240 (0, 0)) ∧ w.grownBy w' (some b)
theorem SipAt.read {w w' : World} {b : Nat} {s : Sip} (h : SipAt w b s w') : (w'.cell? ⟨b, 0, none⟩ = some (.int .u64 s.a) ∧ w'.cell? ⟨b, 1, none⟩ = some (.int .u64 s.b) ∧ w'.cell? ⟨b, 2, none⟩ = some (.int .u64 s.c) ∧ w'.cell? ⟨b, 3, none⟩ = some (.int .u64 s.d)) ∧
    (w'.frozen? ⟨b, 0, none⟩ = false ∧ w'.frozen? ⟨b, 1, none⟩ = false ∧ w'.frozen? ⟨b, 2, none⟩ = false ∧ w'.frozen? ⟨b, 3, none⟩ = false) := ⟨cellsS h.1, freeS h.1⟩
theorem SipAt.set {w w' : World} {b i : Nat} {s s' : Sip} {v : Value} {n : Nat} (h : SipAt w b s w') (e : (sipC s).setIfInBounds i v = sipC s') : SipAt w b s' ((w'.drewN n).setCell ⟨b, i, none⟩ v) :=
  ⟨by rw [← e]; exact blk_set h.1, grown_set (grown_drewN h.2 n)⟩
/-- .. behind a region -/
theorem exitk_world {K : Act → World → Prop} {Q : Exit → Act → World → Prop} {x : Exit} {a : Act} {W : World} (h : ∀ w', w' = W → Exit.then K Q x a w') : Exit.then K Q x a W := h W rfl
def rndI : Nat → Sip → Sip
  | 0, s => s
  | n + 1, s => rndP (rndI n s)
set_option maxHeartbeats 4000000 in
theorem rounds_any (b : Nat) (s : Sip) (n : Nat) (w : World) (hb : w.heap[b]? = some (.cells (sipC s) 240 (0, 0))) (hn : n ≤ 4) :
    Calls Tryz.prog 228 #[.pointer (some ⟨b, 0, none⟩), .int .i64 n] w fun e w' => e = .returned (.tuple #[]) ∧ SipAt w b (rndI n s) w' := by
  have HB := Lib.hid hb; clear hb
  go_enter Tryz.func228, Tryz.ntmps228
  go_wp2_with fail
  go_loopw [5] (fun i wr => ∃ k : Nat, i = .int .i64 k ∧ k ≤ n ∧ SipAt w b (rndI k s) wr) (fun i _ => n - (intOf i).toNat)
  case atStart => exact ⟨0, rfl, by omega, HB.out, grown_refl _ _⟩
  case round =>
    obtain ⟨k, rfl, hk, hs⟩ := hrel
    have HS := Lib.hid hs; clear hs
    by_cases hlt : k < n
    · have hq : decide ((k : Int) < n) = true := by simp; omega
      obtain ⟨s0, hs0⟩ : ∃ s0, rndI k s = s0 := ⟨_, rfl⟩
      rw [hs0] at HS
      obtain ⟨a, b0, c, d⟩ := s0
      obtain ⟨⟨c0, c1, c2, c3⟩, f0, f1, f2, f3⟩ := HS.out.read
      dsimp only at c0 c1 c2 c3
      go_wp2_with fail
      refine wp_region_noPanic ?_
      refine wp_region_k (by kernel_rfl) (fun w' => w'.cell? ⟨b, 0, none⟩ = some (.int .u64 a) ∧ w'.cell? ⟨b, 1, none⟩ = some (.int .u64 b0) ∧ w'.cell? ⟨b, 2, none⟩ = some (.int .u64 c) ∧ w'.cell? ⟨b, 3, none⟩ = some (.int .u64 d) ∧ w'.frozen? ⟨b, 0, none⟩ = false ∧ w'.frozen? ⟨b, 1, none⟩ = false ∧ w'.frozen? ⟨b, 2, none⟩ = false ∧ w'.frozen? ⟨b, 3, none⟩ = false) 11 (⟨c0, c1, c2, c3, f0, f1, f2, f3⟩) (fun hHeld => ?_)
      refine tK 0 (h := ?_)
      refine tK 1 (h := ?_)
      refine tK 2 (h := ?_)
      refine tK 3 (h := ?_)
      refine tK 4 (h := ?_)
      refine tK 5 (h := ?_)
      refine tK 6 (h := ?_)
      refine tK 7 (h := ?_)
      refine tK 8 (h := ?_)
      refine tK 9 (h := ?_)
      refine tK 10 (h := ?_)
      refine wpAnyK_ready (rs := [11]) (by kernel_rfl) (by simp) ?_
      refine AllReadyK.cons rfl (fun K hK => ?_) AllReadyK.nil
      go_simp
      refine shutK_off hK (by decide) ?_
      clear hK K
      try simp only [List.getElem_toArray, List.getElem_cons_zero, List.getElem_cons_succ, Act.put, List.setIfInBounds_toArray, List.set_cons_zero, List.set_cons_succ]
      refine wpAnyK_done (by kernel_rfl) ?_ _
      refine NoPanic.normal ?_
      first | refine wp_world (fun w1 hw1 => ?_) | refine exitk_world (fun w1 hw1 => ?_)
      have hs : SipAt w b ⟨ad a b0, b0, c, d⟩ w1 := by rw [hw1]; first | exact HS.out.set (n := 0) rfl | exact HS.out.set (n := 1) rfl
      obtain ⟨x1, hx1⟩ : ∃ x, ad a b0 = x := ⟨_, rfl⟩
      rw [hx1] at hs
      have Hx1 := Lib.hid hx1; clear hx1
      clear hw1 HS c0 c1 c2 c3 f0 f1 f2 f3; have HS := Lib.hid hs; clear hs
      obtain ⟨⟨c0, c1, c2, c3⟩, f0, f1, f2, f3⟩ := HS.out.read
      dsimp only at c0 c1 c2 c3
      go_wp2_with fail
      refine wp_region_noPanic ?_
      refine wp_region_k (by kernel_rfl) (fun w' => w'.cell? ⟨b, 0, none⟩ = some (.int .u64 x1) ∧ w'.cell? ⟨b, 1, none⟩ = some (.int .u64 b0) ∧ w'.cell? ⟨b, 2, none⟩ = some (.int .u64 c) ∧ w'.cell? ⟨b, 3, none⟩ = some (.int .u64 d) ∧ w'.frozen? ⟨b, 0, none⟩ = false ∧ w'.frozen? ⟨b, 1, none⟩ = false ∧ w'.frozen? ⟨b, 2, none⟩ = false ∧ w'.frozen? ⟨b, 3, none⟩ = false) 13 (⟨c0, c1, c2, c3, f0, f1, f2, f3⟩) (fun hHeld => ?_)
      refine tK 0 (h := ?_)
      refine tK 1 (h := ?_)
      refine tK 2 (h := ?_)
      refine tK 3 (h := ?_)
      refine tK 4 (h := ?_)
      refine tK 6 (h := ?_)
      refine tK 7 (h := ?_)
      refine tK 8 (h := ?_)
      refine tK 9 (h := ?_)
      refine wpAnyK_ready (rs := [5]) (by kernel_rfl) (by simp) ?_
      refine AllReadyK.cons rfl (fun K hK => ?_) AllReadyK.nil
      go_simp
      refine (rot13 _ _).mono ?_; rintro e wq ⟨rfl, rfl⟩
      refine shutK hK (⟨c0, c1, c2, c3, f0, f1, f2, f3⟩) (fun hHeld => ?_)
      clear hK K
      try simp only [List.getElem_toArray, List.getElem_cons_zero, List.getElem_cons_succ, Act.put, List.setIfInBounds_toArray, List.set_cons_zero, List.set_cons_succ]
      refine tK 10 (h := ?_)
      refine tK 11 (h := ?_)
      refine tK 12 (h := ?_)
      refine wpAnyK_ready (rs := [13]) (by kernel_rfl) (by simp) ?_
      refine AllReadyK.cons rfl (fun K hK => ?_) AllReadyK.nil
      go_simp
      refine shutK_off hK (by decide) ?_
      clear hK K
      try simp only [List.getElem_toArray, List.getElem_cons_zero, List.getElem_cons_succ, Act.put, List.setIfInBounds_toArray, List.set_cons_zero, List.set_cons_succ]
      refine wpAnyK_done (by kernel_rfl) ?_ _
      refine NoPanic.normal ?_
      first | refine wp_world (fun w1 hw1 => ?_) | refine exitk_world (fun w1 hw1 => ?_)
      have hs : SipAt w b ⟨x1, xr (rotP 8192 2251799813685248 b0) x1, c, d⟩ w1 := by rw [hw1]; first | exact HS.out.set (n := 0) rfl | exact HS.out.set (n := 1) rfl
      obtain ⟨x2, hx2⟩ : ∃ x, xr (rotP 8192 2251799813685248 b0) x1 = x := ⟨_, rfl⟩
      rw [hx2] at hs
      have Hx2 := Lib.hid hx2; clear hx2
      clear hw1 HS c0 c1 c2 c3 f0 f1 f2 f3; have HS := Lib.hid hs; clear hs
      obtain ⟨⟨c0, c1, c2, c3⟩, f0, f1, f2, f3⟩ := HS.out.read
      dsimp only at c0 c1 c2 c3
      go_wp2_with fail
      refine (rot32 _ _).mono ?_; rintro e wq ⟨rfl, rfl⟩
      go_wp2_with fail
      first | refine wp_world (fun w1 hw1 => ?_) | refine exitk_world (fun w1 hw1 => ?_)
      have hs : SipAt w b ⟨rotP 4294967296 4294967296 x1, x2, c, d⟩ w1 := by rw [hw1]; first | exact HS.out.set (n := 0) rfl | exact HS.out.set (n := 1) rfl
      obtain ⟨x3, hx3⟩ : ∃ x, rotP 4294967296 4294967296 x1 = x := ⟨_, rfl⟩
      rw [hx3] at hs
      have Hx3 := Lib.hid hx3; clear hx3
      clear hw1 HS c0 c1 c2 c3 f0 f1 f2 f3; have HS := Lib.hid hs; clear hs
      obtain ⟨⟨c0, c1, c2, c3⟩, f0, f1, f2, f3⟩ := HS.out.read
      dsimp only at c0 c1 c2 c3
      go_wp2_with fail
      refine wp_region_noPanic ?_
      refine wp_region_k (by kernel_rfl) (fun w' => w'.cell? ⟨b, 0, none⟩ = some (.int .u64 x3) ∧ w'.cell? ⟨b, 1, none⟩ = some (.int .u64 x2) ∧ w'.cell? ⟨b, 2, none⟩ = some (.int .u64 c) ∧ w'.cell? ⟨b, 3, none⟩ = some (.int .u64 d) ∧ w'.frozen? ⟨b, 0, none⟩ = false ∧ w'.frozen? ⟨b, 1, none⟩ = false ∧ w'.frozen? ⟨b, 2, none⟩ = false ∧ w'.frozen? ⟨b, 3, none⟩ = false) 11 (⟨c0, c1, c2, c3, f0, f1, f2, f3⟩) (fun hHeld => ?_)
      refine tK 0 (h := ?_)
      refine tK 1 (h := ?_)
      refine tK 2 (h := ?_)
      refine tK 3 (h := ?_)
      refine tK 4 (h := ?_)
      refine tK 5 (h := ?_)
      refine tK 6 (h := ?_)
      refine tK 7 (h := ?_)
      refine tK 8 (h := ?_)
      refine tK 9 (h := ?_)
      refine tK 10 (h := ?_)
      refine wpAnyK_ready (rs := [11]) (by kernel_rfl) (by simp) ?_
      refine AllReadyK.cons rfl (fun K hK => ?_) AllReadyK.nil
      go_simp
      refine shutK_off hK (by decide) ?_
      clear hK K
      try simp only [List.getElem_toArray, List.getElem_cons_zero, List.getElem_cons_succ, Act.put, List.setIfInBounds_toArray, List.set_cons_zero, List.set_cons_succ]
      refine wpAnyK_done (by kernel_rfl) ?_ _
      refine NoPanic.normal ?_
      first | refine wp_world (fun w1 hw1 => ?_) | refine exitk_world (fun w1 hw1 => ?_)
      have hs : SipAt w b ⟨x3, x2, ad c d, d⟩ w1 := by rw [hw1]; first | exact HS.out.set (n := 0) rfl | exact HS.out.set (n := 1) rfl
      obtain ⟨x4, hx4⟩ : ∃ x, ad c d = x := ⟨_, rfl⟩
      rw [hx4] at hs
      have Hx4 := Lib.hid hx4; clear hx4
      clear hw1 HS c0 c1 c2 c3 f0 f1 f2 f3; have HS := Lib.hid hs; clear hs
      obtain ⟨⟨c0, c1, c2, c3⟩, f0, f1, f2, f3⟩ := HS.out.read
      dsimp only at c0 c1 c2 c3
      go_wp2_with fail
      refine wp_region_noPanic ?_
      refine wp_region_k (by kernel_rfl) (fun w' => w'.cell? ⟨b, 0, none⟩ = some (.int .u64 x3) ∧ w'.cell? ⟨b, 1, none⟩ = some (.int .u64 x2) ∧ w'.cell? ⟨b, 2, none⟩ = some (.int .u64 x4) ∧ w'.cell? ⟨b, 3, none⟩ = some (.int .u64 d) ∧ w'.frozen? ⟨b, 0, none⟩ = false ∧ w'.frozen? ⟨b, 1, none⟩ = false ∧ w'.frozen? ⟨b, 2, none⟩ = false ∧ w'.frozen? ⟨b, 3, none⟩ = false) 13 (⟨c0, c1, c2, c3, f0, f1, f2, f3⟩) (fun hHeld => ?_)
      refine tK 0 (h := ?_)
      refine tK 1 (h := ?_)
      refine tK 2 (h := ?_)
      refine tK 3 (h := ?_)
      refine tK 4 (h := ?_)
      refine tK 6 (h := ?_)
      refine tK 7 (h := ?_)
      refine tK 8 (h := ?_)
      refine tK 9 (h := ?_)
      refine wpAnyK_ready (rs := [5]) (by kernel_rfl) (by simp) ?_
      refine AllReadyK.cons rfl (fun K hK => ?_) AllReadyK.nil
      go_simp
      refine (rot16 _ _).mono ?_; rintro e wq ⟨rfl, rfl⟩
      refine shutK hK (⟨c0, c1, c2, c3, f0, f1, f2, f3⟩) (fun hHeld => ?_)
      clear hK K
      try simp only [List.getElem_toArray, List.getElem_cons_zero, List.getElem_cons_succ, Act.put, List.setIfInBounds_toArray, List.set_cons_zero, List.set_cons_succ]
      refine tK 10 (h := ?_)
      refine tK 11 (h := ?_)
      refine tK 12 (h := ?_)
      refine wpAnyK_ready (rs := [13]) (by kernel_rfl) (by simp) ?_
      refine AllReadyK.cons rfl (fun K hK => ?_) AllReadyK.nil
      go_simp
      refine shutK_off hK (by decide) ?_
      clear hK K
      try simp only [List.getElem_toArray, List.getElem_cons_zero, List.getElem_cons_succ, Act.put, List.setIfInBounds_toArray, List.set_cons_zero, List.set_cons_succ]
      refine wpAnyK_done (by kernel_rfl) ?_ _
      refine NoPanic.normal ?_
      first | refine wp_world (fun w1 hw1 => ?_) | refine exitk_world (fun w1 hw1 => ?_)
      have hs : SipAt w b ⟨x3, x2, x4, xr (rotP 65536 281474976710656 d) x4⟩ w1 := by rw [hw1]; first | exact HS.out.set (n := 0) rfl | exact HS.out.set (n := 1) rfl
      obtain ⟨x5, hx5⟩ : ∃ x, xr (rotP 65536 281474976710656 d) x4 = x := ⟨_, rfl⟩
      rw [hx5] at hs
      have Hx5 := Lib.hid hx5; clear hx5
      clear hw1 HS c0 c1 c2 c3 f0 f1 f2 f3; have HS := Lib.hid hs; clear hs
      obtain ⟨⟨c0, c1, c2, c3⟩, f0, f1, f2, f3⟩ := HS.out.read
      dsimp only at c0 c1 c2 c3
      go_wp2_with fail
      refine wp_region_noPanic ?_
      refine wp_region_k (by kernel_rfl) (fun w' => w'.cell? ⟨b, 0, none⟩ = some (.int .u64 x3) ∧ w'.cell? ⟨b, 1, none⟩ = some (.int .u64 x2) ∧ w'.cell? ⟨b, 2, none⟩ = some (.int .u64 x4) ∧ w'.cell? ⟨b, 3, none⟩ = some (.int .u64 x5) ∧ w'.frozen? ⟨b, 0, none⟩ = false ∧ w'.frozen? ⟨b, 1, none⟩ = false ∧ w'.frozen? ⟨b, 2, none⟩ = false ∧ w'.frozen? ⟨b, 3, none⟩ = false) 11 (⟨c0, c1, c2, c3, f0, f1, f2, f3⟩) (fun hHeld => ?_)
      refine tK 0 (h := ?_)
      refine tK 1 (h := ?_)
      refine tK 2 (h := ?_)
      refine tK 3 (h := ?_)
      refine tK 4 (h := ?_)
      refine tK 5 (h := ?_)
      refine tK 6 (h := ?_)
      refine tK 7 (h := ?_)
      refine tK 8 (h := ?_)
      refine tK 9 (h := ?_)
      refine tK 10 (h := ?_)
      refine wpAnyK_ready (rs := [11]) (by kernel_rfl) (by simp) ?_
      refine AllReadyK.cons rfl (fun K hK => ?_) AllReadyK.nil
      go_simp
      refine shutK_off hK (by decide) ?_
      clear hK K
      try simp only [List.getElem_toArray, List.getElem_cons_zero, List.getElem_cons_succ, Act.put, List.setIfInBounds_toArray, List.set_cons_zero, List.set_cons_succ]
      refine wpAnyK_done (by kernel_rfl) ?_ _
      refine NoPanic.normal ?_
      first | refine wp_world (fun w1 hw1 => ?_) | refine exitk_world (fun w1 hw1 => ?_)
      have hs : SipAt w b ⟨ad x3 x5, x2, x4, x5⟩ w1 := by rw [hw1]; first | exact HS.out.set (n := 0) rfl | exact HS.out.set (n := 1) rfl
      obtain ⟨x6, hx6⟩ : ∃ x, ad x3 x5 = x := ⟨_, rfl⟩
      rw [hx6] at hs
      have Hx6 := Lib.hid hx6; clear hx6
      clear hw1 HS c0 c1 c2 c3 f0 f1 f2 f3; have HS := Lib.hid hs; clear hs
      obtain ⟨⟨c0, c1, c2, c3⟩, f0, f1, f2, f3⟩ := HS.out.read
      dsimp only at c0 c1 c2 c3
      go_wp2_with fail
      refine wp_region_noPanic ?_
      refine wp_region_k (by kernel_rfl) (fun w' => w'.cell? ⟨b, 0, none⟩ = some (.int .u64 x6) ∧ w'.cell? ⟨b, 1, none⟩ = some (.int .u64 x2) ∧ w'.cell? ⟨b, 2, none⟩ = some (.int .u64 x4) ∧ w'.cell? ⟨b, 3, none⟩ = some (.int .u64 x5) ∧ w'.frozen? ⟨b, 0, none⟩ = false ∧ w'.frozen? ⟨b, 1, none⟩ = false ∧ w'.frozen? ⟨b, 2, none⟩ = false ∧ w'.frozen? ⟨b, 3, none⟩ = false) 13 (⟨c0, c1, c2, c3, f0, f1, f2, f3⟩) (fun hHeld => ?_)
      refine tK 0 (h := ?_)
      refine tK 1 (h := ?_)
      refine tK 2 (h := ?_)
      refine tK 3 (h := ?_)
      refine tK 4 (h := ?_)
      refine tK 6 (h := ?_)
      refine tK 7 (h := ?_)
      refine tK 8 (h := ?_)
      refine tK 9 (h := ?_)
      refine wpAnyK_ready (rs := [5]) (by kernel_rfl) (by simp) ?_
      refine AllReadyK.cons rfl (fun K hK => ?_) AllReadyK.nil
      go_simp
      refine (rot21 _ _).mono ?_; rintro e wq ⟨rfl, rfl⟩
      refine shutK hK (⟨c0, c1, c2, c3, f0, f1, f2, f3⟩) (fun hHeld => ?_)
      clear hK K
      try simp only [List.getElem_toArray, List.getElem_cons_zero, List.getElem_cons_succ, Act.put, List.setIfInBounds_toArray, List.set_cons_zero, List.set_cons_succ]
      refine tK 10 (h := ?_)
      refine tK 11 (h := ?_)
      refine tK 12 (h := ?_)
      refine wpAnyK_ready (rs := [13]) (by kernel_rfl) (by simp) ?_
      refine AllReadyK.cons rfl (fun K hK => ?_) AllReadyK.nil
      go_simp
      refine shutK_off hK (by decide) ?_
      clear hK K
      try simp only [List.getElem_toArray, List.getElem_cons_zero, List.getElem_cons_succ, Act.put, List.setIfInBounds_toArray, List.set_cons_zero, List.set_cons_succ]
      refine wpAnyK_done (by kernel_rfl) ?_ _
      refine NoPanic.normal ?_
      first | refine wp_world (fun w1 hw1 => ?_) | refine exitk_world (fun w1 hw1 => ?_)
      have hs : SipAt w b ⟨x6, x2, x4, xr (rotP 2097152 8796093022208 x5) x6⟩ w1 := by rw [hw1]; first | exact HS.out.set (n := 0) rfl | exact HS.out.set (n := 1) rfl
      obtain ⟨x7, hx7⟩ : ∃ x, xr (rotP 2097152 8796093022208 x5) x6 = x := ⟨_, rfl⟩
      rw [hx7] at hs
      have Hx7 := Lib.hid hx7; clear hx7
      clear hw1 HS c0 c1 c2 c3 f0 f1 f2 f3; have HS := Lib.hid hs; clear hs
      obtain ⟨⟨c0, c1, c2, c3⟩, f0, f1, f2, f3⟩ := HS.out.read
      dsimp only at c0 c1 c2 c3
      go_wp2_with fail
      refine wp_region_noPanic ?_
      refine wp_region_k (by kernel_rfl) (fun w' => w'.cell? ⟨b, 0, none⟩ = some (.int .u64 x6) ∧ w'.cell? ⟨b, 1, none⟩ = some (.int .u64 x2) ∧ w'.cell? ⟨b, 2, none⟩ = some (.int .u64 x4) ∧ w'.cell? ⟨b, 3, none⟩ = some (.int .u64 x7) ∧ w'.frozen? ⟨b, 0, none⟩ = false ∧ w'.frozen? ⟨b, 1, none⟩ = false ∧ w'.frozen? ⟨b, 2, none⟩ = false ∧ w'.frozen? ⟨b, 3, none⟩ = false) 11 (⟨c0, c1, c2, c3, f0, f1, f2, f3⟩) (fun hHeld => ?_)
      refine tK 0 (h := ?_)
      refine tK 1 (h := ?_)
      refine tK 2 (h := ?_)
      refine tK 3 (h := ?_)
      refine tK 4 (h := ?_)
      refine tK 5 (h := ?_)
      refine tK 6 (h := ?_)
      refine tK 7 (h := ?_)
      refine tK 8 (h := ?_)
      refine tK 9 (h := ?_)
      refine tK 10 (h := ?_)
      refine wpAnyK_ready (rs := [11]) (by kernel_rfl) (by simp) ?_
      refine AllReadyK.cons rfl (fun K hK => ?_) AllReadyK.nil
      go_simp
      refine shutK_off hK (by decide) ?_
      clear hK K
      try simp only [List.getElem_toArray, List.getElem_cons_zero, List.getElem_cons_succ, Act.put, List.setIfInBounds_toArray, List.set_cons_zero, List.set_cons_succ]
      refine wpAnyK_done (by kernel_rfl) ?_ _
      refine NoPanic.normal ?_
      first | refine wp_world (fun w1 hw1 => ?_) | refine exitk_world (fun w1 hw1 => ?_)
      have hs : SipAt w b ⟨x6, x2, ad x4 x2, x7⟩ w1 := by rw [hw1]; first | exact HS.out.set (n := 0) rfl | exact HS.out.set (n := 1) rfl
      obtain ⟨x8, hx8⟩ : ∃ x, ad x4 x2 = x := ⟨_, rfl⟩
      rw [hx8] at hs
      have Hx8 := Lib.hid hx8; clear hx8
      clear hw1 HS c0 c1 c2 c3 f0 f1 f2 f3; have HS := Lib.hid hs; clear hs
      obtain ⟨⟨c0, c1, c2, c3⟩, f0, f1, f2, f3⟩ := HS.out.read
      dsimp only at c0 c1 c2 c3
      go_wp2_with fail
      refine wp_region_noPanic ?_
      refine wp_region_k (by kernel_rfl) (fun w' => w'.cell? ⟨b, 0, none⟩ = some (.int .u64 x6) ∧ w'.cell? ⟨b, 1, none⟩ = some (.int .u64 x2) ∧ w'.cell? ⟨b, 2, none⟩ = some (.int .u64 x8) ∧ w'.cell? ⟨b, 3, none⟩ = some (.int .u64 x7) ∧ w'.frozen? ⟨b, 0, none⟩ = false ∧ w'.frozen? ⟨b, 1, none⟩ = false ∧ w'.frozen? ⟨b, 2, none⟩ = false ∧ w'.frozen? ⟨b, 3, none⟩ = false) 13 (⟨c0, c1, c2, c3, f0, f1, f2, f3⟩) (fun hHeld => ?_)
      refine tK 0 (h := ?_)
      refine tK 1 (h := ?_)
      refine tK 2 (h := ?_)
      refine tK 3 (h := ?_)
      refine tK 4 (h := ?_)
      refine tK 6 (h := ?_)
      refine tK 7 (h := ?_)
      refine tK 8 (h := ?_)
      refine tK 9 (h := ?_)
      refine wpAnyK_ready (rs := [5]) (by kernel_rfl) (by simp) ?_
      refine AllReadyK.cons rfl (fun K hK => ?_) AllReadyK.nil
      go_simp
      refine (rot17 _ _).mono ?_; rintro e wq ⟨rfl, rfl⟩
      refine shutK hK (⟨c0, c1, c2, c3, f0, f1, f2, f3⟩) (fun hHeld => ?_)
      clear hK K
      try simp only [List.getElem_toArray, List.getElem_cons_zero, List.getElem_cons_succ, Act.put, List.setIfInBounds_toArray, List.set_cons_zero, List.set_cons_succ]
      refine tK 10 (h := ?_)
      refine tK 11 (h := ?_)
      refine tK 12 (h := ?_)
      refine wpAnyK_ready (rs := [13]) (by kernel_rfl) (by simp) ?_
      refine AllReadyK.cons rfl (fun K hK => ?_) AllReadyK.nil
      go_simp
      refine shutK_off hK (by decide) ?_
      clear hK K
      try simp only [List.getElem_toArray, List.getElem_cons_zero, List.getElem_cons_succ, Act.put, List.setIfInBounds_toArray, List.set_cons_zero, List.set_cons_succ]
      refine wpAnyK_done (by kernel_rfl) ?_ _
      refine NoPanic.normal ?_
      first | refine wp_world (fun w1 hw1 => ?_) | refine exitk_world (fun w1 hw1 => ?_)
      have hs : SipAt w b ⟨x6, xr (rotP 131072 140737488355328 x2) x8, x8, x7⟩ w1 := by rw [hw1]; first | exact HS.out.set (n := 0) rfl | exact HS.out.set (n := 1) rfl
      obtain ⟨x9, hx9⟩ : ∃ x, xr (rotP 131072 140737488355328 x2) x8 = x := ⟨_, rfl⟩
      rw [hx9] at hs
      have Hx9 := Lib.hid hx9; clear hx9
      clear hw1 HS c0 c1 c2 c3 f0 f1 f2 f3; have HS := Lib.hid hs; clear hs
      obtain ⟨⟨c0, c1, c2, c3⟩, f0, f1, f2, f3⟩ := HS.out.read
      dsimp only at c0 c1 c2 c3
      go_wp2_with fail
      refine (rot32 _ _).mono ?_; rintro e wq ⟨rfl, rfl⟩
      go_wp2_with fail
      go_roundw
      case rel =>
        refine ⟨k + 1, by go_num, by omega, ?_⟩
        have hs : SipAt w b ⟨x6, x9, rotP 4294967296 4294967296 x8, x7⟩ (w1.setCell ⟨b, 2, none⟩ (.int .u64 (rotP 4294967296 4294967296 x8))) := HS.out.set (n := 0) rfl
        have e : (⟨x6, x9, rotP 4294967296 4294967296 x8, x7⟩ : Sip) = rndP ⟨a, b0, c, d⟩ := by rw [← Hx9.out, ← Hx8.out, ← Hx7.out, ← Hx6.out, ← Hx5.out, ← Hx4.out, ← Hx3.out, ← Hx2.out, ← Hx1.out]; rfl
        rw [rndI, hs0, ← e]; exact hs
      case measure => simp [intOf]; omega
    · have hq : decide ((k : Int) < n) = false := by simp; omega
      obtain rfl : k = n := by omega
      go_wp2_with fail
      go_end0
      exact ⟨rfl, HS.out⟩
set_option maxHeartbeats 1000000 in
theorem sword_any (b : Nat) (s : Sip) (m : Int) (w : World) (hb : w.heap[b]? = some (.cells (sipC s) 240 (0, 0))) :
    Calls Tryz.prog 226 #[.pointer (some ⟨b, 0, none⟩), .int .u64 m] w fun e w' => e = .returned (.tuple #[]) ∧ SipAt w b (wordP s m) w' := by
  have hs : SipAt w b s w := ⟨hb, grown_refl _ _⟩
  have HS := Lib.hid hs; clear hs hb
  obtain ⟨⟨c0, c1, c2, c3⟩, f0, f1, f2, f3⟩ := HS.out.read
  go_enter Tryz.func226, Tryz.ntmps226
  go_wp2_with fail
  have hs1 : SipAt w b ⟨s.a, s.b, s.c, xr s.d m⟩ (w.setCell ⟨b, 3, none⟩ (.int .u64 (xr s.d m))) := HS.out.set (n := 0) rfl
  refine (rounds_any b ⟨s.a, s.b, s.c, xr s.d m⟩ 2 _ hs1.1 (by omega)).mono ?_
  rintro e w1 ⟨rfl, hs2⟩
  have hs3 : SipAt w b (rndP (rndP ⟨s.a, s.b, s.c, xr s.d m⟩)) w1 := ⟨hs2.1, grown_trans hs1.2 hs2.2⟩
  obtain ⟨t, ht⟩ : ∃ t, rndP (rndP ⟨s.a, s.b, s.c, xr s.d m⟩) = t := ⟨_, rfl⟩
  rw [ht] at hs3
  have hw : wordP s m = ⟨xr t.a m, t.b, t.c, t.d⟩ := by rw [← ht]; rfl
  have HW := Lib.hid hw
  clear hs1 hs2 ht hw HS c0 c1 c2 c3 f0 f1 f2 f3
  have HS := Lib.hid hs3; clear hs3
  obtain ⟨⟨c0, c1, c2, c3⟩, f0, f1, f2, f3⟩ := HS.out.read
  go_wp2_with fail
  go_end0
  exact ⟨rfl, by rw [HW.out]; exact HS.out.set (n := 0) rfl⟩
/-- a slice of bytes -/
abbrev encB (c : UInt8) : List Value := [byteV c]
set_option maxHeartbeats 1000000 in
theorem snumber_any (S : Nat → Prop) (v : Value) (l : List UInt8) (w : World) (h : Vec w S 1 encB v l) (hl : l.length ≤ 8) :
    Calls Tryz.prog 227 #[v] w fun e w' => e = .returned (.int .u64 (numP 0 0 l)) ∧ w = w' := by
  obtain ⟨a, cap, rfl⟩ := h.slice
  have HV := Lib.hid h; clear h
  go_enter Tryz.func227, Tryz.ntmps227
  go_wp2_with fail
  go_loopw [3, 4, 5, 8] (fun m _ _ i wr => wr = w ∧ ∃ (k : Nat) (mm : Int), i = .int .i64 k ∧ k ≤ l.length ∧ m = .int .u64 mm ∧ Hid (numP k mm (l.drop k) = numP 0 0 l)) (fun _ _ _ i _ => l.length - (intOf i).toNat)
  case atStart => exact ⟨rfl, 0, 0, rfl, by omega, rfl, Lib.hid rfl⟩
  case round =>
    obtain ⟨rfl, k, mm, rfl, hk, rfl, HT⟩ := hrel
    by_cases hlt : k < l.length
    · have hq : decide ((k : Int) < l.length) = true := by simp; omega
      obtain ⟨b, off, rfl, hb, hc⟩ := HV.out.get k hlt
      have c0 := hc 0 _ rfl
      rw [Nat.mul_one, Nat.add_zero] at c0
      unfold byteV at c0
      go_wp2_with fail
      go_roundw
      case rel => exact ⟨trivial, k + 1, _, by go_num, by omega, rfl, Lib.hid (by rw [← HT.out, List.drop_eq_getElem_cons hlt]; rfl)⟩
      case measure => simp [intOf]; omega
    · have hq : decide ((k : Int) < l.length) = false := by simp; omega
      have hd : l.drop k = [] := List.drop_eq_nil_of_le (by omega)
      rw [hd] at HT
      obtain rfl : mm = numP 0 0 l := HT.out
      clear HT hd
      go_wp2_with fail
      go_ret
      exact ⟨rfl, rfl⟩
end
end Go.Proofs.YtaoebplnbcimlaaGreatDoor
