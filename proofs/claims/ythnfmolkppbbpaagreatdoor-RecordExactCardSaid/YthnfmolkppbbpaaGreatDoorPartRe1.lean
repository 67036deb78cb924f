/- Parts of one proof: HeldK, Take, Lib, Lib2, CellOne, TextPlain, SipPlain, TextA, DatePlain, DateA, DateB, DateC, TextB, TextC, Read, Vec, Shelf, TextD, TextE, TextF, NameA, NameB, NameC, NameD, NameE. -/
import Derived.OrdersHeld
import Derived.Deep.RegionHeld
import Derived.ProofKit
import Derived.Test.YthnfmolkppbbpaaGreatDoorRows
import Derived.WalkKit
import Derived.WalkSpells
import Derived.WalkSmall
import Derived.WalkLawsBesides
import Derived.Lib.Hide
import Derived.BigQuiet
import Derived.Deep.QuietTactic
import Derived.ChangeKeysEq
import Derived.Laws.BytesArg
import Derived.IntWalk
import Derived.Deep.Light
import Derived.Below
import Derived.Deep.RegionHeld3
import Derived.StillTailTactics
import Derived.Lib.FieldsP
import Derived.Lib.Join
import Derived.Shelf.Strings.Builder1
import Derived.Shelf.Strings.Builder2
import Derived.Shelf.Strings.OnBuilder
import Derived.Shelf.Strings.Trim
import Derived.Shelf.Small.Bits
import Derived.Shelf.Small.Strs
import Derived.Shelf.Strings.BuilderF
import Derived.Shelf.Strings.BuilderK
import Derived.Shelf.Strconv.Atoi
import Derived.Shelf.Strconv.Itoa0
import Derived.Shelf.Strconv.Itoa1
import Derived.Shelf.LaysM
import Derived.Shelf.Strconv.Itoa2
import Derived.Shelf.Strconv.Itoa3
import Derived.Shelf.Strconv.AtoiErrFast
import Derived.Shelf.Strconv.ParseIntEmpty
import Derived.Shelf.Strconv.AtoiFail
import Derived.Shelf.Strconv.Clone
import Derived.Shelf.Strconv.SyntaxError
import Derived.Shelf.LaysC
import Derived.Shelf.Strconv.ToError
import Derived.Shelf.Strconv.Lower
import Derived.Shelf.Strconv.ParseUint10
import Derived.Shelf.Strconv.ParseUint10Empty
import Derived.Shelf.Strconv.ParseUint10Any
import Derived.Shelf.Strconv.ParseInt10
import Derived.Shelf.Strconv.AtoiLong
import Derived.Shelf.Strconv.AtoiInnerAll
import Derived.Shelf.Strconv.RangeError
import Derived.Shelf.Strconv.ToErrorRange
import Derived.Shelf.Strconv.AtoiAll
import Derived.Shelf.Strings.Search1
import Derived.Shelf.Strings.Search2
import Derived.Shelf.Strings.Search3
import Derived.Shelf.Strings.Cut
import Derived.Shelf.Strings.Count
import Derived.Shelf.Strings.Shaped
import Derived.Shelf.Strings.LastIndex
import Derived.Shelf.Strings.Prefix
import Derived.Shelf.Strings.Split
import Derived.Shelf.Strings.SplitShaped
import Derived.Shelf.Unicode.Decode
import Derived.Shelf.Strings.Runes
import Derived.Shelf.Strings.RuneCount
import Derived.Shelf.Strings.AsciiSet
import Derived.Shelf.Strings.Explode
import Derived.Shelf.Bits.Mul64
import Derived.Shelf.Strings.Repeat
import Derived.Shelf.Strings.FieldsFuncAny
import Derived.Shelf.Slices.Turned
import Derived.Test.YthnfmolkppbbpaaGreatDoorProg
import Derived.Ground.SlgfProg
import Derived.Shelf.SlicesQ.IndexFunc
import Derived.Deep.WholeRow
import Derived.Deep.CutBlock
import Derived.Great.BuildSlice
import Derived.Lib.QuietBelow
set_option linter.unusedSimpArgs false
set_option linter.unusedVariables false
namespace Go.Proofs.YthnfmolkppbbpaaGreatDoor
section
open Go
section
variable {P : Program} {ops : Array Oper} {Q : Exit → Act → World → Prop} {md : Region.Mode} {S : World → Prop} {k : Nat}
/-- whatever is listed, all that it waits for is listed -/
def Closed (md : Region.Mode) (ops : Array Oper) (l : Array Bool) : Prop :=
 ∀ j o, ops[j]? = some o → l.getD j false = true → ∀ e ∈ o.after, Region.binds md e = true → l.getD e.on false = true
def closedB (md : Region.Mode) (ops : Array Oper) (l : Array Bool) : Bool :=
 (List.range ops.size).all fun j => match ops[j]? with
  | none => true
  | some o => !l.getD j false || o.after.all fun e => !Region.binds md e || l.getD e.on false
theorem closed_spec {l : Array Bool} (h : closedB md ops l = true) : Closed md ops l := by
 intro j o ho hl e he hb
 have hj : j < ops.size := (Array.getElem?_eq_some_iff.1 ho).1
 have h1 := List.all_eq_true.1 h j (List.mem_range.2 hj)
 simp only [ho] at h1
 rw [hl] at h1
 simp only [Bool.not_true, Bool.false_or, Array.all_eq_true_iff_forall_mem] at h1
 have h2 := h1 e he
 rw [hb] at h2
 simpa using h2
theorem closed_step {l : Array Bool} {j : Nat} (h : Closed md ops l) (hj : j ∈ Region.ready md ops l) : Closed md ops (l.setIfInBounds j true) := by
 intro i o ho hl e he hb
 by_cases hij : i = j
 ·subst hij
  obtain ⟨_, o', ho', hall⟩ := mem_ready.1 hj
  rw [ho] at ho'; cases ho'
  exact getD_set_true (hall e he hb)
 ·rw [getD_set_ne false (fun e => hij e.symm)] at hl
  exact getD_set_true (h i o ho hl e he hb)
/-- k waits for i -/
def reachB (md : Region.Mode) (ops : Array Oper) : Nat → Nat → Nat → Bool
 | 0, _, _ => false
 | f + 1, i, k => match ops[k]? with
  | none => false
  | some o => o.after.any fun e => Region.binds md e && (e.on == i || reachB md ops f i e.on)
theorem reach_spec {l : Array Bool} (hc : Closed md ops l) : ∀ (f i k : Nat), reachB md ops f i k = true → l.getD k false = true → l.getD i false = true := by
 intro f
 induction f with
 | zero => intro i k h; simp [reachB] at h
 | succ f ih =>
  intro i k h hk
  unfold reachB at h
  cases ho : ops[k]? with
  | none => simp [ho] at h
  | some o =>
   simp only [ho] at h
   obtain ⟨e, he, hb⟩ := Array.any_eq_true'.1 h
   simp only [Bool.and_eq_true, Bool.or_eq_true, beq_iff_eq] at hb
   have h1 := hc k o ho hk e he hb.1
   rcases hb.2 with h2 | h2
   ·rw [← h2]; exact h1
   ·exact ih i e.on h2 h1
def wpAnyK (P : Program) (md : Region.Mode) (ops : Array Oper) (Q : Exit → Act → World → Prop) (S : World → Prop) (k : Nat) : Nat → Array Bool → Act → World → Prop
 | 0, listed, a, w => Region.ready md ops listed = [] ∧ Q .normal a w
 | fuel + 1, listed, a, w =>
  (Region.ready md ops listed = [] → Q .normal a w) ∧
  ∀ i ∈ Region.ready md ops listed, wpOp P ops Q i (fun a' w' => ((listed.setIfInBounds i true).getD k false = false → S w') ∧ wpAnyK P md ops Q S k fuel (listed.setIfInBounds i true) a' w') a w
theorem wpAny_of_k : ∀ (fuel : Nat) (listed : Array Bool) (a : Act) (w : World), wpAnyK P md ops Q S k fuel listed a w → wpAny P md ops Q fuel listed a w
 | 0, _, _, _, h => h
 | fuel + 1, _, _, _, h => ⟨h.1, fun i hi => wpOp_mono (fun a' w' h' => wpAny_of_k fuel _ a' w' h'.2) (h.2 i hi)⟩
theorem wpAnyK_first {i : Nat} {oi : Oper} {v : Value} (hi : ops[i]? = some oi) (hsel : ∀ (j : Nat) (o : Oper) cs b, ops[j]? = some o → o.op ≠ .select cs b)
  (hQ : ∀ c a w, Q (.panic c) (a.put oi.dst v) w → Q (.panic c) a w) (f : Nat) (hreach : reachB md ops f i k = true) (hik : i ≠ k) :
  ∀ (fuel : Nat) (listed : Array Bool) (a : Act) (w : World), Closed md ops listed →
   (∀ j oj, ops[j]? = some oj → j ≠ i → listed.getD j true = false → (∀ e ∈ oj.after, Region.binds md e = true → e.on ≠ i) → oi.apart ops oj = true) →
   i ∈ Region.ready md ops listed → YieldsIf P ops S oi v a → S w →
   wpAnyK P md ops Q S k fuel (listed.setIfInBounds i true) (a.put oi.dst v) w → wpAnyK P md ops Q S k (fuel + 1) listed a w := by
 intro fuel
 induction fuel with
 | zero =>
  intro listed a w _ _ hr hy hS H
  refine ⟨fun h => (by rw [h] at hr; cases hr), fun j hj => ?_⟩
  by_cases hji : j = i
  ·subst hji; exact hy.wpOp hi hS ⟨fun _ => hS, H⟩
  ·have := ready_mono hj hji
   rw [H.1] at this
   cases this
 | succ fuel ih =>
  intro listed a w hcl hfree hr hy hS H
  refine ⟨fun h => (by rw [h] at hr; cases hr), fun j hj => ?_⟩
  by_cases hji : j = i
  ·subst hji; exact hy.wpOp hi hS ⟨fun _ => hS, H⟩
  ·have h1 := H.2 j (ready_mono hj hji)
   have hcl' := closed_step hcl hj
   obtain ⟨hjun, oj, hoj, hall⟩ := mem_ready.1 hj
   have hil : i < listed.size := by
    have h0 := (mem_ready.1 hr).1
    rcases Nat.lt_or_ge i listed.size with h' | h'
    ·exact h'
    ·simp [Array.getElem?_eq_none h'] at h0
   have hif : (listed.setIfInBounds j true).getD i false = false := by
    rw [getD_set_ne false hji]
    have h0 := (mem_ready.1 hr).1
    simp [hil] at h0 ⊢; exact h0
   have hnot : ∀ e ∈ oj.after, Region.binds md e = true → e.on ≠ i := fun e he hb heq => by
    have h1 := hall e he hb
    have h0 := (mem_ready.1 hr).1
    rw [heq] at h1
    simp [hil] at h0 h1; rw [h0] at h1; cases h1
   have hkf : ((listed.setIfInBounds i true).setIfInBounds j true).getD k false = false := by
    have hne : (listed.setIfInBounds j true).getD k false = false := by
     cases hv : (listed.setIfInBounds j true).getD k false with
     | false => rfl
     | true => rw [reach_spec hcl' f i k hreach hv] at hif; cases hif
    rw [Array.setIfInBounds_comm _ _ (fun e => hji e.symm), getD_set_ne false hik]; exact hne
   have h2 := wpOp_putIf hoj (hfree j oj hoj hji hjun hnot) (fun cs b => hsel i oi cs b hi) (fun cs b => hsel j oj cs b hoj) hQ hy h1
   have hfree' : ∀ k ok, ops[k]? = some ok → k ≠ i → (listed.setIfInBounds j true).getD k true = false →
     (∀ e ∈ ok.after, Region.binds md e = true → e.on ≠ i) → oi.apart ops ok = true := fun k ok hk hki hun hno => by
    refine hfree k ok hk hki ?_ hno
    by_cases hjk : j = k
    ·subst hjk; exact hjun
    ·rw [getD_set_ne true hjk] at hun; exact hun
   refine wpOp_mono (fun a' w' h3 => ⟨fun _ => h3.2.1 hkf, ih (listed.setIfInBounds j true) a' w' hcl' hfree' (ready_mono hr (Ne.symm hji)) h3.1 (h3.2.1 hkf) ?_⟩) h2
   rw [Array.setIfInBounds_comm _ _ hji]
   exact h3.2.2
theorem wpAnyK_take {i : Nat} {oi : Oper} {v : Value} {fuel : Nat} {listed : Array Bool} {a : Act} {w : World} (hi : ops[i]? = some oi)
  (hs : Region.noSelect ops = true) (hf : Region.free md ops listed i = true) (hr : (Region.ready md ops listed).contains i = true)
  (hc : (closedB md ops listed && reachB md ops 12 i k && (i != k)) = true)
  (hQ : ∀ c a w, Q (.panic c) (a.put oi.dst v) w → Q (.panic c) a w) (hy : YieldsIf P ops S oi v a) (hS : S w)
  (h : wpAnyK P md ops Q S k fuel (listed.setIfInBounds i true) (a.put oi.dst v) w) : wpAnyK P md ops Q S k (fuel + 1) listed a w := by
 simp only [Bool.and_eq_true, bne_iff_ne, ne_eq] at hc
 exact wpAnyK_first hi (Region.noSelect_spec hs) hQ 12 hc.1.2 hc.2 fuel listed a w (closed_spec hc.1.1) (Region.free_spec hi hf) (by simpa using hr) hy hS h
theorem wpAnyK_all {rs : List Nat} {fuel : Nat} {listed : Array Bool} {a : Act} {w : World} (hr : Region.ready md ops listed = rs) (hne : rs ≠ [])
  (h : ∀ i ∈ rs, wpOp P ops Q i (fun a' w' => ((listed.setIfInBounds i true).getD k false = false → S w') ∧ wpAnyK P md ops Q S k fuel (listed.setIfInBounds i true) a' w') a w) : wpAnyK P md ops Q S k (fuel + 1) listed a w :=
 ⟨fun h0 => absurd (hr ▸ h0) hne, hr ▸ h⟩
theorem wpAnyK_done {listed : Array Bool} {a : Act} {w : World} (hr : Region.ready md ops listed = []) (h : Q .normal a w) :
  ∀ fuel, wpAnyK P md ops Q S k fuel listed a w
 | 0 => ⟨hr, h⟩
 | _ + 1 => ⟨fun _ => h, by rw [hr]; simp⟩
def AllReadyK (P : Program) (md : Region.Mode) (ops : Array Oper) (Q : Exit → Act → World → Prop) (S : World → Prop) (k fuel : Nat) (listed : Array Bool) (a : Act) (w : World) (rs : List Nat) : Prop :=
 ∀ i ∈ rs, wpOp P ops Q i (fun a' w' => ((listed.setIfInBounds i true).getD k false = false → S w') ∧ wpAnyK P md ops Q S k fuel (listed.setIfInBounds i true) a' w') a w
theorem AllReadyK.nil {fuel : Nat} {listed : Array Bool} {a : Act} {w : World} : AllReadyK P md ops Q S k fuel listed a w [] := fun _ h => by cases h
theorem AllReadyK.cons {fuel : Nat} {listed : Array Bool} {a : Act} {w : World} {i : Nat} {o : Oper} {rs : List Nat} (ho : ops[i]? = some o)
  (h : ∀ K' : Act → World → Prop, Shut (∀ a w, ((listed.setIfInBounds i true).getD k false = false → S w) → wpAnyK P md ops Q S k fuel (listed.setIfInBounds i true) a w → K' a w) → if Region.wanted o (yielded ops a.tmps) = true then Oper.wp P o a w K' Q else K' (a.put o.dst undef) w)
  (hs : AllReadyK P md ops Q S k fuel listed a w rs) : AllReadyK P md ops Q S k fuel listed a w (i :: rs) := fun j hj => by
 rcases List.mem_cons.1 hj with rfl | hj
 ·exact wpOp_step ho (fun K' hK => h K' (fun a w hS hW => hK a w ⟨hS, hW⟩))
 ·exact hs j hj
theorem wpAnyK_ready {rs : List Nat} {fuel : Nat} {listed : Array Bool} {a : Act} {w : World} (hr : Region.ready md ops listed = rs) (hne : rs ≠ [])
  (h : AllReadyK P md ops Q S k fuel listed a w rs) : wpAnyK P md ops Q S k (fuel + 1) listed a w := wpAnyK_all hr hne h
theorem wp_region_k {id : Nat} {a : Act} {w : World} (hm : P.follows .mixedOrders = true) (S : World → Prop) (k : Nat) (hS : S w.drew)
  (h : S w.drew → wpAnyK P .any ops Q S k ops.size (Array.replicate ops.size false) a w.drew) : (Code.region id ops true).wp P Q a w :=
 wp_region_any hm (wpAny_of_k _ _ _ _ (h hS))
theorem shutK {S : World → Prop} {W : Act → World → Prop} {c : Prop} {K' : Act → World → Prop} {a : Act} {w : World} (hK : Shut (∀ a w, (c → S w) → W a w → K' a w)) (hS : S w) (h : S w → W a w) : K' a w := hK.out _ _ (fun _ => hS) (h hS)
theorem shutK_off {S : World → Prop} {W : Act → World → Prop} {c : Prop} {K' : Act → World → Prop} {a : Act} {w : World} (hK : Shut (∀ a w, (c → S w) → W a w → K' a w)) (hc : ¬ c) (h : W a w) : K' a w := hK.out _ _ (fun h0 => absurd h0 hc) h
end
end
section
open Go Go.RowKit
section
variable {P : Program} {ops : Array Oper} {Q : Exit → Act → World → Prop} {md : Region.Mode} {S : World → Prop} {k : Nat} {oi : Oper} {v : Value} {fuel : Nat} {listed : Array Bool} {a : Act} {w : World}
theorem tH (i : Nat) (hi : ops[i]? = some oi := by rfl) (hs : Region.noSelect ops = true := by kernel_rfl) (hf : Region.free md ops listed i = true := by kernel_rfl) (hr : (Region.ready md ops listed).contains i = true := by kernel_rfl)
  (hQ : ∀ c a w, Q (.panic c) (a.put oi.dst v) w → Q (.panic c) a w := by exact fun _ _ _ h => h) (hg : Region.wanted oi (yielded ops a.tmps) = true := by rfl)
  (hy : ∀ w, S w → (execOp a.eval oi).run P w = .ok (.value v) w := by intro wS hSw; (try dsimp only at hSw); go_simp; try with_reducible rfl) (hS : S w := by assumption)
  {a' : Act} {l' : Array Bool} (ha : a.put oi.dst v = a' := by first | (simp only [List.getElem_toArray, List.getElem_cons_zero, List.getElem_cons_succ, Act.put, List.setIfInBounds_toArray, List.set_cons_zero, List.set_cons_succ]; done) | (simp only [List.getElem_toArray, List.getElem_cons_zero, List.getElem_cons_succ, Act.put, List.setIfInBounds_toArray, List.set_cons_zero, List.set_cons_succ]; rfl) | rfl) (hl : listed.setIfInBounds i true = l' := by first | (simp only [List.getElem_toArray, List.getElem_cons_zero, List.getElem_cons_succ, Act.put, List.setIfInBounds_toArray, List.set_cons_zero, List.set_cons_succ]; done) | (simp only [List.getElem_toArray, List.getElem_cons_zero, List.getElem_cons_succ, Act.put, List.setIfInBounds_toArray, List.set_cons_zero, List.set_cons_succ]; rfl) | rfl)
  (h : wpAnyH P md ops Q S fuel l' a' w) : wpAnyH P md ops Q S (fuel + 1) listed a w :=
 wpAnyH_take hi hs hf hr hQ (Or.inl ⟨hg, hy⟩) hS (by rw [ha, hl]; exact h)
theorem sH (i : Nat) (hi : ops[i]? = some oi := by rfl) (hs : Region.noSelect ops = true := by kernel_rfl) (hf : Region.free md ops listed i = true := by kernel_rfl) (hr : (Region.ready md ops listed).contains i = true := by kernel_rfl)
  (hQ : ∀ c a w, Q (.panic c) (a.put oi.dst undef) w → Q (.panic c) a w := by exact fun _ _ _ h => h) (hg : Region.wanted oi (yielded ops a.tmps) = false := by rfl) (hS : S w := by assumption)
  {a' : Act} {l' : Array Bool} (ha : a.put oi.dst undef = a' := by first | (simp only [List.getElem_toArray, List.getElem_cons_zero, List.getElem_cons_succ, Act.put, List.setIfInBounds_toArray, List.set_cons_zero, List.set_cons_succ]; done) | (simp only [List.getElem_toArray, List.getElem_cons_zero, List.getElem_cons_succ, Act.put, List.setIfInBounds_toArray, List.set_cons_zero, List.set_cons_succ]; rfl) | rfl) (hl : listed.setIfInBounds i true = l' := by first | (simp only [List.getElem_toArray, List.getElem_cons_zero, List.getElem_cons_succ, Act.put, List.setIfInBounds_toArray, List.set_cons_zero, List.set_cons_succ]; done) | (simp only [List.getElem_toArray, List.getElem_cons_zero, List.getElem_cons_succ, Act.put, List.setIfInBounds_toArray, List.set_cons_zero, List.set_cons_succ]; rfl) | rfl)
  (h : wpAnyH P md ops Q S fuel l' a' w) : wpAnyH P md ops Q S (fuel + 1) listed a w :=
 wpAnyH_take hi hs hf hr hQ (Or.inr ⟨hg, rfl⟩) hS (by rw [ha, hl]; exact h)
theorem tK (i : Nat) (hi : ops[i]? = some oi := by rfl) (hs : Region.noSelect ops = true := by kernel_rfl) (hf : Region.free md ops listed i = true := by kernel_rfl) (hr : (Region.ready md ops listed).contains i = true := by kernel_rfl)
  (hc : (closedB md ops listed && reachB md ops 12 i k && (i != k)) = true := by kernel_rfl)
  (hQ : ∀ c a w, Q (.panic c) (a.put oi.dst v) w → Q (.panic c) a w := by exact fun _ _ _ h => h) (hg : Region.wanted oi (yielded ops a.tmps) = true := by rfl)
  (hy : ∀ w, S w → (execOp a.eval oi).run P w = .ok (.value v) w := by intro wS hSw; (try dsimp only at hSw); go_simp; try with_reducible rfl) (hS : S w := by assumption)
  {a' : Act} {l' : Array Bool} (ha : a.put oi.dst v = a' := by first | (simp only [List.getElem_toArray, List.getElem_cons_zero, List.getElem_cons_succ, Act.put, List.setIfInBounds_toArray, List.set_cons_zero, List.set_cons_succ]; done) | (simp only [List.getElem_toArray, List.getElem_cons_zero, List.getElem_cons_succ, Act.put, List.setIfInBounds_toArray, List.set_cons_zero, List.set_cons_succ]; rfl) | rfl) (hl : listed.setIfInBounds i true = l' := by first | (simp only [List.getElem_toArray, List.getElem_cons_zero, List.getElem_cons_succ, Act.put, List.setIfInBounds_toArray, List.set_cons_zero, List.set_cons_succ]; done) | (simp only [List.getElem_toArray, List.getElem_cons_zero, List.getElem_cons_succ, Act.put, List.setIfInBounds_toArray, List.set_cons_zero, List.set_cons_succ]; rfl) | rfl)
  (h : wpAnyK P md ops Q S k fuel l' a' w) : wpAnyK P md ops Q S k (fuel + 1) listed a w :=
 wpAnyK_take hi hs hf hr hc hQ (Or.inl ⟨hg, hy⟩) hS (by rw [ha, hl]; exact h)
end
end
section
open Go.RowKit

section
variable {P : Program} {w : World}
theorem run_index_arr {T len e : Nat} {k : IntKind} {i : Int} {cs : Array Value} {v : Value} (hu : P.underlying T = some (.array len e)) (he : P.plainKey e = true)
  (hs : ∀ w, (Go.sizeOf e).run P w = .ok 1 w) (h0 : 0 ≤ i) (h1 : i < len) (hv : cs[i.toNat]? = some v) (w : World) :
  (Instr.index T (.agg cs) (.int k i)).run P w = .ok v w := by
 simp [Instr.index, asIntOf, run_underlying hu, h0, h1, hs, run_part_plain w he hv]
theorem quiet_eq {f : FuncId} {args : Array Value} {n : Nat} {v : Value}
  (h : Calls P f args (w.drewN n) fun e w' => e = .returned v ∧ w.drewN n = w') : Calls P f args (w.drewN n) fun e w'' => e = .returned v ∧ ∃ m, w'' = w.drewN m :=
 h.mono fun _ _ ⟨he, hm⟩ => ⟨he, n, hm.symm⟩
end
theorem bcell {W w1 : World} (hb : Below W.heap.size W w1) : (∀ b o, b < W.heap.size → w1.cell? ⟨b, o, none⟩ = W.cell? ⟨b, o, none⟩) ∧ (∀ b o, b < W.heap.size → w1.frozen? ⟨b, o, none⟩ = W.frozen? ⟨b, o, none⟩) :=
 ⟨fun b o h => hb.cell (p := ⟨b, o, none⟩) h, fun b o h => hb.frozen (p := ⟨b, o, none⟩) h⟩
theorem blk_set {w : World} {b i : Nat} {v : Value} {cs : Array Value} {t : TypeId} {fr : Nat × Nat} (h : w.heap[b]? = some (.cells cs t fr)) :
  (w.setCell ⟨b, i, none⟩ v).heap[b]? = some (.cells (cs.setIfInBounds i v) t fr) := by
 have hlt : b < w.heap.size := by
  rcases Nat.lt_or_ge b w.heap.size with h' | h'
  ·exact h'
  ·simp [Array.getElem?_eq_none h'] at h
 have h' : w.heap[b] = .cells cs t fr := by simpa [Array.getElem?_eq_getElem hlt] using h
 show (w.heap.modify b _)[b]? = _
 rw [Array.getElem?_eq_getElem (by simpa using hlt), Array.getElem_modify_self, h']
 rfl
theorem blk_new {w : World} {k : Nat} {o : Obj} (h : k = w.heap.size) : (w.alloc o).heap[k]? = some o := by rw [h]; exact heap_alloc_new w o
theorem blk_old {w : World} {k : Nat} {o o' : Obj} (h : w.heap[k]? = some o') : (w.alloc o).heap[k]? = some o' := by
 have hlt : k < w.heap.size := by
  rcases Nat.lt_or_ge k w.heap.size with h' | h'
  ·exact h'
  ·simp [Array.getElem?_eq_none h'] at h
 rw [heap_alloc_old w o hlt]; exact h
theorem cells3 {w : World} {b : Nat} {x y z : Value} {t : TypeId} {fr : Nat × Nat} (h : w.heap[b]? = some (.cells #[x, y, z] t fr)) :
  w.cell? ⟨b, 0, none⟩ = some x ∧ w.cell? ⟨b, 1, none⟩ = some y ∧ w.cell? ⟨b, 2, none⟩ = some z := by
 refine ⟨?_, ?_, ?_⟩ <;> (rw [cell_of_row _ _ _ _ _ _ h]; rfl)
theorem free3 {w : World} {b : Nat} {cs : Array Value} {t : TypeId} (h : w.heap[b]? = some (.cells cs t (0, 0))) :
  w.frozen? ⟨b, 0, none⟩ = false ∧ w.frozen? ⟨b, 1, none⟩ = false ∧ w.frozen? ⟨b, 2, none⟩ = false := ⟨frozen_of_row _ _ _ _ _ h, frozen_of_row _ _ _ _ _ h, frozen_of_row _ _ _ _ _ h⟩
theorem add_plain (b o j : Nat) : (⟨b, o, none⟩ : Addr).add j = ⟨b, o + j, none⟩ := by unfold Addr.add; split <;> simp_all
theorem lt_of_blk {w : World} {k : Nat} {o : Obj} (h : w.heap[k]? = some o) : k < w.heap.size := (Array.getElem?_eq_some_iff.1 h).1
/-- a slice of integers that came in: nil, or a row of cells -/
def IsRow (k : IntKind) (w : World) (a : Option Addr) (len cap : Nat) (zs : List Int) : Prop :=
 (a = none ∧ len = 0 ∧ cap = 0 ∧ zs = []) ∨
 ∃ x, a = some x ∧ len ≤ cap ∧ cap ≤ maxLen ∧ zs.length = cap ∧ (∀ i, i < zs.length → w.cell? (x.add i) = some (.int k (zs.getD i 0))) ∧ ∀ n ∈ zs, (Lit.int k n).wf = true
theorem IsRow.read {k : IntKind} {w : World} {a : Option Addr} {len cap : Nat} {zs : List Int} (h : IsRow k w a len cap zs) :
  0 < len → ∃ b off, a = some ⟨b, off, none⟩ ∧ b < w.heap.size ∧ ∀ i, i < len → ∃ x : Int, w.cell? ⟨b, off + i, none⟩ = some (.int k x) := by
 intro h0
 rcases h with ⟨_, h1, _⟩ | ⟨x, rfl, hl, hm, hz, hc, _⟩
 ·omega
 ·obtain ⟨b, off, spot⟩ := x
  have hs : spot = none := by
   have := hc 0 (by omega)
   cases spot with
   | none => rfl
   | some s =>
    exfalso
    have he : ((⟨b, off, some s⟩ : Addr).add 0).spot.isSome = true := by unfold Addr.add; split <;> simp_all
    unfold World.cell? at this
    split at this
    ·rw [if_pos he] at this; cases this
    ·cases this
  subst hs
  refine ⟨b, off, rfl, ?_, fun i hi => ⟨zs.getD i 0, by rw [← add_plain]; exact hc i (by omega)⟩⟩
  have := hc 0 (by omega)
  rw [add_plain] at this
  exact World.block_lt_of_cell? _ _ this
theorem blk_far {w : World} {b : Nat} {a : Addr} {v : Value} {o : Obj} (h : w.heap[b]? = some o) (hn : b ≠ a.block) : (w.setCell a v).heap[b]? = some o := by
 rw [heap_setCell_other _ _ _ _ hn]; exact h
theorem blk_below {W w1 : World} {B b : Nat} {o : Obj} (hb : Below B W w1) (h : b < B) (ho : W.heap[b]? = some o) : w1.heap[b]? = some o := (hb.block b h).trans ho
section
variable {P : Program} {w : World} {fn : Func} {p u : Tmp} {ty : TypeId} {tmps : Array Value} {g : Nat} {t : TypeId} {cs : Array Value} {fr : Nat × Nat} {d : TypeDesc} {R : Ending → World → Prop}
theorem results_cell_row2 (h : fn.results = #[.cell p ty, .tmp u]) (hp : tmps.getD p undef = .pointer (some ⟨g, 0, none⟩)) (hg : w.heap[g]? = some (.cells cs t fr))
  (hu : P.underlying ty = some d) (hd : (match d with | .struct _ | .array _ _ => true | _ => false) = true) (hi : (P.info? ty).map (·.size) = some cs.size) :
  (results fn tmps).run P w = .ok (.tuple #[.agg cs, tmps.getD u undef]) w := by
 have hp' : tmps[p]?.getD undef = .pointer (some ⟨g, 0, none⟩) := by simpa using hp
 simp [results, h, hp', asAddr, run_loadVar_row w g t ty cs fr d hg hu hd hi]
/-- the end of a function with a struct as its first result and a plain second one: the result's block is known -/
theorem bodyPost_row2 (h : fn.results = #[.cell p ty, .tmp u]) (hp : tmps.getD p undef = .pointer (some ⟨g, 0, none⟩)) (hg : w.heap[g]? = some (.cells cs t fr))
  (hu : P.underlying ty = some d) (hd : (match d with | .struct _ | .array _ _ => true | _ => false) = true) (hi : (P.info? ty).map (·.size) = some cs.size)
  (hR : R (.returned (.tuple #[.agg cs, tmps.getD u undef])) w) : bodyPost P fn R .ret { tmps, defers := [] } w :=
 bodyPost_ret (results_cell_row2 h hp hg hu hd hi) rfl hR
/-- .. with a struct as its only result -/
theorem bodyPost_row1 (h : fn.results = #[.cell p ty]) (hp : tmps.getD p undef = .pointer (some ⟨g, 0, none⟩)) (hg : w.heap[g]? = some (.cells cs t fr))
  (hu : P.underlying ty = some d) (hd : (match d with | .struct _ | .array _ _ => true | _ => false) = true) (hi : (P.info? ty).map (·.size) = some cs.size)
  (hR : R (.returned (.agg cs)) w) : bodyPost P fn R .ret { tmps, defers := [] } w :=
 bodyPost_ret (results_cell_row h tmps w g t cs fr d hp hg hu hd hi) rfl hR
end
theorem size_le_maxLen {k : Nat} (h : k ≤ 1099511627776) : k ≤ maxLen := by unfold maxLen; omega
/-- append(s, x): s is nil or the call's own; x lies in the block that has just been made for it (of one element, of whatever number of cells) -/
theorem wpList_append_new {P : Program} {w : World} {ops : Array Oper} {rest : List Oper} {o : Oper} {a : Act} {Q : Exit → Act → World → Prop} (hgd : o.guard = none) (s x : Operand) (t : TypeId)
  (ho : o.op = .call { callee := .builtin .append, args := #[s, x], argTypes := #[t, t] })
  (base : Nat) (e : TypeId) (size bytes : Nat) (z : Value) (ht : P.underlying t = some (.slice e)) (hinfo : (P.info? e).map (fun i => (i.zero, i.size, i.bytes)) = some (some z, size, bytes))
  (hzs : z.cells.size = size) (hsz : 0 < size) (hby : bytes ≤ 128)
  (v : Value) (n : Nat) (xs : List Value) (hs : a.eval s = v) (hown : w.ownsRow base e size v n xs)
  (cs : Array Value) (c : Nat) (hx : a.eval x = .slice (some ⟨w.heap.size, 0, none⟩) 1 c) (hcs : cs.size = size) (h1 : ∀ u ∈ cs.toList, u.oneCell' = true)
  (hn : n < 1099511627776) (hbase : base ≤ w.heap.size)
  (h : ∀ v' w', w'.ownsRow base e size v' (n + 1) (xs ++ cs.toList) → (∀ W, Below base W w → Below base W w') → wpList P ops Q rest (a.put o.dst v') w') :
  wpList P ops Q (o :: rest) a (w.alloc (.cells cs e)) := by
 obtain ⟨i, hi, hz, h2, h3⟩ := info_parts hinfo
 refine wpList_append_own _ hgd s x t ho base e i z size bytes ht hi hz h2 h3 hzs hsz v n xs hs (hown.alloc _) ⟨w.heap.size, 0, none⟩ 1 c cs.toList hx (by simp [hcs]) ?_ h1 (size_le_maxLen (by omega)) ?_ (by simp; omega) ?_
 ·intro j u hu
  have : (⟨w.heap.size, 0, none⟩ : Addr).add j = ⟨w.heap.size, j, none⟩ := by unfold Addr.add; split <;> simp_all
  rw [this, cell_of_row _ _ _ _ _ _ (heap_alloc_new w _)]
  simpa using hu
 ·exact Nat.le_trans (Nat.mul_le_mul (Nat.le_of_lt_succ (by omega : n + 1 < 1099511627776 + 1)) hby) (by decide)
 ·intro v' w' ho' hg _
  refine h v' w' ho' fun W hW => (hW.alloc hbase _).grown hg (by simp; omega) ?_
  intro k hk
  exact (hown.lt k hk).1
def byteV (c : UInt8) : Value := .int .u8 (c.toNat : Int)
theorem run_convert_owned {P : Program} {w : World} {B : Nat} {src dst e : TypeId} {v : Value} {n : Nat} (l : List UInt8) (hown : w.ownsRow B e 1 v n (l.map byteV))
  (hs : P.underlying src = some (.slice e)) (he : P.underlying e = some (.int .u8)) (hd : P.underlying dst = some .string) :
  (convert src dst v).run P w = .ok (.string ⟨l.toArray⟩) w := by
 obtain ⟨hl, h⟩ := hown
 have hl' : l.length = n := by simpa using hl
 rcases h with ⟨rfl, h0⟩ | ⟨g, cap, cur, rfl, hg, hh, hn, hc, hsz, ht⟩
 ·subst h0
  have : l = [] := List.length_eq_zero_iff.1 hl'
  subst this
  exact run_convert_bytes_nil w src e hs he 0 0 dst hd
 ·have e1 : (strOfNums (l.map fun c => (c.toNat : Int))) = ⟨l.toArray⟩ := by
   unfold strOfNums
   congr 2
   rw [List.map_map]
   conv => rhs; rw [← List.map_id l]
   refine List.map_congr_left fun c _ => ?_
   simp
  rw [← e1]
  refine run_convert_bytes_arg w src e hs he g 0 n cap (l.map fun c => (c.toNat : Int)) (by simpa using hl') (fun i hi => ?_) dst hd
  have hi' : i < l.length := by omega
  rw [cell_of_row w g (0 + i) cur e (0, 0) hh, Nat.zero_add]
  have : cur.toList[i]? = (l.map byteV)[i]? := by
   rw [← ht, List.getElem?_take]; simp [hi]
  rw [← Array.getElem?_toList, this]
  simp [hi', byteV]
theorem ret_int {k : IntKind} {a b : Int} (h : a = b) : Ending.returned (.int k a) = .returned (.int k b) := by rw [h]
theorem ret_bool {a b : Bool} (h : a = b) : Ending.returned (.bool a) = .returned (.bool b) := by rw [h]
end
section
open Go.RowKit
/-- the world under a name of its own -/
theorem wp_world {P : Program} {c : Code} {Q : Exit → Act → World → Prop} {a : Act} {W : World} (h : ∀ w', w' = W → c.wp P Q a w') : c.wp P Q a W := h W rfl
end
section
open Go.RowKit
theorem cell1 {w : World} {b : Nat} {x : Value} {t : TypeId} {fr : Nat × Nat} (h : w.heap[b]? = some (.cells #[x] t fr)) : w.cell? ⟨b, 0, none⟩ = some x := by rw [cell_of_row _ _ _ _ _ _ h]; rfl
end
section
/-- a pair of bytes that stands for one letter -/
def isPair (a b : UInt8) : Bool := a == 195 && (128 ≤ b && b ≤ 191)
def okByte (a : UInt8) : Bool := 32 ≤ a && a ≤ 126
def validL : List UInt8 → Bool
 | [] => true
 | [a] => okByte a
 | a :: b :: r => if isPair a b then validL r else okByte a && validL (b :: r)
def isLow (a : UInt8) : Bool := 97 ≤ a && a ≤ 122
def isUp (a : UInt8) : Bool := 65 ≤ a && a ≤ 90
def isDgt (a : UInt8) : Bool := 48 ≤ a && a ≤ 57
/-- what becomes of a byte that begins no pair -/
def plainB (a : UInt8) : List UInt8 := if isUp a then [a + 32] else if isLow a || isDgt a then [a] else if a == 39 then [] else [32]
def replT : List (List UInt8) :=
  [[97], [97], [97], [97], [97], [97], [97, 101], [99], [101], [101], [101], [101], [105], [105], [105], [105],
   [100], [110], [111], [111], [111], [111], [111], [], [111], [117], [117], [117], [117], [121], [116, 104], [115, 115],
   [97], [97], [97], [97], [97], [97], [97, 101], [99], [101], [101], [101], [101], [105], [105], [105], [105],
   [100], [110], [111], [111], [111], [111], [111], [], [111], [117], [117], [117], [117], [121], [116, 104], [121]]
def replB (b : UInt8) : List UInt8 := replT.getD (b.toNat - 128) []
def rawL : List UInt8 → List UInt8
 | [] => []
 | [a] => plainB a
 | a :: b :: r => if isPair a b then replB b ++ rawL r else plainB a ++ rawL (b :: r)
/-- the parts between spaces; p is the part that has begun -/
def toksA : List UInt8 → List UInt8 → List (List UInt8)
 | p, [] => if p = [] then [] else [p]
 | p, c :: r => if c == 32 then (if p = [] then toksA [] r else p :: toksA [] r) else toksA (p ++ [c]) r
def toks (l : List UInt8) : List (List UInt8) := toksA [] l
def joinL : List (List UInt8) → List UInt8
 | [] => []
 | [a] => a
 | a :: b :: r => a ++ [32] ++ joinL (b :: r)
def lettersL (l : List UInt8) : List UInt8 := l.filter isLow
def foldV (l : List UInt8) : Bool := validL l && decide (l.length ≤ 64)
def foldL (l : List UInt8) : List UInt8 := joinL (toks (rawL l))
/-- a text as a value -/
abbrev strV (l : List UInt8) : Value := .string ⟨l.toArray⟩
end
section
open Go.RowKit
def xr (a b : Int) : Int := bits .xor .u64 a b
def ad (a b : Int) : Int := IntKind.u64.wrap (a + b)
/-- turned left by p, where p * q = 2 ^ 64 -/
def rotP (p q x : Int) : Int := bits .or .u64 (IntKind.u64.wrap (x * p)) (x / q)
structure Sip where
 a : Int
 b : Int
 c : Int
 d : Int
def rndP (s : Sip) : Sip :=
 let a := ad s.a s.b
 let b := xr (rotP 8192 2251799813685248 s.b) a
 let a := rotP 4294967296 4294967296 a
 let c := ad s.c s.d
 let d := xr (rotP 65536 281474976710656 s.d) c
 let a := ad a d
 let d := xr (rotP 2097152 8796093022208 d) a
 let c := ad c b
 let b := xr (rotP 131072 140737488355328 b) c
 ⟨a, b, rotP 4294967296 4294967296 c, d⟩
def wordP (s : Sip) (m : Int) : Sip :=
 let s := rndP (rndP ⟨s.a, s.b, s.c, xr s.d m⟩)
 ⟨xr s.a m, s.b, s.c, s.d⟩
/-- the first bytes, the least first -/
def numP (i : Nat) (m : Int) : List UInt8 → Int
 | [] => m
 | x :: l => numP (i + 1) (bits .or .u64 m (IntKind.u64.wrap (IntKind.u64.wrap (x.toNat : Int) * 2 ^ (8 * i)))) l
def eachP (s : Sip) (l : List UInt8) : Nat → Sip × List UInt8
 | 0 => (s, l)
 | n + 1 => eachP (wordP s (numP 0 0 (l.take 8))) (l.drop 8) n
def sumP (ka kb : Int) (l : List UInt8) : Int :=
 let p := eachP ⟨xr ka 8317987319222330741, xr kb 7237128888997146477, xr ka 7816392313619706465, xr kb 8387220255154660723⟩ l (l.length / 8)
 let s := wordP p.1 (bits .or .u64 (numP 0 0 p.2) (IntKind.u64.wrap ((l.length : Int) * 72057594037927936)))
 let s := rndP (rndP (rndP (rndP ⟨s.a, s.b, xr s.c 255, s.d⟩)))
 xr (xr (xr s.a s.b) s.c) s.d
def partP (t : List UInt8) : List UInt8 := UInt8.ofNat (min t.length 65535 / 256) :: UInt8.ofNat (min t.length 65535) :: t.take 65535
def partsP (ka kb : Int) (L : List (List UInt8)) : Int := sumP ka kb (L.flatMap partP)
end
section
open Go.RowKit
theorem low_iff (b : UInt8) : isLow b = decide (97 ≤ (b.toNat : Int) ∧ (b.toNat : Int) ≤ 122) := by
 unfold isLow; rw [Bool.eq_iff_iff]; simp [UInt8.le_iff_toNat_le]; try omega
theorem up_iff (b : UInt8) : isUp b = decide (65 ≤ (b.toNat : Int) ∧ (b.toNat : Int) ≤ 90) := by
 unfold isUp; rw [Bool.eq_iff_iff]; simp [UInt8.le_iff_toNat_le]; try omega
theorem dig_iff (b : UInt8) : isDgt b = decide (48 ≤ (b.toNat : Int) ∧ (b.toNat : Int) ≤ 57) := by
 unfold isDgt; rw [Bool.eq_iff_iff]; simp [UInt8.le_iff_toNat_le]; try omega
theorem ok_iff (b : UInt8) : okByte b = decide (32 ≤ (b.toNat : Int) ∧ (b.toNat : Int) ≤ 126) := by
 unfold okByte; rw [Bool.eq_iff_iff]; simp [UInt8.le_iff_toNat_le]; try omega
set_option maxHeartbeats 400000 in
theorem letter_any (b : UInt8) (w : World) :
  Calls Tryz.prog 146 #[.int .u8 b.toNat] w fun e w' => e = .returned (.bool (isLow b)) ∧ w = w' := by
 rw [low_iff]
 have hb := b.toNat_lt
 by_cases h1 : 97 ≤ (b.toNat : Int) <;> by_cases h2 : (b.toNat : Int) ≤ 122
 all_goals
  go_enter Tryz.func146, Tryz.ntmps146
  go_wp2
  go_ret
  exact ⟨ret_bool (by simp; try omega), rfl⟩
set_option maxHeartbeats 400000 in
theorem digit_any (b : UInt8) (w : World) :
  Calls Tryz.prog 248 #[.int .u8 b.toNat] w fun e w' => e = .returned (.bool (isDgt b)) ∧ w = w' := by
 rw [dig_iff]
 have hb := b.toNat_lt
 by_cases h1 : 48 ≤ (b.toNat : Int) <;> by_cases h2 : (b.toNat : Int) ≤ 57
 all_goals
  go_enter Tryz.func248, Tryz.ntmps248
  go_wp2
  go_ret
  exact ⟨ret_bool (by simp; try omega), rfl⟩
/-- does a pair begin at the head of a list -/
def pairAt : List UInt8 → Bool
 | a :: b :: _ => isPair a b
 | _ => false
theorem pair_iff (a b : UInt8) : isPair a b = decide ((a.toNat : Int) = 195 ∧ 128 ≤ (b.toNat : Int) ∧ (b.toNat : Int) ≤ 191) := by
 unfold isPair; rw [Bool.eq_iff_iff]; simp [UInt8.le_iff_toNat_le, ← UInt8.toNat_inj]; try omega
theorem drop_two (s : ByteArray) (i : Nat) (h : i + 1 < s.size) : s.data.toList.drop i = s[i] :: s[i + 1] :: s.data.toList.drop (i + 2) := by
 have hl : s.data.toList.length = s.size := by simp
 rw [List.drop_eq_getElem_cons (by omega), List.drop_eq_getElem_cons (by omega)]; rfl
theorem drop_last (s : ByteArray) (i : Nat) (h : i + 1 = s.size) : s.data.toList.drop i = [s[i]] := by
 have hl : s.data.toList.length = s.size := by simp
 rw [List.drop_eq_getElem_cons (by omega), List.drop_eq_nil_of_le (by omega)]
 rfl
set_option maxHeartbeats 400000 in
theorem pair_any (s : ByteArray) (i : Nat) (w : World) (hi : i < s.size) (hs : s.size ≤ 9223372036854775807) :
  Calls Tryz.prog 233 #[.string s, .int .i64 i] w fun e w' => e = .returned (.bool (pairAt (s.data.toList.drop i))) ∧ w = w' := by
 by_cases h2 : i + 1 < s.size
 ·have H := Lib.hid (drop_two s i h2)
  go_enter Tryz.func233, Tryz.ntmps233
  go_wp2
  all_goals
   go_ret
   refine ⟨ret_bool ?_, rfl⟩
   go_light
   rw [H.out]
   simp only [pairAt]
   rw [pair_iff]
   clear H
   simp_all
   try omega
 ·have H := Lib.hid (drop_last s i (by omega))
  have hd : decide ((i : Int) + 1 < s.size) = false := by simp; omega
  go_enter Tryz.func233, Tryz.ntmps233
  go_wp2
  all_goals
   go_ret
   refine ⟨ret_bool ?_, rfl⟩
   rw [H.out]
   rfl
end
end Go.Proofs.YthnfmolkppbbpaaGreatDoor
section
namespace Go.Proofs.YthnfmolkppbbpaaGreatDoor
namespace Cal

def leapB (y : Int) : Bool := decide (y % 4 = 0) && (decide (y % 100 ≠ 0) || decide (y % 400 = 0))
def dim (y m : Int) : Int :=
 if m = 2 then (if leapB y = true then 29 else 28) else if m = 4 ∨ m = 6 ∨ m = 9 ∨ m = 11 then 30 else 31
def vldB (y m d : Int) : Bool := decide (1800 ≤ y ∧ y ≤ 2199 ∧ 1 ≤ m ∧ m ≤ 12 ∧ 1 ≤ d ∧ d ≤ dim y m)
theorem dim_lo (y m : Int) : 28 ≤ dim y m ∧ dim y m ≤ 31 := by unfold dim; (repeat' split) <;> omega
theorem vld_iff (y m d : Int) : vldB y m d = true ↔ (1800 ≤ y ∧ y ≤ 2199 ∧ 1 ≤ m ∧ m ≤ 12 ∧ 1 ≤ d ∧ d ≤ dim y m) := by unfold vldB; simp
theorem vld_bd {y m d : Int} (h : vldB y m d = true) : 1800 ≤ y ∧ y ≤ 2199 ∧ 1 ≤ m ∧ m ≤ 12 ∧ 1 ≤ d ∧ d ≤ 31 := by
 have := (vld_iff y m d).1 h; have := dim_lo y m; omega
/-- decimal digits read on from n -/
def numFrom : Int → List UInt8 → Option Int
 | n, [] => some n
 | n, c :: cs => if 48 ≤ (c.toNat : Int) ∧ (c.toNat : Int) ≤ 57 then numFrom (10 * n + ((c.toNat : Int) - 48)) cs else none
theorem numFrom_append (l r : List UInt8) : ∀ n, numFrom n (l ++ r) = (numFrom n l).bind fun m => numFrom m r := by
 induction l with
 | nil => intro n; rfl
 | cons c cs ih => intro n; simp only [List.cons_append, numFrom]; split <;> simp [ih]
theorem take_snoc (s : ByteArray) (k : Nat) (h : k < s.size) : s.data.toList.take (k + 1) = s.data.toList.take k ++ [s[k]] := by
 rw [List.take_succ_eq_append_getElem (by simpa using h)]; rfl
theorem numFrom_snoc (s : ByteArray) (k : Nat) (h : k < s.size) (N : Int) (hN : numFrom 0 (s.data.toList.take k) = some N) :
  numFrom 0 (s.data.toList.take (k + 1)) = if 48 ≤ (s[k].toNat : Int) ∧ (s[k].toNat : Int) ≤ 57 then some (10 * N + ((s[k].toNat : Int) - 48)) else none := by
 rw [take_snoc s k h, numFrom_append, hN]; simp [numFrom]
theorem numFrom_bad (s : ByteArray) (k : Nat) (h : k < s.size) (N : Int) (hN : numFrom 0 (s.data.toList.take k) = some N) (hb : ¬ (48 ≤ (s[k].toNat : Int) ∧ (s[k].toNat : Int) ≤ 57)) :
  numFrom 0 s.data.toList = none := by
 have e : s.data.toList = s.data.toList.take (k + 1) ++ s.data.toList.drop (k + 1) := (List.take_append_drop _ _).symm
 rw [e, numFrom_append, numFrom_snoc s k h N hN, if_neg hb]; rfl
def numI (l : List UInt8) : Int := (numFrom 0 l).getD (-1)
end Cal
end Go.Proofs.YthnfmolkppbbpaaGreatDoor
end
namespace Go.Proofs.YthnfmolkppbbpaaGreatDoor
section
open Go.RowKit Cal
theorem sz3 : ∀ w, (Go.sizeOf 3).run Tryz.prog w = .ok 1 w := fun _ => by kernel_rfl
theorem idx12 {k : Int} {cs : Array Value} {v : Value} (h0 : 0 ≤ k) (h1 : k < 12) (hv : cs[k.toNat]? = some v) (w : World) :
  (Instr.index 243 (.agg cs) (.int .i64 k)).run Tryz.prog w = .ok v w :=
 run_index_arr Tryz.underlying243 (by kernel_rfl) sz3 h0 h1 hv w

set_option maxHeartbeats 400000 in
theorem leap_any (y : Int) (w : World) (h : 0 ≤ y) :
  Calls Tryz.prog 256 #[.int .i64 y] w fun e w' => e = .returned (.bool (leapB y)) ∧ w = w' := by
 go_enter Tryz.func256, Tryz.ntmps256
 go_wp2
 all_goals go_ret
 all_goals exact ⟨ret_bool (by simp [leapB, *, Bool.beq_eq_decide_eq]), rfl⟩

theorem leap_yes (y : Int) (w : World) (h : 0 ≤ y) (hl : leapB y = true) :
  Calls Tryz.prog 256 #[.int .i64 y] w fun e w' => e = .returned (.bool true) ∧ w = w' := by
 have := leap_any y w h; rwa [hl] at this
theorem leap_no (y : Int) (w : World) (h : 0 ≤ y) (hl : leapB y = false) :
  Calls Tryz.prog 256 #[.int .i64 y] w fun e w' => e = .returned (.bool false) ∧ w = w' := by
 have := leap_any y w h; rwa [hl] at this

set_option maxHeartbeats 400000 in
theorem days_feb (y : Int) (w : World) (h : 0 ≤ y) :
  Calls Tryz.prog 252 #[.int .i64 y, .int .i64 2] w fun e w' => e = .returned (.int .i64 (dim y 2)) ∧ w = w' := by
 cases hl : leapB y with
 | true =>
  have e : dim y 2 = 29 := by simp [dim, hl]
  rw [e]; clear e
  have i0 := fun w cs v hv => @idx12 1 cs v (by decide) (by decide) hv w
  go_enter Tryz.func252, Tryz.ntmps252
  go_wp2_with (go_at_call 256; refine (leap_yes _ _ h hl).mono ?_; rintro e w' ⟨rfl, rfl⟩)
  go_ret
  exact ⟨rfl, rfl⟩
 | false =>
  have e : dim y 2 = 28 := by simp [dim, hl]
  rw [e]; clear e
  have i0 := fun w cs v hv => @idx12 1 cs v (by decide) (by decide) hv w
  go_enter Tryz.func252, Tryz.ntmps252
  go_wp2_with (go_at_call 256; refine (leap_no _ _ h hl).mono ?_; rintro e w' ⟨rfl, rfl⟩)
  go_ret
  exact ⟨rfl, rfl⟩
theorem tbl12 (m : Int) (h1 : 1 ≤ m) (h2 : m ≤ 12) (h : m ≠ 2) (y : Int) (w : World) :
  (Instr.index 243 (.agg #[.int .i64 31, .int .i64 28, .int .i64 31, .int .i64 30, .int .i64 31, .int .i64 30, .int .i64 31, .int .i64 31, .int .i64 30, .int .i64 31, .int .i64 30, .int .i64 31]) (.int .i64 (m - 1))).run Tryz.prog w = .ok (.int .i64 (dim y m)) w := by
 refine idx12 (by omega) (by omega) ?_ w
 have : m = 1 ∨ m = 3 ∨ m = 4 ∨ m = 5 ∨ m = 6 ∨ m = 7 ∨ m = 8 ∨ m = 9 ∨ m = 10 ∨ m = 11 ∨ m = 12 := by omega
 rcases this with rfl | rfl | rfl | rfl | rfl | rfl | rfl | rfl | rfl | rfl | rfl <;> rfl
set_option maxHeartbeats 1000000 in
theorem days_any (y m : Int) (w : World) (h : 0 ≤ y) (h1 : 1 ≤ m) (h2 : m ≤ 12) :
  Calls Tryz.prog 252 #[.int .i64 y, .int .i64 m] w fun e w' => e = .returned (.int .i64 (dim y m)) ∧ w = w' := by
 by_cases hm : m = 2
 ·subst hm; exact days_feb y w h
 have i0 := fun w => tbl12 m h1 h2 hm y w
 have hb : ((m : Int) == 2) = false := by simpa using hm
 clear hm
 go_enter Tryz.func252, Tryz.ntmps252
 go_wp2
 go_ret
 exact ⟨rfl, rfl⟩

set_option maxHeartbeats 1000000 in
theorem valid_no (y m d : Int) (w : World) (hv : vldB y m d = false) :
  Calls Tryz.prog 240 #[.agg #[.int .i64 y, .int .i64 m, .int .i64 d]] w fun e w' => e = .returned (.bool false) ∧ Below w.heap.size w w' := by
 have hh : decide (1800 ≤ y) = false ∨ (1800 ≤ y ∧ decide (y ≤ 2199) = false) ∨ (1800 ≤ y ∧ y ≤ 2199 ∧ decide (1 ≤ m) = false) ∨ (1800 ≤ y ∧ y ≤ 2199 ∧ 1 ≤ m ∧ decide (m ≤ 12) = false) ∨ (1800 ≤ y ∧ y ≤ 2199 ∧ 1 ≤ m ∧ m ≤ 12 ∧ decide (1 ≤ d) = false) ∨ (1800 ≤ y ∧ y ≤ 2199 ∧ 1 ≤ m ∧ m ≤ 12 ∧ 1 ≤ d ∧ decide (d ≤ dim y m) = false) := by
  have := vld_iff y m d
  rw [hv] at this
  simp at this ⊢
  omega
 clear hv
 rcases hh with h | ⟨_, h⟩ | ⟨_, _, h⟩ | ⟨_, _, _, h⟩ | ⟨_, _, _, _, h⟩ | ⟨_, _, _, _, _, h⟩
 iterate 5
  ·go_enter Tryz.func240, Tryz.ntmps240
   go_wp2
   go_quiet (fail)
   go_wp2
   go_ret
   exact ⟨rfl, below_drewN ((Below.refl _ _).alloc (Nat.le_refl _) _) _⟩
 go_enter Tryz.func240, Tryz.ntmps240
 go_wp2
 go_quiet ((go_at_call 252; exact quiet_eq (days_any _ _ _ (by omega) (by omega) (by omega))))
 go_wp2
 go_ret
 exact ⟨rfl, below_drewN ((Below.refl _ _).alloc (Nat.le_refl _) _) _⟩
set_option maxHeartbeats 1000000 in
theorem valid_yes (y m d : Int) (w : World) (hv : vldB y m d = true) :
  Calls Tryz.prog 240 #[.agg #[.int .i64 y, .int .i64 m, .int .i64 d]] w fun e w' => e = .returned (.bool true) ∧ Below w.heap.size w w' := by
 obtain ⟨h1, h2, h3, h4, h5, h6⟩ := (vld_iff y m d).1 hv
 clear hv
 go_enter Tryz.func240, Tryz.ntmps240
 go_wp2
 go_quiet ((go_at_call 252; exact quiet_eq (days_any _ _ _ (by omega) (by omega) (by omega))))
 go_wp2
 go_ret
 exact ⟨rfl, below_drewN ((Below.refl _ _).alloc (Nat.le_refl _) _) _⟩
set_option maxHeartbeats 400000 in
theorem number_any (s : ByteArray) (w : World) (hs : s.size ≤ 4) :
  Calls Tryz.prog 242 #[.string s] w fun e w' => e = .returned (.int .i64 (numI s.data.toList)) ∧ w = w' := by
 go_enter Tryz.func242, Tryz.ntmps242
 go_wp2
 go_loop [3, 4, 7] (fun n _ i => ∃ (k : Nat) (N : Int), k ≤ s.size ∧ i = .int .i64 k ∧ n = .int .i64 N ∧ numFrom 0 (s.data.toList.take k) = some N ∧ 0 ≤ N ∧ N < 10 ^ k) (fun _ _ i => s.size - (intOf i).toNat)
 case atStart => exact ⟨0, 0, Nat.zero_le _, rfl, rfl, rfl, by decide, by decide⟩
 case round =>
  obtain ⟨k, N, hk, rfl, rfl, hN, h0, h1⟩ := hrel
  have HN := Lib.hid hN; clear hN
  have hp : (10 : Int) ^ k ≤ 10000 := by
   have : k = 0 ∨ k = 1 ∨ k = 2 ∨ k = 3 ∨ k = 4 := by omega
   rcases this with rfl | rfl | rfl | rfl | rfl <;> decide
  have hN4 : N < 10000 := by omega
  have H1 := Lib.hid h1; clear h1 hp
  by_cases hlt : k < s.size
  ·go_wp2
   ·go_ret
    exact ⟨ret_int (by have := numFrom_bad s k hlt N HN.out (by omega); simp [numI, this]), rfl⟩
   ·have hs := numFrom_snoc s k hlt N HN.out
    rw [if_pos ‹_›] at hs
    have h1 := H1.out
    have e1 : (10 : Int) ^ (k + 1) = 10 ^ k * 10 := by rw [Int.pow_succ]
    go_round
    case rel => exact ⟨k + 1, _, by omega, by go_num, rfl, hs, by omega, by omega⟩
    case measure => simp [intOf]; omega
   ·go_ret
    exact ⟨ret_int (by have := numFrom_bad s k hlt N HN.out (by omega); simp [numI, this]), rfl⟩
  ·go_wp2
   go_ret
   obtain rfl : k = s.size := by omega
   exact ⟨ret_int (by have := HN.out; rw [List.take_of_length_le (by simp)] at this; simp [numI, this]), rfl⟩
end
section
open Go.RowKit Cal
/-- (date, code) as a result: the date and 0, or the zero date and e -/
def pk (v : Bool) (y : Int) : Int := bif v then y else 0
def cd (v : Bool) (e : Int) : Int := bif v then 0 else e
theorem pk_false (y : Int) : pk false y = 0 := rfl
theorem cd_false (y : Int) : cd false y = y := rfl
theorem cd_true (y : Int) : cd true y = 0 := rfl
abbrev dateV (v : Bool) (y m d : Int) (e : Int) : Value := .tuple #[.agg #[.int .i64 (pk v y), .int .i64 (pk v m), .int .i64 (pk v d)], .int .i64 (cd v e)]
abbrev dateR (y m d : Int) (e : Int) : Value := dateV (vldB y m d) y m d e
set_option maxHeartbeats 1000000 in
theorem made_any (a b c : ByteArray) (w : World) (ha : a.size ≤ 4) (hb : b.size ≤ 4) (hc : c.size ≤ 4) :
  Calls Tryz.prog 215 #[.string a, .string b, .string c] w fun e w' => e = .returned (dateR (numI a.data.toList) (numI b.data.toList) (numI c.data.toList) 4) ∧ Below w.heap.size w w' := by
 unfold dateR dateV
 cases hv : vldB (numI a.data.toList) (numI b.data.toList) (numI c.data.toList)
 all_goals
  simp only [pk, cd, cond_true, cond_false]
  have HV := Lib.hid hv; clear hv
  go_enter Tryz.func215, Tryz.ntmps215
  go_wp2_with fail
  refine (number_any _ _ ha).mono ?_; rintro e w' ⟨rfl, rfl⟩
  go_wp2_with fail
  refine (number_any _ _ hb).mono ?_; rintro e w' ⟨rfl, rfl⟩
  go_wp2_with fail
  refine (number_any _ _ hc).mono ?_; rintro e w' ⟨rfl, rfl⟩
  go_wp2_with fail
  first | refine (valid_yes _ _ _ _ HV.out).mono ?_ | refine (valid_no _ _ _ _ HV.out).mono ?_
  rintro e w1 ⟨rfl, hb1⟩
  obtain ⟨hc1, hf1⟩ := bcell hb1
  have hz1 : w.heap.size + 1 < w1.heap.size := by have := hb1.size; simp at this; omega
  go_wp2
 all_goals
  have hg : w1.heap[w.heap.size]? = some (.cells #[.int .i64 0, .int .i64 0, .int .i64 0] 91 (0, 0)) := blk_below hb1 (by simp; omega) (heap_alloc2_old _ _ _)
  exact bodyPost_row2 rfl rfl (blk_set (blk_set (blk_set hg))) Tryz.underlying91 rfl (by kernel_rfl) ⟨rfl, ((((((Below.refl _ _).alloc (Nat.le_refl _) _).alloc (by simp) _).trans (hb1.mono (by simp; omega))).setCell (by simp) _).setCell (by simp) _).setCell (by simp) _⟩

/-- the arm at a call of made inside a region: one struct cell of the call's own below -/
abbrev dateL (y m d : List UInt8) : Value := dateR (numI y) (numI m) (numI d) 4
set_option maxHeartbeats 1000000 in
theorem read_any (s : ByteArray) (w : World) :
  Calls Tryz.prog 170 #[.string s] w fun e w' => e = .returned (bif decide (s.size = 8) then dateL (s.data.toList.take 4) ((s.data.toList.drop 4).take 2) ((s.data.toList.drop 6).take 2) else dateV false 0 0 0 4) ∧ Below w.heap.size w w' := by
 by_cases h : s.size = 8
 ·have hs : ((s.size : Int) == 8) = true := by simp; omega
  simp only [h, decide_true, cond_true]
  go_enter Tryz.func170, Tryz.ntmps170
  go_wp2
  go_region_held3 (fun _ => True) (trivial) (first | (go_at_call 215; refine (made_any _ _ _ _ (by simp; omega) (by simp; omega) (by simp; omega)).mono ?_; rintro e w1 ⟨rfl, hb1⟩; obtain ⟨hc1, hf1⟩ := bcell hb1; have hz1 : w.heap.size < w1.heap.size := (by have := hb1.size; simp at this; omega)))
  go_wp2
  have hg : w1.heap[w.heap.size]? = some (.cells #[.int .i64 0, .int .i64 0, .int .i64 0] 91 (0, 0)) := blk_below hb1 (by simp) (heap_alloc_new _ _)
  exact bodyPost_row2 rfl rfl (blk_set (blk_set (blk_set hg))) Tryz.underlying91 rfl (by kernel_rfl) ⟨rfl, (((((Below.refl _ _).alloc (Nat.le_refl _) _).drew.trans (hb1.mono (by simp))).setCell (by simp) _).setCell (by simp) _).setCell (by simp) _⟩
 ·have hs : ((s.size : Int) == 8) = false := by simp; omega
  simp only [h, decide_false, cond_false]
  go_enter Tryz.func170, Tryz.ntmps170
  go_wp2
  exact bodyPost_row2 rfl rfl (heap_alloc_new _ _) Tryz.underlying91 rfl (by kernel_rfl) ⟨rfl, ((Below.refl _ _).alloc (Nat.le_refl _) _)⟩

def byteAt (s : ByteArray) (i : Nat) : Int := ((s.data.toList.getD i 0).toNat : Int)
def parseV (s : ByteArray) : Value :=
 if s.size = 10 then
  if byteAt s 4 = 45 ∧ byteAt s 7 = 45 then dateL (s.data.toList.take 4) ((s.data.toList.drop 5).take 2) ((s.data.toList.drop 8).take 2)
  else if byteAt s 2 = 46 ∧ byteAt s 5 = 46 then dateL ((s.data.toList.drop 6).take 4) ((s.data.toList.drop 3).take 2) (s.data.toList.take 2)
  else if byteAt s 2 = 47 ∧ byteAt s 5 = 47 then dateL ((s.data.toList.drop 6).take 4) (s.data.toList.take 2) ((s.data.toList.drop 3).take 2)
  else dateV false 0 0 0 4
 else dateV false 0 0 0 4
theorem byteAt_get (s : ByteArray) (i : Nat) (h : i < s.size) : byteAt s i = (s[i].toNat : Int) := by
 have : i < s.data.toList.length := by simpa using h
 simp only [byteAt, List.getD_eq_getElem?_getD, List.getElem?_eq_getElem this]; rfl
set_option maxHeartbeats 4000000 in
theorem parse_ten (s : ByteArray) (w : World) (h : s.size = 10) :
    Calls Tryz.prog 213 #[.string s] w fun e w' => e = .returned (parseV s) ∧ Below w.heap.size w w' := by
  have hs : ((s.size : Int) == 10) = true := by simp; omega
  go_enter Tryz.func213, Tryz.ntmps213
  go_wp2
  all_goals
    have e2 := byteAt_get s 2 (by omega)
    have e4 := byteAt_get s 4 (by omega)
    have e5 := byteAt_get s 5 (by omega)
    have e7 := byteAt_get s 7 (by omega)
  all_goals
    first
    | exact bodyPost_row2 rfl rfl (heap_alloc_new _ _) Tryz.underlying91 rfl (by kernel_rfl) ⟨congrArg Ending.returned (by (try simp only [beq_iff_eq, beq_eq_false_iff_ne, ne_eq] at *); simp [parseV, pk_false, cd_false, *]; try rfl), ((Below.refl _ _).alloc (Nat.le_refl _) _)⟩
    | (clear e2 e4 e5 e7
       go_region_held3 (fun _ => True) (trivial) (first | (go_at_call 215; refine (made_any _ _ _ _ (by simp; omega) (by simp; omega) (by simp; omega)).mono ?_; rintro e w1 ⟨rfl, hb1⟩; obtain ⟨hc1, hf1⟩ := bcell hb1; have hz1 : w.heap.size < w1.heap.size := (by have := hb1.size; simp at this; omega)))
       go_wp2
       have hg : w1.heap[w.heap.size]? = some (.cells #[.int .i64 0, .int .i64 0, .int .i64 0] 91 (0, 0)) := blk_below hb1 (by simp) (heap_alloc_new _ _)
       have e2 := byteAt_get s 2 (by omega)
       have e4 := byteAt_get s 4 (by omega)
       have e5 := byteAt_get s 5 (by omega)
       have e7 := byteAt_get s 7 (by omega)
       exact bodyPost_row2 rfl rfl (blk_set (blk_set (blk_set hg))) Tryz.underlying91 rfl (by kernel_rfl) ⟨congrArg Ending.returned (by (try simp only [beq_iff_eq, beq_eq_false_iff_ne, ne_eq] at *); simp [parseV, pk_false, cd_false, *]; try rfl), (((((Below.refl _ _).alloc (Nat.le_refl _) _).drew.trans (hb1.mono (by simp))).setCell (by simp) _).setCell (by simp) _).setCell (by simp) _⟩)
theorem parse_any (s : ByteArray) (w : World) :
  Calls Tryz.prog 213 #[.string s] w fun e w' => e = .returned (parseV s) ∧ Below w.heap.size w w' := by
 by_cases h : s.size = 10
 ·exact parse_ten s w h
 ·have hs : ((s.size : Int) == 10) = false := by simp; omega
  rw [parseV, if_neg h]
  go_enter Tryz.func213, Tryz.ntmps213
  go_wp2
  exact bodyPost_row2 rfl rfl (heap_alloc_new _ _) Tryz.underlying91 rfl (by kernel_rfl) ⟨rfl, ((Below.refl _ _).alloc (Nat.le_refl _) _)⟩
end
section
set_option maxRecDepth 100000
open Go.RowKit Cal
/-- n digits of a number, the lowest last -/
def dg : Int → Nat → List UInt8
 | _, 0 => []
 | n, k + 1 => dg (n / 10) k ++ [UInt8.ofNat (48 + (n % 10).toNat)]
def PutPost (B : Nat) (w : World) (n : Nat) (xs : List Value) (e : Ending) (w' : World) : Prop := ∃ v', e = .returned v' ∧ w'.ownsRow B 5 1 v' n xs ∧ Below B w w'
theorem infoB : (Tryz.prog.info? 5).map (fun i => (i.zero, i.size, i.bytes)) = some (some (.int .u8 0), 1, 1) := by kernel_rfl
set_option maxHeartbeats 1000000 in
theorem put_any (k : Nat) : ∀ (n : Int) (v : Value) (l : Nat) (xs : List Value) (B : Nat) (w : World), k ≤ 4 → 0 ≤ n → n ≤ 9999 → l ≤ 8 → B ≤ w.heap.size → w.ownsRow B 5 1 v l xs →
  Calls Tryz.prog 241 #[v, .int .i64 n, .int .i64 k] w (PutPost B w (l + k) (xs ++ (dg n k).map byteV)) := by
 induction k with
 | zero =>
  intro n v l xs B w _ _ _ _ _ ho
  have HO := Lib.hid ho; clear ho
  go_enter Tryz.func241, Tryz.ntmps241
  go_wp2_with fail
  go_ret
  exact ⟨_, rfl, by simpa [dg] using HO.out, Below.refl _ _⟩
 | succ k ih =>
  intro n v l xs B w hk h0 h1 hl hB ho
  obtain ⟨i0, hi, hz0, hz1, hz2⟩ := info_parts infoB
  have IH := ih (n / 10) v l xs B w (by omega) (by omega) (by omega) hl hB ho
  clear ih ho
  go_enter Tryz.func241, Tryz.ntmps241
  go_wp2_with fail
  refine IH.mono ?_
  rintro e w1 ⟨v1, rfl, ho1, hb1⟩
  have hB1 : B ≤ w1.heap.size := Nat.le_trans hB hb1.size
  have h10 : 0 ≤ n % 10 ∧ n % 10 ≤ 9 := by omega
  obtain ⟨h10a, h10b⟩ := h10
  go_wp2_with (at_builtin; refine wpList_append_new rfl _ _ 69 rfl B 5 1 1 (.int .u8 0) Tryz.underlying69 infoB rfl (by decide) (by decide) _ _ _ rfl ho1 #[.int .u8 (48 + n % 10)] 1 rfl rfl (by simp [Value.oneCell']) (by omega) hB1 ?_; intro v2 w2 ho2 hw2)
  go_ret
  refine ⟨_, rfl, ?_, hw2 _ hb1⟩
  have e1 : (UInt8.ofNat (48 + (n % 10).toNat)).toNat = 48 + (n % 10).toNat := by rw [UInt8.toNat_ofNat']; omega
  have e2 : byteV (UInt8.ofNat (48 + (n % 10).toNat)) = .int .u8 (48 + n % 10) := by unfold byteV; rw [e1]; congr 1; omega
  rw [show l + (k + 1) = l + k + 1 by omega]
  simp only [dg, List.map_append, List.map_cons, List.map_nil, e2]
  rw [← List.append_assoc]
  exact ho2

theorem put_lit (k : Nat) (n : Int) (v : Value) (l : Nat) (xs : List Value) (B : Nat) (w : World) (hk : k ≤ 4) (h0 : 0 ≤ n) (h1 : n ≤ 9999) (hl : l ≤ 8) (hB : B ≤ w.heap.size) (ho : w.ownsRow B 5 1 v l xs) (K : Int) (hK : K = k) :
  Calls Tryz.prog 241 #[v, .int .i64 n, .int .i64 K] w (PutPost B w (l + k) (xs ++ (dg n k).map byteV)) := by
 subst hK; exact put_any k n v l xs B w hk h0 h1 hl hB ho
/-- the eight digits of a date -/
def digits8 (y m d : Int) : List UInt8 := dg y 4 ++ dg m 2 ++ dg d 2
set_option maxHeartbeats 1000000 in
theorem format_yes (y m d : Int) (w : World) (hv : vldB y m d = true) :
  Calls Tryz.prog 214 #[.agg #[.int .i64 y, .int .i64 m, .int .i64 d]] w fun e w' => e = .returned (.tuple #[.string ⟨(digits8 y m d).toArray⟩, .int .i64 0]) ∧ Below w.heap.size w w' := by
 have hbd := vld_bd hv
 obtain ⟨b1, b2, b3, b4, b5, b6⟩ := hbd
 go_enter Tryz.func214, Tryz.ntmps214
 go_wp2_with fail
 refine (valid_yes _ _ _ _ hv).mono ?_
 rintro e w1 ⟨rfl, hb1⟩
 have c0 : w1.cell? ⟨w.heap.size, 0, none⟩ = some (.int .i64 y) := (hb1.cell (by simp)).trans (by simp)
 have c1 : w1.cell? ⟨w.heap.size, 1, none⟩ = some (.int .i64 m) := (hb1.cell (by simp)).trans (by simp)
 have c2 : w1.cell? ⟨w.heap.size, 2, none⟩ = some (.int .i64 d) := (hb1.cell (by simp)).trans (by simp)
 have hz1 : w.heap.size + 1 ≤ w1.heap.size := by have := hb1.size; simpa using this
 go_wp2_with fail
 clear hv
 refine wp_region_noPanic ?_
 refine wp_region_held_drew (S := (fun w' => w'.cell? ⟨w.heap.size, 0, none⟩ = some (.int .i64 y) ∧ w'.cell? ⟨w.heap.size, 1, none⟩ = some (.int .i64 m) ∧ w'.cell? ⟨w.heap.size, 2, none⟩ = some (.int .i64 d))) (by kernel_rfl) (⟨c0, c1, c2⟩) (fun hHeld => ?_)
 refine tH 0 (h := ?_)
 refine tH 1 (h := ?_)
 refine tH 3 (h := ?_)
 refine tH 4 (h := ?_)
 refine tH 6 (h := ?_)
 refine tH 7 (h := ?_)
 refine wpAnyH_ready (rs := [2]) (by kernel_rfl) (by simp) ?_
 refine AllReadyH.cons rfl (fun K hK => ?_) AllReadyH.nil
 go_simp
 refine (put_lit 4 y _ _ _ (w.heap.size + 1) _ (by omega) (by omega) (by omega) (by omega) (by simpa using hz1) (World.ownsRow_nil _ _ _ _) _ rfl).mono ?_; rintro e w2 ⟨v2, rfl, ho2, hb2⟩; have hz2 : w.heap.size + 1 ≤ w2.heap.size := (by have := hb2.size; simp at this; omega); have c01 := (hb2.cell (p := ⟨w.heap.size, 0, none⟩) (by simp)).trans c0; have c11 := (hb2.cell (p := ⟨w.heap.size, 1, none⟩) (by simp)).trans c1; have c21 := (hb2.cell (p := ⟨w.heap.size, 2, none⟩) (by simp)).trans c2
 refine hK.out _ _ (⟨c01, c11, c21⟩) (fun hHeld => ?_)
 clear hK K
 try simp only [List.getElem_toArray, List.getElem_cons_zero, List.getElem_cons_succ, Act.put, List.setIfInBounds_toArray, List.set_cons_zero, List.set_cons_succ]
 refine wpAnyH_ready (rs := [5]) (by kernel_rfl) (by simp) ?_
 refine AllReadyH.cons rfl (fun K hK => ?_) AllReadyH.nil
 go_simp
 refine (put_lit 2 m _ _ _ _ _ (by omega) (by omega) (by omega) (by omega) hz2 ho2 _ rfl).mono ?_; rintro e w3 ⟨v3, rfl, ho3, hb3⟩; have hz3 : w.heap.size + 1 ≤ w3.heap.size := (by have := hb3.size; omega); have c02 := (hb3.cell (p := ⟨w.heap.size, 0, none⟩) (by simp)).trans c01; have c12 := (hb3.cell (p := ⟨w.heap.size, 1, none⟩) (by simp)).trans c11; have c22 := (hb3.cell (p := ⟨w.heap.size, 2, none⟩) (by simp)).trans c21
 refine hK.out _ _ (⟨c02, c12, c22⟩) (fun hHeld => ?_)
 clear hK K
 try simp only [List.getElem_toArray, List.getElem_cons_zero, List.getElem_cons_succ, Act.put, List.setIfInBounds_toArray, List.set_cons_zero, List.set_cons_succ]
 refine wpAnyH_ready (rs := [8]) (by kernel_rfl) (by simp) ?_
 refine AllReadyH.cons rfl (fun K hK => ?_) AllReadyH.nil
 go_simp
 refine (put_lit 2 d _ _ _ _ _ (by omega) (by omega) (by omega) (by omega) hz3 ho3 _ rfl).mono ?_; rintro e w4 ⟨v4, rfl, ho4, hb4⟩; have hcv := fun dst => run_convert_owned (P := Tryz.prog) (src := 69) (dst := dst) (digits8 y m d) (by simpa [digits8] using ho4) Tryz.underlying69 Tryz.underlying5; have c03 := (hb4.cell (p := ⟨w.heap.size, 0, none⟩) (by simp)).trans c02; have c13 := (hb4.cell (p := ⟨w.heap.size, 1, none⟩) (by simp)).trans c12; have c23 := (hb4.cell (p := ⟨w.heap.size, 2, none⟩) (by simp)).trans c22
 refine hK.out _ _ (⟨c03, c13, c23⟩) (fun hHeld => ?_)
 clear hK K
 try simp only [List.getElem_toArray, List.getElem_cons_zero, List.getElem_cons_succ, Act.put, List.setIfInBounds_toArray, List.set_cons_zero, List.set_cons_succ]
 refine wpAnyH_ready (rs := [9]) (by kernel_rfl) (by simp) ?_
 refine AllReadyH.cons rfl (fun K hK => ?_) AllReadyH.nil
 go_simp
 refine hK.out _ _ (⟨c03, c13, c23⟩) (fun hHeld => ?_)
 clear hK K
 try simp only [List.getElem_toArray, List.getElem_cons_zero, List.getElem_cons_succ, Act.put, List.setIfInBounds_toArray, List.set_cons_zero, List.set_cons_succ]
 refine tH 10 (h := ?_)
 refine tH 11 (h := ?_)
 refine wpAnyH_done (by kernel_rfl) ?_ _
 refine NoPanic.normal ?_
 go_wp2
 go_ret2
 refine ⟨rfl, ?_⟩
 exact (((((Below.refl _ _).alloc (Nat.le_refl _) _).trans (hb1.mono (by simp))).drew.trans (hb2.mono (by simp))).trans (hb3.mono (by simp))).trans (hb4.mono (by simp))

end
section
set_option maxRecDepth 20000
open Go.RowKit
theorem drop_one (s : ByteArray) (i : Nat) (h : i < s.size) : s.data.toList.drop i = s[i] :: s.data.toList.drop (i + 1) := by
 have hl : s.data.toList.length = s.size := by simp
 rw [List.drop_eq_getElem_cons (by omega)]; rfl
theorem pairAt_lt (s : ByteArray) (i : Nat) (hi : i < s.size) (h : pairAt (s.data.toList.drop i) = true) : i + 1 < s.size := by
 rcases Nat.lt_or_ge (i + 1) s.size with h' | h'
 ·exact h'
 ·rw [drop_last s i (by omega)] at h; cases h
theorem valid_two (s : ByteArray) (i : Nat) (hi : i < s.size) (h : pairAt (s.data.toList.drop i) = true) : validL (s.data.toList.drop i) = validL (s.data.toList.drop (i + 2)) := by
 have h2 := pairAt_lt s i hi h
 rw [drop_two s i h2] at h ⊢
 simp only [pairAt] at h
 simp only [validL, h, if_true]
theorem valid_one (s : ByteArray) (i : Nat) (hi : i < s.size) (h : pairAt (s.data.toList.drop i) = false) : validL (s.data.toList.drop i) = (okByte s[i] && validL (s.data.toList.drop (i + 1))) := by
 by_cases h2 : i + 1 < s.size
 ·rw [drop_two s i h2] at h ⊢
  simp only [pairAt] at h
  rw [validL, h, drop_one s (i + 1) h2]
  simp
 ·have hl : s.data.toList.length = s.size := by simp
  rw [drop_last s i (by omega), List.drop_eq_nil_of_le (by omega)]
  simp [validL]
theorem raw_two (s : ByteArray) (i : Nat) (hi : i + 1 < s.size) (h : pairAt (s.data.toList.drop i) = true) : rawL (s.data.toList.drop i) = replB s[i + 1] ++ rawL (s.data.toList.drop (i + 2)) := by
 rw [drop_two s i hi] at h ⊢
 simp only [pairAt] at h
 simp only [rawL, h, if_true]
theorem raw_one (s : ByteArray) (i : Nat) (hi : i < s.size) (h : pairAt (s.data.toList.drop i) = false) : rawL (s.data.toList.drop i) = plainB s[i] ++ rawL (s.data.toList.drop (i + 1)) := by
 by_cases h2 : i + 1 < s.size
 ·rw [drop_two s i h2] at h ⊢
  simp only [pairAt] at h
  rw [rawL, h, drop_one s (i + 1) h2]
  simp
 ·have hl : s.data.toList.length = s.size := by simp
  rw [drop_last s i (by omega), List.drop_eq_nil_of_le (by omega)]
  simp [rawL]
set_option maxHeartbeats 400000 in
theorem tvalid_any (s : ByteArray) (w : World) (hs : s.size ≤ 9223372036854775000) :
  Calls Tryz.prog 231 #[.string s] w fun e w' => e = .returned (.bool (foldV s.data.toList)) ∧ w = w' := by
 have hl : s.data.toList.length = s.size := by simp
 have HL := Lib.hid hl; clear hl
 unfold foldV
 go_enter Tryz.func231, Tryz.ntmps231
 go_wp2_with fail
 go_loop [3] (fun i => ∃ k : Nat, k ≤ s.size ∧ i = .int .i64 k ∧ Hid (validL s.data.toList = validL (s.data.toList.drop k))) (fun i => s.size - (intOf i).toNat)
 case atStart => exact ⟨0, by omega, rfl, Lib.hid rfl⟩
 case round =>
  obtain ⟨k, hk, rfl, HV⟩ := hrel
  by_cases hlt : k < s.size
  ·have hq : decide ((k : Int) < s.size) = true := by simp; omega
   go_wp2_with fail
   refine (pair_any s k _ hlt (by omega)).mono ?_; rintro e w' ⟨rfl, rfl⟩
   cases hp : pairAt (s.data.toList.drop k)
   ·have hv := Lib.hid (valid_one s k hlt hp); rw [ok_iff] at hv
    have HP := Lib.hid hp; clear hp
    go_wp2_with fail
    all_goals first
     | (go_ret; refine ⟨ret_bool ?_, rfl⟩; go_light; rw [HV.out, hv.out, decide_eq_false (by omega)]; rfl)
     | skip
    go_round
    case rel => exact ⟨k + 1, by omega, by go_num, Lib.hid (HV.out.trans (by rw [hv.out, decide_eq_true (by omega)]; rfl))⟩
    case measure => simp [intOf]; omega
   ·have h2 := pairAt_lt s k hlt hp
    have hv := Lib.hid (valid_two s k hlt hp)
    have HP := Lib.hid hp; clear hp
    go_wp2_with fail
    go_round
    case rel => exact ⟨k + 2, by omega, by go_num, Lib.hid (HV.out.trans hv.out)⟩
    case measure => simp [intOf]; omega
  ·go_wp2_with fail
   go_ret
   obtain rfl : k = s.size := by omega
   refine ⟨ret_bool ?_, rfl⟩
   rw [HV.out, List.drop_eq_nil_of_le (by rw [HL.out]; omega)]
   simp [validL]; omega
theorem enc_one (n : Nat) (h : n < 128) : Utf8.encode (n : Int) = ⟨[UInt8.ofNat n].toArray⟩ := by
 have v : Utf8.valid (n : Int) = true := by simp [Utf8.valid]; omega
 simp [Utf8.encode, v, h]
theorem enc_byte (b : UInt8) (n : Int) (h0 : 0 ≤ n) (h : n < 128) (hb : (b.toNat : Int) = n) : Utf8.encode n = ⟨[b].toArray⟩ := by
 subst hb; rw [enc_one _ (by omega)]; congr 3; simp
theorem ret_val {a b : Value} (h : a = b) : Ending.returned a = .returned b := by rw [h]
theorem str_eq {a b : ByteArray} (h : a = b) : Value.string a = Value.string b := by rw [h]
set_option maxHeartbeats 1000000 in
theorem plain_any (b : UInt8) (w : World) :
  Calls Tryz.prog 234 #[.int .u8 b.toNat] w fun e w' => e = .returned (strV (plainB b)) ∧ w = w' := by
 have hb := b.toNat_lt
 cases hu : isUp b
 ·have hu' := hu
  rw [up_iff, decide_eq_false_iff_not] at hu'
  have hc : (65 ≤ (b.toNat : Int) ∧ 90 < (b.toNat : Int)) ∨ (b.toNat : Int) < 65 := by omega
  clear hu'
  have HU := Lib.hid hu; clear hu
  cases hlo : isLow b
  ·have HL := Lib.hid hlo; clear hlo
   cases hdi : isDgt b
   ·have HD := Lib.hid hdi; clear hdi
    cases ha : ((b.toNat : Int) == 39)
    ·have this : (b == 39) = false := by simp at ha ⊢; intro h; subst h; simp at ha
     have HP := Lib.hid (show plainB b = [32] by simp [plainB, HU.out, HL.out, HD.out, this]); clear this
     rcases hc with ⟨hc1, hc2⟩ | hc1
     all_goals
      go_enter Tryz.func234, Tryz.ntmps234
      go_wp2_with fail
      refine (letter_any b _).mono ?_; rw [HL.out]; rintro e w' ⟨rfl, rfl⟩
      go_wp2_with fail
      refine (digit_any b _).mono ?_; rw [HD.out]; rintro e w' ⟨rfl, rfl⟩
      go_wp2_with fail
      go_ret
      exact ⟨ret_val (by rw [HP.out]; rfl), rfl⟩
    ·have this : (b == 39) = true := by simp [← UInt8.toNat_inj] at ha ⊢; omega
     have HP := Lib.hid (show plainB b = [] by simp [plainB, HU.out, HL.out, HD.out, this]); clear this
     rcases hc with ⟨hc1, hc2⟩ | hc1
     all_goals
      go_enter Tryz.func234, Tryz.ntmps234
      go_wp2_with fail
      refine (letter_any b _).mono ?_; rw [HL.out]; rintro e w' ⟨rfl, rfl⟩
      go_wp2_with fail
      refine (digit_any b _).mono ?_; rw [HD.out]; rintro e w' ⟨rfl, rfl⟩
      go_wp2_with fail
      go_ret
      exact ⟨ret_val (by rw [HP.out]; rfl), rfl⟩
   ·have KL := Lib.hid (fun w => by have := letter_any b w; rw [HL.out] at this; exact this : ∀ w, Calls Tryz.prog 146 #[.int .u8 b.toNat] w fun e w' => e = .returned (.bool false) ∧ w = w')
    have KD := Lib.hid (fun w => by have := digit_any b w; rw [hdi] at this; exact this : ∀ w, Calls Tryz.prog 248 #[.int .u8 b.toNat] w fun e w' => e = .returned (.bool true) ∧ w = w')
    have hd' := hdi
    rw [dig_iff, decide_eq_true_iff] at hd'
    obtain ⟨hd1, hd2⟩ := hd'
    have HD := Lib.hid hdi; clear hdi
    have HP := Lib.hid (show plainB b = [b] by simp [plainB, HU.out, HL.out, HD.out])
    have HE := Lib.hid (enc_byte b _ (by omega) (by omega) rfl)
    clear HL HD HU
    have hb0 : 0 ≤ (b.toNat : Int) := by omega
    have hb1 : (b.toNat : Int) < 256 := by omega
    clear hb
    generalize (b.toNat : Int) = n at *
    have hc1 : n < 65 := by omega
    clear hc
    all_goals
     go_enter Tryz.func234, Tryz.ntmps234
     go_wp2_with fail
     refine (KL.out _).mono ?_; rintro e w' ⟨rfl, rfl⟩
     go_wp2_with fail
     refine (KD.out _).mono ?_; rintro e w' ⟨rfl, rfl⟩
     go_wp2_with fail
     go_ret
     exact ⟨ret_val (by rw [HP.out]; exact str_eq HE.out), rfl⟩
  ·have KL := Lib.hid (fun w => by have := letter_any b w; rw [hlo] at this; exact this : ∀ w, Calls Tryz.prog 146 #[.int .u8 b.toNat] w fun e w' => e = .returned (.bool true) ∧ w = w')
   have hl' := hlo
   rw [low_iff, decide_eq_true_iff] at hl'
   obtain ⟨hl1, hl2⟩ := hl'
   have HL := Lib.hid hlo; clear hlo
   have HP := Lib.hid (show plainB b = [b] by simp [plainB, HU.out, HL.out])
   have HE := Lib.hid (enc_byte b _ (by omega) (by omega) rfl)
   clear HL HU
   have hb0 : 0 ≤ (b.toNat : Int) := by omega
   have hb1 : (b.toNat : Int) < 256 := by omega
   clear hb
   generalize (b.toNat : Int) = n at *
   have hc1 : 65 ≤ n := by omega
   have hc2 : 90 < n := by omega
   clear hc
   all_goals
    go_enter Tryz.func234, Tryz.ntmps234
    go_wp2_with fail
    refine (KL.out _).mono ?_; rintro e w' ⟨rfl, rfl⟩
    go_wp2_with fail
    go_ret
    exact ⟨ret_val (by rw [HP.out]; exact str_eq HE.out), rfl⟩
 ·have hu' := hu
  rw [up_iff, decide_eq_true_iff] at hu'
  obtain ⟨h1, h2⟩ := hu'
  have HP := Lib.hid (show plainB b = [b + 32] by simp [plainB, hu])
  have HU := Lib.hid hu; clear hu
  go_enter Tryz.func234, Tryz.ntmps234
  go_wp2_with fail
  go_ret
  exact ⟨ret_val (by rw [HP.out]; exact str_eq (enc_byte _ _ (by omega) (by omega) (by simp; omega))), rfl⟩
theorem take_snoc' (s : ByteArray) (k : Nat) (h : k < s.size) : s.data.toList.take (k + 1) = s.data.toList.take k ++ [s[k]] := by
 rw [List.take_succ_eq_append_getElem (by simpa using h)]; rfl
theorem letters_no (l : List UInt8) (b : UInt8) (h : isLow b = false) : lettersL (l ++ [b]) = lettersL l := by simp [lettersL, h]
theorem letters_yes (l : List UInt8) (b : UInt8) (h : isLow b = true) : lettersL (l ++ [b]) = lettersL l ++ [b] := by simp [lettersL, h]
theorem letters_len (l : List UInt8) : (lettersL l).length ≤ l.length := List.length_filter_le _ _
set_option maxHeartbeats 1000000 in
theorem letters_any (s : ByteArray) (w : World) (hs : s.size ≤ 1000000) :
  Calls Tryz.prog 107 #[.string s] w fun e w' => e = .returned (strV (lettersL s.data.toList)) ∧ Below w.heap.size w w' := by
 have hl : s.data.toList.length = s.size := by simp
 have HL := Lib.hid hl; clear hl
 obtain ⟨i0, hi, hz0, hz1, hz2⟩ := info_parts infoB
 go_enter Tryz.func107, Tryz.ntmps107
 go_wp2_with fail
 go_loopw [3, 7] (fun b i wr => ∃ k : Nat, k ≤ s.size ∧ i = .int .i64 k ∧ wr.ownsRow w.heap.size 5 1 b (lettersL (s.data.toList.take k)).length ((lettersL (s.data.toList.take k)).map byteV) ∧ Below w.heap.size w wr) (fun _ i _ => s.size - (intOf i).toNat)
 case atStart => exact ⟨0, by omega, rfl, ⟨by simp [lettersL], .inl ⟨rfl, by simp [lettersL]⟩⟩, Below.refl _ _⟩
 case round =>
  obtain ⟨k, hk, rfl, ho, hb⟩ := hrel
  have HO := Lib.hid ho; clear ho
  have HBw := Lib.hid hb; clear hb
  by_cases hlt : k < s.size
  ·have hq : decide ((k : Int) < s.size) = true := by simp; omega
   have ht := Lib.hid (take_snoc' s k hlt)
   go_wp2_with fail
   refine (letter_any s[k] _).mono ?_
   cases hlo : isLow s[k]
   ·have HL2 := Lib.hid (letters_no (s.data.toList.take k) s[k] hlo); clear hlo
    rintro e w' ⟨rfl, rfl⟩
    go_wp2_with fail
    go_roundw
    case rel => exact ⟨k + 1, by omega, by go_num, by rw [ht.out, HL2.out]; exact HO.out, HBw.out⟩
    case measure => simp [intOf]; omega
   ·have HL2 := Lib.hid (letters_yes (s.data.toList.take k) s[k] hlo); clear hlo
    have hlen : (lettersL (s.data.toList.take k)).length < 1099511627776 := by have := letters_len (s.data.toList.take k); have := List.length_take_le k s.data.toList; omega
    rintro e w' ⟨rfl, rfl⟩
    go_wp2_with (at_builtin; refine wpList_append_new rfl _ _ 69 rfl w.heap.size 5 1 1 (.int .u8 0) Tryz.underlying69 infoB rfl (by decide) (by decide) _ _ _ rfl HO.out #[.int .u8 s[k].toNat] 1 rfl rfl (by simp [Value.oneCell']) hlen HBw.out.size ?_; intro v2 w2 ho2 hw2)
    go_roundw
    case rel => exact ⟨k + 1, by omega, by go_num, by rw [ht.out, HL2.out]; simpa [byteV] using ho2, hw2 _ HBw.out⟩
    case measure => simp [intOf]; omega
  ·obtain rfl : k = s.size := by omega
   have hq : decide ((s.size : Int) < s.size) = false := by simp
   rw [List.take_of_length_le (by rw [HL.out]; omega)] at HO
   have hcv := run_convert_owned (P := Tryz.prog) (src := 69) (dst := 9) _ HO.out Tryz.underlying69 Tryz.underlying5 Tryz.underlying9
   go_wp2_with fail
   go_ret
   exact ⟨rfl, HBw.out⟩
end
section
open Go.RowKit
def ascii (l : List UInt8) : Prop := ∀ b ∈ l, b.toNat < 128
theorem decode_ascii (l : List UInt8) (h : ascii l) (pos : Nat) (hp : pos < l.length) : Utf8.decode ⟨l.toArray⟩ pos = (l[pos].toNat, 1) := by
 have hb := h _ (List.getElem_mem hp)
 have e : (ByteArray.get! ⟨l.toArray⟩ (pos + 0)) = l[pos] := by
  show l.toArray[pos]! = _
  rw [getElem!_pos l.toArray pos (by simpa using hp)]; simp
 unfold Utf8.decode
 simp only [e]
 rw [if_pos (by simpa using hb)]
def isSp (r : Nat) : Bool := r == 32
def curL (l : List UInt8) : Option Nat → Nat → List UInt8
 | none, _ => []
 | some a, pos => (l.take pos).drop a
def mkS (l : List UInt8) : ByteArray := ⟨l.toArray⟩
theorem ext_mk (l : List UInt8) (a b : Nat) (hb : b ≤ l.length) : (mkS l).extract a b = mkS ((l.take b).drop a) := by
 apply ByteArray.ext
 simp [mkS, ByteArray.data_extract, List.drop_take]
theorem toksA_end (p : List UInt8) (h : p ≠ []) : toksA p [] = [p] := by simp [toksA, h]
theorem toksA_sp0 (r : List UInt8) : toksA [] (32 :: r) = toksA [] r := by simp [toksA]
theorem toksA_sp (p r : List UInt8) (h : p ≠ []) : toksA p (32 :: r) = p :: toksA [] r := by simp [toksA, h]
theorem toksA_ch (p r : List UInt8) (c : UInt8) (h : c ≠ 32) : toksA p (c :: r) = toksA (p ++ [c]) r := by simp [toksA, h]
theorem cur_ne {l : List UInt8} {a pos : Nat} (h : a < pos) (h2 : pos ≤ l.length) : (l.take pos).drop a ≠ [] := by
 intro e; have := congrArg List.length e; simp at this; omega
theorem fields_aux (l : List UInt8) (h : ascii l) : ∀ f pos st acc, l.length ≤ pos + f → pos ≤ l.length → (∀ a, st = some a → a < pos) →
  ((Lib.closeSpans (mkS l) (Lib.spansFromP isSp (mkS l) f pos st acc)).map fun x => (mkS l).extract x.1 x.2) = (acc.map fun x => (mkS l).extract x.1 x.2) ++ (toksA (curL l st pos) (l.drop pos)).map mkS := by
 have hsz : (mkS l).size = l.length := by simp [mkS, ByteArray.size]
 have hfin : ∀ pos st (acc : List (Nat × Nat)), l.length ≤ pos → pos ≤ l.length → (∀ a, st = some a → a < pos) →
   ((Lib.closeSpans (mkS l) (acc, st)).map fun x => (mkS l).extract x.1 x.2) = (acc.map fun x => (mkS l).extract x.1 x.2) ++ (toksA (curL l st pos) (l.drop pos)).map mkS := by
  intro pos st acc h1 h2 h3
  rw [List.drop_eq_nil_of_le h1]
  cases st with
  | none => simp [Lib.closeSpans, curL, toksA]
  | some a =>
   have hn := cur_ne (l := l) (h3 a rfl) h2
   simp only [Lib.closeSpans, curL, toksA_end _ hn, List.map_append, List.map_cons, List.map_nil, hsz]
   rw [ext_mk l _ _ (Nat.le_refl _), List.take_of_length_le (Nat.le_refl _), List.take_of_length_le h1]
 intro f
 induction f with
 | zero =>
  intro pos st acc h1 h2 h3
  exact hfin pos st acc h1 h2 h3
 | succ f ih =>
  intro pos st acc h1 h2 h3
  by_cases hlt : pos < l.length
  ·obtain ⟨c, hd, hdr, htk⟩ : ∃ c : UInt8, Utf8.decode (mkS l) pos = (c.toNat, 1) ∧ l.drop pos = c :: l.drop (pos + 1) ∧ l.take (pos + 1) = l.take pos ++ [c] :=
    ⟨l[pos], decode_ascii l h pos hlt, List.drop_eq_getElem_cons hlt, List.take_succ_eq_append_getElem hlt⟩
   have hlt' : pos < (mkS l).size := by rw [hsz]; exact hlt
   rw [hdr]
   by_cases hc : c = 32
   ·have hp : isSp c.toNat = true := by rw [hc]; rfl
    cases st with
    | none =>
     simp only [Lib.spansFromP, hlt', if_true, hd]
     rw [if_pos hp]
     rw [ih (pos + 1) none acc (by omega) (by omega) (by simp), hc]
     simp only [curL, toksA_sp0]
    | some a =>
     have hn := cur_ne (l := l) (h3 a rfl) h2
     simp only [Lib.spansFromP, hlt', if_true, hd]
     rw [if_pos hp]
     rw [ih (pos + 1) none _ (by omega) (by omega) (by simp), hc]
     simp only [curL, toksA_sp _ _ hn, List.map_append, List.map_cons, List.map_nil, List.append_assoc, List.cons_append, List.nil_append]
     rw [ext_mk l _ _ (by omega)]
   ·have hp : isSp c.toNat = false := by
     cases e : isSp c.toNat
     ·rfl
     ·exfalso; apply hc; unfold isSp at e; rw [← UInt8.toNat_inj]; simpa using e
    cases st with
    | none =>
     simp only [Lib.spansFromP, hlt', if_true, hd]
     rw [if_neg (by rw [hp]; exact Bool.false_ne_true)]
     rw [ih (pos + 1) (some pos) acc (by omega) (by omega) (by simp)]
     congr 2
     simp only [curL, toksA_ch _ _ _ hc, List.nil_append]
     rw [htk, List.drop_append_of_le_length (by simp; omega), List.drop_eq_nil_of_le (by simp; omega)]
     rfl
    | some a =>
     have hap := h3 a rfl
     simp only [Lib.spansFromP, hlt', if_true, hd]
     rw [if_neg (by rw [hp]; exact Bool.false_ne_true)]
     rw [ih (pos + 1) (some a) acc (by omega) (by omega) (by intro b hb; cases hb; omega)]
     congr 2
     simp only [curL, toksA_ch _ _ _ hc]
     rw [htk, List.drop_append_of_le_length (by simp; omega)]
  ·rw [Lib.spansFromP_end _ _ _ _ _ _ (by rw [hsz]; exact hlt)]
   exact hfin pos st acc (by omega) h2 h3
theorem fields_toks (l : List UInt8) (h : ascii l) : Lib.goFieldsP isSp (mkS l) = (toks l).map mkS := by
 have hsz : (mkS l).size = l.length := by simp [mkS, ByteArray.size]
 have := fields_aux l h l.length 0 none [] (by omega) (by omega) (by simp)
 unfold Lib.goFieldsP Lib.spansOfP
 rw [hsz]
 exact this
theorem join_toks (L : List (List UInt8)) : Lib.join L [32] = joinL L := by
 induction L with
 | nil => rfl
 | cons a L ih =>
  cases L with
  | nil => rw [Lib.join_one]; rfl
  | cons b L =>
   rw [Lib.join_cons] at *
   simp only [Lib.joinTail, List.map_cons, List.flatten_cons, joinL] at *
   rw [← ih]
   simp
end
section
open Go.RowKit
end
section
open Go.RowKit
variable {α : Type}
def Vec (w : World) (S : Nat → Prop) (k : Nat) (enc : α → List Value) (v : Value) (L : List α) : Prop :=
 ∃ a cap, v = .slice a L.length cap ∧ L.length ≤ cap ∧ (0 < L.length → ∃ b off, a = some ⟨b, off, none⟩ ∧ S b ∧ b < w.heap.size ∧ ∀ j x, L[j]? = some x → ∀ i u, (enc x)[i]? = some u → w.cell? ⟨b, off + j * k + i, none⟩ = some u)
theorem Vec.move {w w' : World} {S S' : Nat → Prop} {k : Nat} {enc : α → List Value} {v : Value} {L : List α} (h : Vec w S k enc v L) (hz : w.heap.size ≤ w'.heap.size) (hS : ∀ b, b < w.heap.size → S b → w'.heap[b]? = w.heap[b]? ∧ S' b) : Vec w' S' k enc v L := by
 obtain ⟨a, cap, h1, h2, h3⟩ := h
 refine ⟨a, cap, h1, h2, fun h0 => ?_⟩
 obtain ⟨b, off, h4, h5, h5', h6⟩ := h3 h0
 obtain ⟨e1, e2⟩ := hS b h5' h5
 exact ⟨b, off, h4, e2, by omega, fun j x hj i u hu => (World.cell?_of_block (w := w) (a := ⟨b, off + j * k + i, none⟩) e1).trans (h6 j x hj i u hu)⟩
/-- any block -/
def Any1 (b : Nat) : Prop := True
theorem Vec.below {w w' : World} {S : Nat → Prop} {k : Nat} {enc : α → List Value} {v : Value} {L : List α} (h : Vec w S k enc v L) (hb : Below w.heap.size w w') : Vec w' S k enc v L :=
 h.move hb.size fun b hb' h => ⟨hb.block b hb', h⟩
theorem Vec.any {w : World} {S : Nat → Prop} {k : Nat} {enc : α → List Value} {v : Value} {L : List α} (h : Vec w S k enc v L) : Vec w Any1 k enc v L :=
 h.move (Nat.le_refl _) fun b hb' h => ⟨rfl, trivial⟩
theorem Vec.nil (w : World) (S : Nat → Prop) (k : Nat) (enc : α → List Value) : Vec w S k enc (.slice none 0 0) [] := ⟨none, 0, rfl, by simp, by simp⟩
theorem Vec.slice {w : World} {S : Nat → Prop} {k : Nat} {enc : α → List Value} {v : Value} {L : List α} (h : Vec w S k enc v L) : ∃ a cap, v = .slice a L.length cap := by
 obtain ⟨a, cap, h1, _⟩ := h; exact ⟨a, cap, h1⟩
theorem flat_get {k : Nat} {enc : α → List Value} (hk : ∀ x, (enc x).length = k) : ∀ (L : List α) (j : Nat) (x : α), L[j]? = some x → ∀ i, i < k → (L.flatMap enc)[j * k + i]? = (enc x)[i]? := by
 intro L
 induction L with
 | nil => intro j x h; simp at h
 | cons y L ih =>
  intro j x h i hi
  rw [List.flatMap_cons]
  cases j with
  | zero =>
   simp at h; subst h
   rw [List.getElem?_append_left (by rw [hk]; omega)]; simp
  | succ j =>
   rw [List.getElem?_append_right (by rw [hk, Nat.succ_mul]; omega), hk]
   rw [show (j + 1) * k + i - k = j * k + i by rw [Nat.succ_mul]; omega]
   exact ih j x (by simpa using h) i hi
theorem flat_len {k : Nat} {enc : α → List Value} (hk : ∀ x, (enc x).length = k) (L : List α) : (L.flatMap enc).length = L.length * k := by
 induction L with
 | nil => simp
 | cons y L ih => rw [List.flatMap_cons, List.length_append, hk, ih, List.length_cons, Nat.succ_mul]; omega
/-- a row that the call owns reads as its list -/
theorem Vec.owns {w : World} {B : Nat} {e : TypeId} {k : Nat} {enc : α → List Value} (hk : ∀ x, (enc x).length = k) {v : Value} {L : List α} (h : w.ownsRow B e k v L.length (L.flatMap enc)) {S : Nat → Prop} (hS : ∀ b, B ≤ b → b < w.heap.size → S b) : Vec w S k enc v L := by
 obtain ⟨hl, h⟩ := h
 rcases h with ⟨rfl, h0⟩ | ⟨g, cap, cur, rfl, hg, hh, hn, hc, hsz, ht⟩
 ·have : L = [] := List.length_eq_zero_iff.1 h0
  subst this
  exact Vec.nil w S k enc
 ·refine ⟨_, cap, rfl, hn, fun h0 => ⟨g, 0, rfl, hS g hg (lt_of_blk hh), lt_of_blk hh, fun j x hj i u hu => ?_⟩⟩
  have hi : i < k := by rw [← hk x]; exact (List.getElem?_eq_some_iff.1 hu).1
  rw [cell_of_row w g (0 + j * k + i) cur e (0, 0) hh, Nat.zero_add]
  have hx := flat_get hk L j x hj i hi
  rw [hu, ← ht, List.getElem?_take] at hx
  split at hx
  ·rw [← Array.getElem?_toList]; exact hx
  ·cases hx
/-- element j of a row -/
theorem Vec.get {w : World} {S : Nat → Prop} {k : Nat} {enc : α → List Value} {a : Option Addr} {n cap : Nat} {L : List α} (h : Vec w S k enc (.slice a n cap) L) (j : Nat) (hj : j < L.length) :
  ∃ b off, a = some ⟨b, off, none⟩ ∧ b < w.heap.size ∧ ∀ i u, (enc L[j])[i]? = some u → w.cell? ⟨b, off + j * k + i, none⟩ = some u := by
 obtain ⟨a', cap', h1, h2, h3⟩ := h
 cases h1
 obtain ⟨b, off, h4, h5, h5', h6⟩ := h3 (by omega)
 exact ⟨b, off, h4, h5', fun i u hu => h6 j _ (List.getElem?_eq_getElem hj) i u hu⟩
theorem Vec.len {w : World} {S : Nat → Prop} {k : Nat} {enc : α → List Value} {a : Option Addr} {n cap : Nat} {L : List α} (h : Vec w S k enc (.slice a n cap) L) : n = L.length ∧ n ≤ cap := by
 obtain ⟨a', cap', h1, h2, h3⟩ := h
 cases h1; exact ⟨rfl, h2⟩
end
end Go.Proofs.YthnfmolkppbbpaaGreatDoor
section
namespace Go.Proofs
open Go.Shelf
def Tryz.lays169_ren : Go.Shelf.Ren := ⟨fun | 169 => 40 | n => n, fun | 70 => 68 | 9 => 9 | 0 => 0 | 72 => 71 | 37 => 69 | 127 => 110 | 3 => 3 | 5 => 5 | n => n, fun | n => n⟩
theorem Tryz.lays169 : Go.Proofs.Lays.n169 Tryz.prog Tryz.lays169_ren := {
 mixed := by kernel_rfl
 f169 := Tryz.func40.trans (congrArg some (by kernel_rfl))
 t0 := Tryz.underlying0
 a0 := Tryz.isAgg0
 z0 := Tryz.sizeOf0
 v0 := Tryz.zeroValue0
 t3 := Tryz.underlying3
 a3 := Tryz.isAgg3
 z3 := Tryz.sizeOf3
 v3 := Tryz.zeroValue3
 t9 := Tryz.underlying9
 a9 := Tryz.isAgg9
 z9 := Tryz.sizeOf9
 v9 := Tryz.zeroValue9
 t37 := Tryz.underlying69
 a37 := Tryz.isAgg69
 z37 := Tryz.sizeOf69
 v37 := Tryz.zeroValue69
 t70 := Tryz.underlying68
 a70 := Tryz.isAgg68
 z70 := Tryz.sizeOf68
 v70 := Tryz.zeroValue68
 t72 := Tryz.underlying71
 a72 := Tryz.isAgg71
 z72 := Tryz.sizeOf71
 v72 := Tryz.zeroValue71
 t127 := Tryz.underlying110
 a127 := Tryz.isAgg110
 z127 := Tryz.sizeOf110
 v127 := Tryz.zeroValue110 }
theorem Tryz.Builder_Extra_169 : Builder.Extra Tryz.prog Tryz.lays169_ren := {
 sizeBuilder := by kernel_rfl
 liesBuilder := by kernel_rfl
 t5 := Tryz.underlying5
 a5 := Tryz.isAgg5
 z5 := Tryz.sizeOf5
 v5 := Tryz.zeroValue5
 infoByte := by kernel_rfl
 cellsByte := by kernel_rfl
 sizeByte := by kernel_rfl
 neB5 := by decide }
open Go.RowKit in
/-- (*strings.Builder).String: "String returns the accumulated string.": WHATEVER THE BUILDER HOLDS. (LAID: no walk: one application.) -/
theorem Tryz.Builder_String_any (B b : Nat) (l : List UInt8) (w : World) (h : Lib.IsBuilder 71 5 B b (Lib.byteCells l) w) (hBw : B ≤ w.heap.size) :
  Calls Tryz.prog 40 #[.pointer (some ⟨b, 0, none⟩)] w fun e w' => e = .returned (.string ⟨l.toArray⟩) ∧ Below B w w' := Any.Builder_String_any Tryz.lays169 Tryz.Builder_Extra_169 B b l w h hBw
def Tryz.lays156_ren : Go.Shelf.Ren := ⟨fun | 156 => 67 | 165 => 100 | 166 => 36 | 169 => 40 | 240 => 66 | 241 => 136 | 276 => 99 | 277 => 184 | n => n, fun | 31 => 28 | 9 => 9 | 3 => 3 | 4 => 4 | 0 => 0 | 20 => 20 | 72 => 71 | 76 => 74 | 70 => 68 | 37 => 69 | 75 => 73 | 127 => 110 | 164 => 130 | 5 => 5 | 80 => 78 | n => n, fun | n => n⟩
theorem Tryz.lays156 : Go.Proofs.Lays.n156 Tryz.prog Tryz.lays156_ren := {
 mixed := by kernel_rfl
 f156 := Tryz.func67.trans (congrArg some (by kernel_rfl))
 f165 := Tryz.func100.trans (congrArg some (by kernel_rfl))
 f166 := Tryz.func36.trans (congrArg some (by kernel_rfl))
 f169 := Tryz.func40.trans (congrArg some (by kernel_rfl))
 f240 := Tryz.func66.trans (congrArg some (by kernel_rfl))
 f241 := Tryz.func136.trans (congrArg some (by kernel_rfl))
 f276 := Tryz.func99.trans (congrArg some (by kernel_rfl))
 f277 := Tryz.func184.trans (congrArg some (by kernel_rfl))
 t0 := Tryz.underlying0
 a0 := Tryz.isAgg0
 z0 := Tryz.sizeOf0
 v0 := Tryz.zeroValue0
 t3 := Tryz.underlying3
 a3 := Tryz.isAgg3
 z3 := Tryz.sizeOf3
 v3 := Tryz.zeroValue3
 t4 := Tryz.underlying4
 a4 := Tryz.isAgg4
 z4 := Tryz.sizeOf4
 v4 := Tryz.zeroValue4
 t9 := Tryz.underlying9
 a9 := Tryz.isAgg9
 z9 := Tryz.sizeOf9
 v9 := Tryz.zeroValue9
 t20 := Tryz.underlying20
 a20 := Tryz.isAgg20
 z20 := Tryz.sizeOf20
 v20 := Tryz.zeroValue20
 t31 := Tryz.underlying28
 a31 := Tryz.isAgg28
 z31 := Tryz.sizeOf28
 v31 := Tryz.zeroValue28
 t37 := Tryz.underlying69
 a37 := Tryz.isAgg69
 z37 := Tryz.sizeOf69
 v37 := Tryz.zeroValue69
 t70 := Tryz.underlying68
 a70 := Tryz.isAgg68
 z70 := Tryz.sizeOf68
 v70 := Tryz.zeroValue68
 t72 := Tryz.underlying71
 a72 := Tryz.isAgg71
 z72 := Tryz.sizeOf71
 v72 := Tryz.zeroValue71
 t75 := Tryz.underlying73
 a75 := Tryz.isAgg73
 z75 := Tryz.sizeOf73
 v75 := Tryz.zeroValue73
 t76 := Tryz.underlying74
 a76 := Tryz.isAgg74
 z76 := Tryz.sizeOf74
 v76 := Tryz.zeroValue74
 t127 := Tryz.underlying110
 a127 := Tryz.isAgg110
 z127 := Tryz.sizeOf110
 v127 := Tryz.zeroValue110
 t164 := Tryz.underlying130
 a164 := Tryz.isAgg130
 z164 := Tryz.sizeOf130
 v164 := Tryz.zeroValue130 }
theorem Tryz.Builder_Extra_156 : Builder.Extra Tryz.prog Tryz.lays156_ren := {
 sizeBuilder := by kernel_rfl
 liesBuilder := by kernel_rfl
 t5 := Tryz.underlying5
 a5 := Tryz.isAgg5
 z5 := Tryz.sizeOf5
 v5 := Tryz.zeroValue5
 infoByte := by kernel_rfl
 cellsByte := by kernel_rfl
 sizeByte := by kernel_rfl
 neB5 := by decide }
open Go.RowKit in
/-- No element: the empty string; the world is as it was. (Whatever the slice's address and capacity: a nil slice too.) (LAID: no walk: one application.) -/
theorem Tryz.strings_Join_none (a : Option Addr) (c : Nat) (sep : ByteArray) (w : World) :
  Calls Tryz.prog 67 #[.slice a 0 c, .string sep] w fun e w' => e = .returned (.string ⟨#[]⟩) ∧ w' = w := Any.strings_Join_none Tryz.lays156 Tryz.Builder_Extra_156 a c sep w
open Go.RowKit in
/-- strings.Join: "Join concatenates the elements of its first argument to create a single string. The separator string sep is placed between elements in the resulting string.": HOWEVER MANY ELEMENTS. Below the heap's end the world is as it was. (LAID: no walk: one application.) -/
theorem Tryz.strings_Join (bk o c : Nat) (xs : List ByteArray) (sep : ByteArray) (w : World) (hcells : ∀ (j : Nat) x, xs[j]? = some x → w.cell? ⟨bk, o + j, none⟩ = some (.string x)) (hbk : bk < w.heap.size) (hN : xs.length ≤ 140737488355328) (hcap : xs.length ≤ c) (hlen : (Lib.join (xs.map (·.data.toList)) sep.data.toList).length ≤ 140737488355328) :
  Calls Tryz.prog 67 #[.slice (some ⟨bk, o, none⟩) xs.length c, .string sep] w fun e w' => e = .returned (.string ⟨(Lib.join (xs.map (·.data.toList)) sep.data.toList).toArray⟩) ∧ Below w.heap.size w w' := Any.strings_Join Tryz.lays156 Tryz.Builder_Extra_156 bk o c xs sep w hcells hbk hN hcap hlen
def Tryz.lays161_ren : Go.Shelf.Ren := ⟨fun | 161 => 243 | 231 => 152 | 227 => 154 | 233 => 155 | 235 => 157 | 228 => 197 | 197 => 198 | 151 => 199 | 260 => 225 | 152 => 226 | 137 => 244 | 119 => 245 | 224 => 195 | 225 => 194 | 217 => 193 | 266 => 223 | n => n, fun | 9 => 9 | 4 => 4 | 3 => 3 | 5 => 5 | 117 => 176 | 116 => 175 | 0 => 0 | 124 => 179 | 105 => 193 | 21 => 21 | 119 => 229 | 46 => 87 | 139 => 232 | 138 => 231 | n => n, fun | 3 => 6 | 4 => 7 | n => n⟩
theorem Tryz.lays161 : Go.Proofs.Lays.n161 Tryz.prog Tryz.lays161_ren := {
 mixed := by kernel_rfl
 f119 := Tryz.func245.trans (congrArg some (by kernel_rfl))
 f137 := Tryz.func244.trans (congrArg some (by kernel_rfl))
 f151 := Tryz.func199.trans (congrArg some (by kernel_rfl))
 f152 := Tryz.func226.trans (congrArg some (by kernel_rfl))
 f161 := Tryz.func243.trans (congrArg some (by kernel_rfl))
 f197 := Tryz.func198.trans (congrArg some (by kernel_rfl))
 f217 := Tryz.func193.trans (congrArg some (by kernel_rfl))
 f224 := Tryz.func195.trans (congrArg some (by kernel_rfl))
 f225 := Tryz.func194.trans (congrArg some (by kernel_rfl))
 f227 := Tryz.func154.trans (congrArg some (by kernel_rfl))
 f228 := Tryz.func197.trans (congrArg some (by kernel_rfl))
 f231 := Tryz.func152.trans (congrArg some (by kernel_rfl))
 f233 := Tryz.func155.trans (congrArg some (by kernel_rfl))
 f235 := Tryz.func157.trans (congrArg some (by kernel_rfl))
 f260 := Tryz.func225.trans (congrArg some (by kernel_rfl))
 f266 := Tryz.func223.trans (congrArg some (by kernel_rfl))
 t0 := Tryz.underlying0
 a0 := Tryz.isAgg0
 z0 := Tryz.sizeOf0
 v0 := Tryz.zeroValue0
 t3 := Tryz.underlying3
 a3 := Tryz.isAgg3
 z3 := Tryz.sizeOf3
 v3 := Tryz.zeroValue3
 t4 := Tryz.underlying4
 a4 := Tryz.isAgg4
 z4 := Tryz.sizeOf4
 v4 := Tryz.zeroValue4
 t5 := Tryz.underlying5
 a5 := Tryz.isAgg5
 z5 := Tryz.sizeOf5
 v5 := Tryz.zeroValue5
 t9 := Tryz.underlying9
 a9 := Tryz.isAgg9
 z9 := Tryz.sizeOf9
 v9 := Tryz.zeroValue9
 t21 := Tryz.underlying21
 a21 := Tryz.isAgg21
 z21 := Tryz.sizeOf21
 v21 := Tryz.zeroValue21
 t46 := Tryz.underlying87
 a46 := Tryz.isAgg87
 z46 := Tryz.sizeOf87
 v46 := Tryz.zeroValue87
 t105 := Tryz.underlying193
 a105 := Tryz.isAgg193
 z105 := Tryz.sizeOf193
 v105 := Tryz.zeroValue193
 t116 := Tryz.underlying175
 a116 := Tryz.isAgg175
 z116 := Tryz.sizeOf175
 t117 := Tryz.underlying176
 a117 := Tryz.isAgg176
 z117 := Tryz.sizeOf176
 v117 := Tryz.zeroValue176
 t119 := Tryz.underlying229
 a119 := Tryz.isAgg229
 z119 := Tryz.sizeOf229
 t124 := Tryz.underlying179
 a124 := Tryz.isAgg179
 z124 := Tryz.sizeOf179
 v124 := Tryz.zeroValue179
 t138 := Tryz.underlying231
 a138 := Tryz.isAgg231
 z138 := Tryz.sizeOf231
 v138 := Tryz.zeroValue231
 t139 := Tryz.underlying232
 a139 := Tryz.isAgg232
 z139 := Tryz.sizeOf232
 v139 := Tryz.zeroValue232
 g3 := by kernel_rfl
 g4 := by kernel_rfl }
open Go.RowKit in
/-- strings.TrimLeft: "TrimLeft returns a slice of the string s with all leading Unicode code points contained in cutset removed.": AT A cutset OF ONE ASCII BYTE. The world is as it was. (LAID: no walk: one application.) -/
theorem Tryz.strings_TrimLeft_one (s : ByteArray) (c : UInt8) (hc : c.toNat < 128) (w : World) :
  Calls Tryz.prog 243 #[.string s, .string ⟨#[c]⟩] w fun e w' => e = .returned (.string ⟨(Lib.trimLeftB s.data.toList c).toArray⟩) ∧ w' = w := Any.strings_TrimLeft_one Tryz.lays161 s c hc w
def Tryz.laysM145_ren : Go.Shelf.Ren := ⟨fun | 145 => 77 | 220 => 113 | 219 => 151 | 217 => 193 | 225 => 194 | 224 => 195 | 267 => 196 | 266 => 223 | 314 => 224 | n => n, fun | 9 => 9 | 4 => 4 | 59 => 115 | 3 => 3 | 5 => 5 | 46 => 87 | 146 => 165 | 51 => 164 | n => n, fun | 1 => 0 | n => n⟩
theorem Tryz.laysM145 : Go.Proofs.LaysM.n145 Tryz.prog Tryz.laysM145_ren := {
 mixed := by kernel_rfl
 f145 := Tryz.func77.trans (congrArg some (by kernel_rfl))
 f217 := Tryz.func193.trans (congrArg some (by kernel_rfl))
 f219 := Tryz.func151.trans (congrArg some (by kernel_rfl))
 f220 := Tryz.func113.trans (congrArg some (by kernel_rfl))
 f224 := Tryz.func195.trans (congrArg some (by kernel_rfl))
 f225 := Tryz.func194.trans (congrArg some (by kernel_rfl))
 f266 := Tryz.func223.trans (congrArg some (by kernel_rfl))
 f267 := Tryz.func196.trans (congrArg some (by kernel_rfl))
 f314 := Tryz.func224.trans (congrArg some (by kernel_rfl))
 t3 := Tryz.underlying3
 a3 := Tryz.isAgg3
 z3 := Tryz.sizeOf3
 v3 := Tryz.zeroValue3
 t4 := Tryz.underlying4
 a4 := Tryz.isAgg4
 z4 := Tryz.sizeOf4
 v4 := Tryz.zeroValue4
 t5 := Tryz.underlying5
 a5 := Tryz.isAgg5
 z5 := Tryz.sizeOf5
 v5 := Tryz.zeroValue5
 t9 := Tryz.underlying9
 a9 := Tryz.isAgg9
 z9 := Tryz.sizeOf9
 v9 := Tryz.zeroValue9
 t46 := Tryz.underlying87
 a46 := Tryz.isAgg87
 z46 := Tryz.sizeOf87
 v46 := Tryz.zeroValue87
 t51 := Tryz.underlying164
 a51 := Tryz.isAgg164
 z51 := Tryz.sizeOf164
 v51 := Tryz.zeroValue164
 t59 := Tryz.underlying115
 a59 := Tryz.isAgg115
 z59 := Tryz.sizeOf115
 v59 := Tryz.zeroValue115
 t146 := Tryz.underlying165
 a146 := Tryz.isAgg165
 z146 := Tryz.sizeOf165
 v146 := Tryz.zeroValue165
 g1 := by kernel_rfl
 i3 := by kernel_rfl
 i4 := by kernel_rfl
 i5 := by kernel_rfl
 i9 := by kernel_rfl
 i46 := by kernel_rfl
 i51 := by kernel_rfl
 i59 := by kernel_rfl
 i146 := by kernel_rfl
 m1 := by kernel_rfl
 s1_3 := fun w h => Go.Proofs.cell_of_shapedOpen_int (zero := #[.int .i64 0]) (t := 3) h (of_decide_eq_true (by kernel_rfl)) (by kernel_rfl) rfl (by kernel_rfl) (by kernel_rfl) Tryz.underlying3 }
open Go.RowKit Go.Lib in
def Tryz.laysM146_ren : Go.Shelf.Ren := ⟨fun | 146 => 81 | 221 => 116 | 268 => 159 | 138 => 160 | 143 => 161 | 195 => 201 | 197 => 198 | 218 => 202 | 219 => 151 | 260 => 225 | 217 => 193 | 225 => 194 | 224 => 195 | 267 => 196 | 266 => 223 | 314 => 224 | n => n, fun | 9 => 9 | 31 => 28 | 3 => 3 | 4 => 4 | 0 => 0 | 105 => 193 | 21 => 21 | 5 => 5 | 46 => 87 | 119 => 229 | 139 => 232 | 138 => 231 | 146 => 165 | 51 => 164 | n => n, fun | 1 => 0 | 3 => 6 | 4 => 7 | n => n⟩
theorem Tryz.laysM146 : Go.Proofs.LaysM.n146 Tryz.prog Tryz.laysM146_ren := {
 mixed := by kernel_rfl
 f138 := Tryz.func160.trans (congrArg some (by kernel_rfl))
 f143 := Tryz.func161.trans (congrArg some (by kernel_rfl))
 f146 := Tryz.func81.trans (congrArg some (by kernel_rfl))
 f195 := Tryz.func201.trans (congrArg some (by kernel_rfl))
 f197 := Tryz.func198.trans (congrArg some (by kernel_rfl))
 f217 := Tryz.func193.trans (congrArg some (by kernel_rfl))
 f218 := Tryz.func202.trans (congrArg some (by kernel_rfl))
 f219 := Tryz.func151.trans (congrArg some (by kernel_rfl))
 f221 := Tryz.func116.trans (congrArg some (by kernel_rfl))
 f224 := Tryz.func195.trans (congrArg some (by kernel_rfl))
 f225 := Tryz.func194.trans (congrArg some (by kernel_rfl))
 f260 := Tryz.func225.trans (congrArg some (by kernel_rfl))
 f266 := Tryz.func223.trans (congrArg some (by kernel_rfl))
 f267 := Tryz.func196.trans (congrArg some (by kernel_rfl))
 f268 := Tryz.func159.trans (congrArg some (by kernel_rfl))
 f314 := Tryz.func224.trans (congrArg some (by kernel_rfl))
 t0 := Tryz.underlying0
 a0 := Tryz.isAgg0
 z0 := Tryz.sizeOf0
 v0 := Tryz.zeroValue0
 t3 := Tryz.underlying3
 a3 := Tryz.isAgg3
 z3 := Tryz.sizeOf3
 v3 := Tryz.zeroValue3
 t4 := Tryz.underlying4
 a4 := Tryz.isAgg4
 z4 := Tryz.sizeOf4
 v4 := Tryz.zeroValue4
 t5 := Tryz.underlying5
 a5 := Tryz.isAgg5
 z5 := Tryz.sizeOf5
 v5 := Tryz.zeroValue5
 t9 := Tryz.underlying9
 a9 := Tryz.isAgg9
 z9 := Tryz.sizeOf9
 v9 := Tryz.zeroValue9
 t21 := Tryz.underlying21
 a21 := Tryz.isAgg21
 z21 := Tryz.sizeOf21
 v21 := Tryz.zeroValue21
 t31 := Tryz.underlying28
 a31 := Tryz.isAgg28
 z31 := Tryz.sizeOf28
 v31 := Tryz.zeroValue28
 t46 := Tryz.underlying87
 a46 := Tryz.isAgg87
 z46 := Tryz.sizeOf87
 v46 := Tryz.zeroValue87
 t51 := Tryz.underlying164
 a51 := Tryz.isAgg164
 z51 := Tryz.sizeOf164
 v51 := Tryz.zeroValue164
 t105 := Tryz.underlying193
 a105 := Tryz.isAgg193
 z105 := Tryz.sizeOf193
 v105 := Tryz.zeroValue193
 t119 := Tryz.underlying229
 a119 := Tryz.isAgg229
 z119 := Tryz.sizeOf229
 t138 := Tryz.underlying231
 a138 := Tryz.isAgg231
 z138 := Tryz.sizeOf231
 v138 := Tryz.zeroValue231
 t139 := Tryz.underlying232
 a139 := Tryz.isAgg232
 z139 := Tryz.sizeOf232
 v139 := Tryz.zeroValue232
 t146 := Tryz.underlying165
 a146 := Tryz.isAgg165
 z146 := Tryz.sizeOf165
 v146 := Tryz.zeroValue165
 g1 := by kernel_rfl
 g3 := by kernel_rfl
 g4 := by kernel_rfl
 i0 := by kernel_rfl
 i3 := by kernel_rfl
 i4 := by kernel_rfl
 i5 := by kernel_rfl
 i9 := by kernel_rfl
 i21 := by kernel_rfl
 i31 := by kernel_rfl
 i46 := by kernel_rfl
 i51 := by kernel_rfl
 i105 := by kernel_rfl
 i138 := by kernel_rfl
 i139 := by kernel_rfl
 i146 := by kernel_rfl
 m1 := by kernel_rfl
 s1_3 := fun w h => Go.Proofs.cell_of_shapedOpen_int (zero := #[.int .i64 0]) (t := 3) h (of_decide_eq_true (by kernel_rfl)) (by kernel_rfl) rfl (by kernel_rfl) (by kernel_rfl) Tryz.underlying3
 m3 := by kernel_rfl
 m4 := by kernel_rfl }
open Go.RowKit Go.Lib in
def Tryz.lays229_ren : Go.Shelf.Ren := ⟨fun | 229 => 235 | n => n, fun | 9 => 9 | 40 => 217 | 31 => 28 | 152 => 237 | 3 => 3 | 0 => 0 | 4 => 4 | 21 => 21 | 154 => 239 | n => n, fun | n => n⟩
theorem Tryz.lays229 : Go.Proofs.Lays.n229 Tryz.prog Tryz.lays229_ren := {
 mixed := by kernel_rfl
 f229 := Tryz.func235.trans (congrArg some (by kernel_rfl))
 t0 := Tryz.underlying0
 a0 := Tryz.isAgg0
 z0 := Tryz.sizeOf0
 v0 := Tryz.zeroValue0
 t3 := Tryz.underlying3
 a3 := Tryz.isAgg3
 z3 := Tryz.sizeOf3
 v3 := Tryz.zeroValue3
 t4 := Tryz.underlying4
 a4 := Tryz.isAgg4
 z4 := Tryz.sizeOf4
 v4 := Tryz.zeroValue4
 t9 := Tryz.underlying9
 a9 := Tryz.isAgg9
 z9 := Tryz.sizeOf9
 v9 := Tryz.zeroValue9
 t21 := Tryz.underlying21
 a21 := Tryz.isAgg21
 z21 := Tryz.sizeOf21
 v21 := Tryz.zeroValue21
 t31 := Tryz.underlying28
 a31 := Tryz.isAgg28
 z31 := Tryz.sizeOf28
 v31 := Tryz.zeroValue28
 t40 := Tryz.underlying217
 a40 := Tryz.isAgg217
 z40 := Tryz.sizeOf217
 v40 := Tryz.zeroValue217
 t152 := Tryz.underlying237
 a152 := Tryz.isAgg237
 z152 := Tryz.sizeOf237
 v152 := Tryz.zeroValue237
 t154 := Tryz.underlying239
 a154 := Tryz.isAgg239
 z154 := Tryz.sizeOf239
 v154 := Tryz.zeroValue239 }
open Go.RowKit Go.Lib in
/-- .. over a hand of the authors' house's premise as it stands. (LAID: no walk: one application.) -/
theorem Tryz.strings_FieldsFunc (g : Nat) (lb : Array Value) (eg : ∀ args w, (callFunc g args).run Tryz.prog w = .ok (.enter g args) w) (p : Nat → Bool) (s : ByteArray) (w : World) (hs : s.size ≤ 4294967296) (hp : PredAt Tryz.prog g lb encR p w) :
  Calls Tryz.prog 235 #[.string s, .func (.func g) #[] lb] w fun e w' => ∃ A, e = .returned (.slice (some ⟨A, 0, none⟩) (Lib.goFieldsP p s).length (Lib.goFieldsP p s).length) ∧ w.heap.size ≤ A ∧
   w'.ownsRow w.heap.size 9 1 (.slice (some ⟨A, 0, none⟩) (Lib.goFieldsP p s).length (Lib.goFieldsP p s).length) (Lib.goFieldsP p s).length ((Lib.goFieldsP p s).map Value.string) ∧ Below w.heap.size w w' := Any.strings_FieldsFunc Tryz.lays229 g lb eg p s w hs hp (by kernel_rfl) (by kernel_rfl)
def Tryz.lays110_ren : Go.Shelf.Ren := ⟨fun | 110 => 150 | 109 => 192 | n => n, fun | 31 => 28 | 9 => 9 | 4 => 4 | 3 => 3 | 0 => 0 | n => n, fun | n => n⟩
theorem Tryz.lays110 : Go.Proofs.Lays.n110 Tryz.prog Tryz.lays110_ren := {
 mixed := by kernel_rfl
 f109 := Tryz.func192.trans (congrArg some (by kernel_rfl))
 f110 := Tryz.func150.trans (congrArg some (by kernel_rfl))
 t0 := Tryz.underlying0
 a0 := Tryz.isAgg0
 z0 := Tryz.sizeOf0
 v0 := Tryz.zeroValue0
 t3 := Tryz.underlying3
 a3 := Tryz.isAgg3
 z3 := Tryz.sizeOf3
 v3 := Tryz.zeroValue3
 t4 := Tryz.underlying4
 a4 := Tryz.isAgg4
 z4 := Tryz.sizeOf4
 v4 := Tryz.zeroValue4
 t9 := Tryz.underlying9
 a9 := Tryz.isAgg9
 z9 := Tryz.sizeOf9
 v9 := Tryz.zeroValue9
 t31 := Tryz.underlying28
 a31 := Tryz.isAgg28
 z31 := Tryz.sizeOf28
 v31 := Tryz.zeroValue28 }
open Go.Lib in
/-- slices.Contains at []string: "Contains reports whether v is present in s.": IT RETURNS 'Lib.containsS (the elements) v', which is true just where v is among them ('Lib.containsS_iff'); the world is as it was. ITS CALLEE slices.Index IS MET BY ITS OWN CONTRACT OFF THE SHELF (lay that first): no loop is walked here. (LAID: no walk: one application.) -/
theorem Tryz.slices_Contains_string (b off n c : Nat) (zs : List ByteArray) (x : ByteArray) (w : World) (hz : n ≤ zs.length) (hbig : n ≤ 9223372036854775807) (hc : ∀ j, j < zs.length → w.cell? ⟨b, off + j, none⟩ = some (.string (zs.getD j ByteArray.empty))) :
  Calls Tryz.prog 150 #[.slice (some ⟨b, off, none⟩) n c, .string x] w fun e w' => e = .returned (.bool (Lib.containsS (zs.take n) x)) ∧ w' = w := Any.slices_Contains_string Tryz.lays110 b off n c zs x w hz hbig hc
open Go.Lib in
/-- The same at a slice of length 0, a nil one too. (LAID: no walk: one application.) -/
theorem Tryz.slices_Contains_string_empty (a : Option Addr) (c : Nat) (x : ByteArray) (w : World) :
  Calls Tryz.prog 150 #[.slice a 0 c, .string x] w fun e w' => e = .returned (.bool false) ∧ w' = w := Any.slices_Contains_string_empty Tryz.lays110 a c x w
def Tryz.laysCF_ren : Go.Shelf.Ren := ⟨fun | 8 => 72 | 6 => 106 | n => n, fun | 22 => 27 | 23 => 62 | 25 => 112 | 4 => 4 | 3 => 3 | 0 => 0 | n => n, fun | n => n⟩
theorem Tryz.laysCF : Go.Proofs.SlLaysH0.n8 Tryz.prog Tryz.laysCF_ren := {
 mixed := by kernel_rfl
 f6 := ⟨Tryz.f106.name, by decide, Tryz.func106.trans (congrArg some (by kernel_rfl))⟩
 f8 := ⟨Tryz.f72.name, by decide, Tryz.func72.trans (congrArg some (by kernel_rfl))⟩
 t0 := Tryz.underlying0
 a0 := Tryz.isAgg0
 z0 := Tryz.sizeOf0
 v0 := Tryz.zeroValue0
 t3 := Tryz.underlying3
 a3 := Tryz.isAgg3
 z3 := Tryz.sizeOf3
 v3 := Tryz.zeroValue3
 t4 := Tryz.underlying4
 a4 := Tryz.isAgg4
 z4 := Tryz.sizeOf4
 v4 := Tryz.zeroValue4
 t22 := Tryz.underlying27
 a22 := Tryz.isAgg27
 z22 := Tryz.sizeOf27
 v22 := Tryz.zeroValue27
 t25 := Tryz.underlying112
 a25 := Tryz.isAgg112
 z25 := Tryz.sizeOf112
 v25 := Tryz.zeroValue112 }
def Tryz.laysCP_ren : Go.Shelf.Ren := ⟨fun | 8 => 110 | 6 => 149 | n => n, fun | 22 => 29 | 23 => 103 | 25 => 142 | 4 => 4 | 3 => 3 | 0 => 0 | n => n, fun | n => n⟩
theorem Tryz.laysCP : Go.Proofs.SlLaysH0.n8 Tryz.prog Tryz.laysCP_ren := {
 mixed := by kernel_rfl
 f6 := ⟨Tryz.f149.name, by decide, Tryz.func149.trans (congrArg some (by kernel_rfl))⟩
 f8 := ⟨Tryz.f110.name, by decide, Tryz.func110.trans (congrArg some (by kernel_rfl))⟩
 t0 := Tryz.underlying0
 a0 := Tryz.isAgg0
 z0 := Tryz.sizeOf0
 v0 := Tryz.zeroValue0
 t3 := Tryz.underlying3
 a3 := Tryz.isAgg3
 z3 := Tryz.sizeOf3
 v3 := Tryz.zeroValue3
 t4 := Tryz.underlying4
 a4 := Tryz.isAgg4
 z4 := Tryz.sizeOf4
 v4 := Tryz.zeroValue4
 t22 := Tryz.underlying29
 a22 := Tryz.isAgg29
 z22 := Tryz.sizeOf29
 v22 := Tryz.zeroValue29
 t25 := Tryz.underlying142
 a25 := Tryz.isAgg142
 z25 := Tryz.sizeOf142
 v25 := Tryz.zeroValue142 }
def Tryz.laysIP_ren : Go.Shelf.Ren := ⟨fun | 6 => 149 | n => n, fun | 22 => 29 | 23 => 103 | 25 => 142 | 3 => 3 | 0 => 0 | 4 => 4 | n => n, fun | n => n⟩
theorem Tryz.laysIP : Go.Proofs.SlLaysH0.n6 Tryz.prog Tryz.laysIP_ren := {
 mixed := by kernel_rfl
 f6 := ⟨Tryz.f149.name, by decide, Tryz.func149.trans (congrArg some (by kernel_rfl))⟩
 t0 := Tryz.underlying0
 a0 := Tryz.isAgg0
 z0 := Tryz.sizeOf0
 v0 := Tryz.zeroValue0
 t3 := Tryz.underlying3
 a3 := Tryz.isAgg3
 z3 := Tryz.sizeOf3
 v3 := Tryz.zeroValue3
 t4 := Tryz.underlying4
 a4 := Tryz.isAgg4
 z4 := Tryz.sizeOf4
 v4 := Tryz.zeroValue4
 t22 := Tryz.underlying29
 a22 := Tryz.isAgg29
 z22 := Tryz.sizeOf29
 v22 := Tryz.zeroValue29
 t25 := Tryz.underlying142
 a25 := Tryz.isAgg142
 z25 := Tryz.sizeOf142
 v25 := Tryz.zeroValue142 }
end Go.Proofs
end
namespace Go.Proofs.YthnfmolkppbbpaaGreatDoor
section
set_option maxRecDepth 100000
open Go.RowKit
def tblV : Array Value := (replT.map strV).toArray
set_option maxHeartbeats 1000000 in
theorem repl_any (w : World) :
  Calls Tryz.prog 232 #[] w fun e w' => e = .returned (.agg tblV) ∧ Below w.heap.size w w' := by
 go_enter Tryz.func232, Tryz.ntmps232
 go_upto_region 1 with (fail)
 rename_i hK
 refine wp_region_list ?_
 refine wpList_buildTo rfl 213 _ rfl (some 1) rfl tblV (by kernel_rfl) ?_
 refine wpList_store_row rfl 213 _ _ rfl w.heap.size tblV rfl rfl 213 _ (heap_alloc_new w _) (by kernel_rfl) (by kernel_rfl) (by kernel_rfl) ?_
 refine wpList_nil ?_
 rw [World.setRow_alloc_new]
 refine hK _ _ ?_
 go_wp2_with fail
 exact bodyPost_row1 rfl rfl (heap_alloc_new w _) Tryz.underlying213 rfl (by kernel_rfl) ⟨rfl, (Below.refl _ _).alloc (Nat.le_refl _) _⟩
theorem wstr_any (B b : Nat) (bs : List Value) (s : ByteArray) (w : World) (h : Lib.IsBuilder 71 5 B b bs w) (hlen : bs.length + s.size ≤ 140737488355328) (hBw : B ≤ w.heap.size) :
  Calls Tryz.prog 36 #[.pointer (some ⟨b, 0, none⟩), .string s] w fun e w' => e = .returned (.tuple #[.int .i64 s.size, .nilIface]) ∧ (Lib.BuilderAt 71 5 B b (.pointer (some ⟨b, 0, none⟩)) (bs ++ Lib.strCells s) w' ∧ Below B w w') :=
 Any.Builder_WriteString { Tryz.lays156 with } Tryz.Builder_Extra_156 B b bs s w h hlen hBw
theorem bstr_any (B b : Nat) (l : List UInt8) (w : World) (h : Lib.IsBuilder 71 5 B b (Lib.byteCells l) w) (hBw : B ≤ w.heap.size) :
  Calls Tryz.prog 40 #[.pointer (some ⟨b, 0, none⟩)] w fun e w' => e = .returned (.string ⟨l.toArray⟩) ∧ Below B w w' := Tryz.Builder_String_any B b l w h hBw
theorem tok_pred (w : World) : PredAt Tryz.prog 236 #[] encR isSp w := fun W r _ => by
 unfold FnGives
 have e : isSp r = ((r : Int) == 32) := by unfold isSp; rw [Bool.eq_iff_iff]; simp; omega
 have E := Lib.hid e; clear e
 go_enter Tryz.func236, Tryz.ntmps236
 go_wp2
 go_ret
 exact ⟨ret_bool E.out.symm, 0, rfl⟩
/-- the cells of a text in a slice of texts -/
abbrev encS (l : List UInt8) : List Value := [strV l]
def StrsPost (L : List (List UInt8)) (w : World) (e : Ending) (w' : World) : Prop := ∃ A, e = .returned (.slice (some ⟨A, 0, none⟩) L.length L.length) ∧ w.heap.size ≤ A ∧ w'.ownsRow w.heap.size 9 1 (.slice (some ⟨A, 0, none⟩) L.length L.length) L.length (L.flatMap encS) ∧ Below w.heap.size w w'
theorem flat_str (L : List (List UInt8)) : (L.map mkS).map Value.string = L.flatMap encS := by
 induction L with
 | nil => rfl
 | cons a L ih => simp only [List.map_cons, List.flatMap_cons, ih]; rfl
set_option maxHeartbeats 400000 in
theorem tokens_any (l : List UInt8) (w : World) (h : ascii l) (hl : l.length ≤ 1000000) :
  Calls Tryz.prog 209 #[strV l] w (StrsPost (toks l) w) := by
 have hsz : (mkS l).size = l.length := by simp [mkS, ByteArray.size]
 have hc := Lib.hid (Tryz.strings_FieldsFunc 236 #[] (enters_of Tryz.func236 (by kernel_rfl) rfl) isSp (mkS l) w (by omega) (tok_pred w))
 go_enter Tryz.func209, Tryz.ntmps209
 go_wp2_with fail
 refine hc.out.mono ?_
 rintro e w1 ⟨A, rfl, hA, ho, hb⟩
 rw [fields_toks l h, List.length_map] at *
 have HO := Lib.hid ho; clear ho
 go_wp2_with fail
 go_ret
 exact ⟨A, rfl, hA, by rw [← flat_str]; exact HO.out, hb⟩
set_option maxHeartbeats 400000 in
/-- the texts of a slice, joined by single spaces -/
theorem join_any (S : Nat → Prop) (v : Value) (L : List (List UInt8)) (w : World) (h : Vec w S 1 encS v L) (hn : L.length ≤ 1000000) (hj : (joinL L).length ≤ 1000000000) :
  Calls Tryz.prog 211 #[v] w fun e w' => e = .returned (strV (joinL L)) ∧ Below w.heap.size w w' := by
 obtain ⟨a, cap, rfl, hcap, h0⟩ := h
 have hjj : Lib.join ((L.map mkS).map (·.data.toList)) [32] = joinL L := by
  rw [List.map_map, ← join_toks]; congr 1; conv => rhs; rw [← List.map_id L]
  exact List.map_congr_left fun x _ => by simp [mkS]
 have key : Calls Tryz.prog 67 #[.slice a L.length cap, .string ⟨#[32]⟩] w fun e w' => e = .returned (strV (joinL L)) ∧ Below w.heap.size w w' := by
  by_cases hz : L = []
  ·subst hz
   exact (Tryz.strings_Join_none a cap ⟨#[32]⟩ w).mono fun e w' ⟨he, hw⟩ => ⟨he, by rw [hw]; exact Below.refl _ _⟩
  ·obtain ⟨b, off, rfl, _, hb, hc⟩ := h0 (List.length_pos_iff.2 hz)
   have := Tryz.strings_Join b off cap (L.map mkS) ⟨#[32]⟩ w (fun j x hx => by
    rw [List.getElem?_map] at hx
    obtain ⟨y, hy, rfl⟩ := Option.map_eq_some_iff.1 hx
    have := hc j y hy 0 _ rfl
    simpa [mkS] using this) hb (by simp; omega) (by simpa using hcap) (by rw [show (⟨#[32]⟩ : ByteArray).data.toList = [32] from rfl, hjj]; omega)
   rw [show (⟨#[32]⟩ : ByteArray).data.toList = [32] from rfl, hjj, List.length_map] at this
   exact this
 have KEY := Lib.hid key
 clear key hjj h0
 go_enter Tryz.func211, Tryz.ntmps211
 go_wp2_with fail
 refine KEY.out.mono ?_
 rintro e w1 ⟨rfl, hb⟩
 go_wp2_with fail
 go_ret
 exact ⟨rfl, hb⟩
end
section
set_option maxRecDepth 100000
open Go.RowKit
/-- a byte of a folded text -/
def okB (b : UInt8) : Bool := isLow b || isDgt b || b == 32
theorem replT_ok : (replT.all fun x => x.all okB && decide (x.length ≤ 2)) = true := by decide
theorem replB_get (n : Nat) (h : n < 64) : replT[n]? = some (replT.getD n []) := by
 have : n < replT.length := h
 rw [List.getElem?_eq_getElem this]; simp [List.getD, List.getElem?_eq_getElem this]
theorem replB_ok (b : UInt8) : (∀ c ∈ replB b, okB c = true) ∧ (replB b).length ≤ 2 := by
 unfold replB
 by_cases h : b.toNat - 128 < replT.length
 ·have hm : replT.getD (b.toNat - 128) [] ∈ replT := by
   simp only [List.getD, List.getElem?_eq_getElem h, Option.getD_some]; exact List.getElem_mem h
  have := List.all_eq_true.1 replT_ok _ hm
  rw [Bool.and_eq_true, List.all_eq_true, decide_eq_true_iff] at this
  exact this
 ·have : replT.getD (b.toNat - 128) [] = [] := by simp [List.getD, List.getElem?_eq_none (Nat.le_of_not_lt h)]
  rw [this]; simp
theorem plainB_ok (b : UInt8) : (∀ c ∈ plainB b, okB c = true) ∧ (plainB b).length ≤ 1 := by
 unfold plainB
 split
 ·rename_i h
  refine ⟨fun c hc => ?_, by simp⟩
  simp at hc; subst hc
  have : isLow (b + 32) = true := by
   rw [up_iff, decide_eq_true_iff] at h
   rw [low_iff, decide_eq_true_iff]
   have := b.toNat_lt
   have e : (b + 32).toNat = b.toNat + 32 := by rw [UInt8.toNat_add]; simp; omega
   rw [e]; omega
  simp [okB, this]
 ·split
  ·rename_i h
   refine ⟨fun c hc => ?_, by simp⟩
   simp at hc; subst hc
   simp at h; simp [okB, h]
  ·split
   ·simp
   ·exact ⟨fun c hc => by simp at hc; subst hc; rfl, by simp⟩
theorem raw_ok (l : List UInt8) : (∀ c ∈ rawL l, okB c = true) ∧ (rawL l).length ≤ l.length := by
 induction l using rawL.induct with
 | case1 => simp [rawL]
 | case2 a => simp only [rawL]; exact ⟨(plainB_ok a).1, by simpa using (plainB_ok a).2⟩
 | case3 a b r h ih =>
  simp only [rawL, h, if_true]
  refine ⟨fun c hc => ?_, by have := (replB_ok b).2; simp; omega⟩
  rcases List.mem_append.1 hc with hc | hc
  ·exact (replB_ok b).1 c hc
  ·exact ih.1 c hc
 | case4 a b r h ih =>
  simp only [rawL, h]
  refine ⟨fun c hc => ?_, by have := (plainB_ok a).2; have := ih.2; simp at *; omega⟩
  simp only [Bool.false_eq_true, if_false] at hc
  rcases List.mem_append.1 hc with hc | hc
  ·exact (plainB_ok a).1 c hc
  ·exact ih.1 c hc
theorem okB_lt {b : UInt8} (h : okB b = true) : b.toNat < 128 := by
 unfold okB at h
 simp only [Bool.or_eq_true, low_iff, dig_iff, decide_eq_true_iff, beq_iff_eq] at h
 rcases h with (h | h) | h
 ·omega
 ·omega
 ·subst h; decide
theorem raw_ascii (l : List UInt8) : ascii (rawL l) := fun b hb => okB_lt ((raw_ok l).1 b hb)
/-- the bytes of tokens are those of the text, less the spaces -/
theorem toksA_mem (l : List UInt8) : ∀ p, ∀ t ∈ toksA p l, ∀ b ∈ t, b ∈ p ∨ (b ∈ l ∧ b ≠ 32) := by
 induction l with
 | nil =>
  intro p t ht b hb
  simp only [toksA] at ht
  split at ht
  ·simp at ht
  ·simp at ht; subst ht; exact .inl hb
 | cons c l ih =>
  intro p t ht b hb
  by_cases hc : c = 32
  ·subst hc
   by_cases hp : p = []
   ·subst hp
    rw [toksA_sp0] at ht
    rcases ih [] t ht b hb with h | h
    ·simp at h
    ·exact .inr ⟨List.mem_cons_of_mem _ h.1, h.2⟩
   ·rw [toksA_sp _ _ hp] at ht
    rcases List.mem_cons.1 ht with rfl | ht
    ·exact .inl hb
    ·rcases ih [] t ht b hb with h | h
     ·simp at h
     ·exact .inr ⟨List.mem_cons_of_mem _ h.1, h.2⟩
  ·rw [toksA_ch _ _ _ hc] at ht
   rcases ih _ t ht b hb with h | h
   ·rcases List.mem_append.1 h with h | h
    ·exact .inl h
    ·simp at h; subst h; exact .inr ⟨List.mem_cons_self, hc⟩
   ·exact .inr ⟨List.mem_cons_of_mem _ h.1, h.2⟩
theorem join_cons_ne (t : List UInt8) (L : List (List UInt8)) (h : L ≠ []) : joinL (t :: L) = t ++ [32] ++ joinL L := by
 cases L with
 | nil => exact absurd rfl h
 | cons b r => rfl
theorem toksA_len (l : List UInt8) : ∀ p, (joinL (toksA p l)).length ≤ p.length + l.length ∧ (toksA p l).length ≤ l.length + 1 ∧ (p = [] → l.length = 0 → toksA p l = []) := by
 induction l with
 | nil =>
  intro p
  simp only [toksA]
  split <;> simp_all [joinL]
 | cons c l ih =>
  intro p
  by_cases hc : c = 32
  ·subst hc
   by_cases hp : p = []
   ·subst hp
    rw [toksA_sp0]
    have := ih []
    simp at *; omega
   ·rw [toksA_sp _ _ hp]
    have := ih []
    by_cases hq : toksA [] l = []
    ·rw [hq]; simp [joinL]; try omega
    ·rw [join_cons_ne _ _ hq]; simp at *; omega
  ·rw [toksA_ch _ _ _ hc]
   have := ih (p ++ [c])
   simp at *; omega
theorem fold_len (l : List UInt8) : (foldL l).length ≤ l.length := by
 have h1 := (toksA_len (rawL l) []).1
 have h2 := (raw_ok l).2
 unfold foldL toks
 simp at h1; omega
end
section
set_option maxRecDepth 100000
open Go.RowKit
theorem tbl_cell {w : World} {b : Nat} (h : w.heap[b]? = some (.cells tblV 213 (0, 0))) (c : UInt8) (n : Nat) (hn : c.toNat = 128 + n) (h64 : n < 64) : w.cell? ⟨b, n, none⟩ = some (strV (replB c)) := by
 rw [cell_of_row w b n tblV _ _ h]
 unfold tblV replB
 rw [hn, Nat.add_sub_cancel_left, List.getElem?_toArray, List.getElem?_map, replB_get n h64]
 rfl
theorem pairAt_snd (s : ByteArray) (i : Nat) (hi : i + 1 < s.size) (h : pairAt (s.data.toList.drop i) = true) : ∃ n : Nat, s[i + 1].toNat = 128 + n ∧ n < 64 := by
 rw [drop_two s i hi] at h
 simp only [pairAt, pair_iff, decide_eq_true_iff] at h
 exact ⟨s[i + 1].toNat - 128, by omega, by omega⟩
theorem mk_size (l : List UInt8) : (⟨l.toArray⟩ : ByteArray).size = l.length := by simp [ByteArray.size]
theorem put_len {acc x : List UInt8} {n : Nat} (h : acc.length ≤ n) (hn : n ≤ 1000000) (hx : x.length ≤ 2) : (Lib.byteCells acc).length + (⟨x.toArray⟩ : ByteArray).size ≤ 140737488355328 := by
 rw [Lib.byteCells_length, mk_size]; omega
/-- what the loop of Fold holds -/
def FoldAt (w w1 : World) (l : List UInt8) (k : Nat) (wr : World) : Prop := ∃ acc : List UInt8, acc ++ rawL (l.drop k) = rawL l ∧
 Lib.IsBuilder 71 5 (w1.heap.size + 1) (w1.heap.size + 1) (Lib.byteCells acc) wr ∧ wr.heap[w1.heap.size]? = some (.cells tblV 213 (0, 0)) ∧ Below w.heap.size w wr ∧ w1.heap.size + 1 ≤ wr.heap.size
theorem FoldAt.len {w w1 : World} {l : List UInt8} {k : Nat} {wr : World} {acc : List UInt8} (h : acc ++ rawL (l.drop k) = rawL l) : acc.length ≤ l.length := by
 have := congrArg List.length h
 have h2 := (raw_ok l).2
 simp at this; omega
theorem FoldAt.step {w w1 wr w2 : World} {l acc x : List UInt8} {k k' : Nat} (hacc : acc ++ rawL (l.drop k) = rawL l) (hx : rawL (l.drop k) = x ++ rawL (l.drop k')) (ht : wr.heap[w1.heap.size]? = some (.cells tblV 213 (0, 0))) (hbw : Below w.heap.size w wr) (hz : w1.heap.size + 1 ≤ wr.heap.size) (hz1 : w.heap.size ≤ w1.heap.size)
  (hB : Lib.BuilderAt 71 5 (w1.heap.size + 1) (w1.heap.size + 1) (.pointer (some ⟨w1.heap.size + 1, 0, none⟩)) (Lib.byteCells acc ++ Lib.strCells ⟨x.toArray⟩) w2) (hb2 : Below (w1.heap.size + 1) wr w2) : FoldAt w w1 l k' w2 := by
 refine ⟨acc ++ x, by rw [List.append_assoc, ← hx]; exact hacc, .inr ?_, (hb2.block _ (by omega)).trans ht, hbw.trans (hb2.mono (by omega)), Nat.le_trans hz hb2.size⟩
 rw [Lib.byteCells_append]
 exact hB
set_option maxHeartbeats 4000000 in
theorem fold_yes (s : ByteArray) (w : World) (hs : s.size ≤ 100000) (hv : foldV s.data.toList = true) :
  Calls Tryz.prog 208 #[.string s] w fun e w' => e = .returned (.tuple #[strV (foldL s.data.toList), .int .i64 0]) ∧ Below w.heap.size w w' := by
 have hl : s.data.toList.length = s.size := by simp
 have HL := Lib.hid hl; clear hl
 have HV := Lib.hid hv; clear hv
 go_enter Tryz.func208, Tryz.ntmps208
 go_wp2_with fail
 refine (tvalid_any s _ (by omega)).mono ?_; rw [HV.out]; rintro e w' ⟨rfl, rfl⟩
 go_wp2_with fail
 refine (repl_any _).mono ?_; rintro e w1 ⟨rfl, hb1⟩
 have HB1 := Lib.hid hb1; clear hb1
 go_wp2_with (refine wpList_store_row rfl 213 (.tmp 4) (.tmp 10) rfl w1.heap.size tblV rfl rfl 213 _ (heap_alloc_new w1 _) (by kernel_rfl) (by kernel_rfl) (by kernel_rfl) ?_; rw [World.setRow_alloc_new])
 have hbz : w.heap.size ≤ w1.heap.size := HB1.out.size
 go_loopw [6] (fun i wr => ∃ k : Nat, k ≤ s.size ∧ i = .int .i64 k ∧ FoldAt w w1 s.data.toList k wr) (fun i _ => s.size - (intOf i).toNat)
 case atStart =>
  refine ⟨0, by omega, rfl, [], rfl, .inl ⟨Nat.le_refl _, _, by rw [show w1.heap.size + 1 = (w1.alloc (.cells tblV 213)).heap.size by simp]; exact heap_alloc_new _ _, ⟨rfl, .inl ⟨rfl, rfl⟩⟩, by simp [Value.ownBlock]⟩, blk_old (blk_new rfl), (HB1.out.alloc hbz _).alloc (by simp; omega) _, by simp⟩
 case round =>
  obtain ⟨k, hk, rfl, HF⟩ := hrel
  have HF' := Lib.hid HF; clear HF
  by_cases hlt : k < s.size
  ·have hq : decide ((k : Int) < s.size) = true := by simp; omega
   go_wp2_with fail
   refine (pair_any s k _ hlt (by omega)).mono ?_; rintro e w' ⟨rfl, rfl⟩
   cases hp : pairAt (s.data.toList.drop k)
   ·have HR := Lib.hid (raw_one s k hlt hp)
    clear hp
    obtain ⟨acc, hacc, hB, ht, hbw, hz⟩ := HF'.out
    have hal := FoldAt.len (w := w) (w1 := w1) (wr := wr) hacc
    have HA := Lib.hid hacc; have HT := Lib.hid ht; have HW := Lib.hid hbw; have HB := Lib.hid hB
    clear hacc ht hbw hB HF'
    go_wp2_with fail
    refine (plain_any s[k] _).mono ?_; rintro e w' ⟨rfl, rfl⟩
    have hpl := (plainB_ok s[k]).2
    go_wp2_with fail
    refine (wstr_any (w1.heap.size + 1) (w1.heap.size + 1) (Lib.byteCells acc) ⟨(plainB s[k]).toArray⟩ _ HB.out (put_len hal (by rw [HL.out]; omega) (by omega)) hz).mono ?_
    rintro e w2 ⟨rfl, hB2, hb2⟩
    have HF2 := Lib.hid (FoldAt.step HA.out HR.out HT.out HW.out hz hbz hB2 hb2)
    clear hB2 hb2
    go_wp2_with fail
    go_roundw
    case rel => exact ⟨k + 1, by omega, by go_num, HF2.out⟩
    case measure => simp [intOf]; omega
   ·have h2 := pairAt_lt s k hlt hp
    have HR := Lib.hid (raw_two s k h2 hp)
    obtain ⟨n, hn, hn64⟩ := pairAt_snd s k h2 hp
    clear hp
    obtain ⟨acc, hacc, hB, ht, hbw, hz⟩ := HF'.out
    have hal := FoldAt.len (w := w) (w1 := w1) (wr := wr) hacc
    have hcell := tbl_cell ht s[k + 1] n hn hn64
    have hn' : (s[k + 1].toNat : Int) = 128 + (n : Int) := by omega
    have HA := Lib.hid hacc; have HT := Lib.hid ht; have HW := Lib.hid hbw; have HB := Lib.hid hB
    clear hacc ht hbw hB HF' hn
    go_wp2_with fail
    have hpl := (replB_ok s[k + 1]).2
    refine (wstr_any (w1.heap.size + 1) (w1.heap.size + 1) (Lib.byteCells acc) ⟨(replB s[k + 1]).toArray⟩ _ HB.out (put_len hal (by rw [HL.out]; omega) hpl) hz).mono ?_
    rintro e w2 ⟨rfl, hB2, hb2⟩
    have HF2 := Lib.hid (FoldAt.step HA.out HR.out HT.out HW.out hz hbz hB2 hb2)
    clear hB2 hb2
    go_wp2_with fail
    go_roundw
    case rel => exact ⟨k + 2, by omega, by go_num, HF2.out⟩
    case measure => simp [intOf]; omega
  ·have hq : decide ((k : Int) < s.size) = false := by simp; omega
   obtain ⟨acc, hacc, hB, ht, hbw, hz⟩ := HF'.out
   rw [List.drop_eq_nil_of_le (by rw [HL.out]; omega)] at hacc
   have hacc' : acc = rawL s.data.toList := by simpa [rawL] using hacc
   subst hacc'
   have HW := Lib.hid hbw; have HB := Lib.hid hB
   clear hacc ht hbw hB HF'
   go_wp2_with fail
   refine (bstr_any (w1.heap.size + 1) (w1.heap.size + 1) _ _ HB.out hz).mono ?_
   rintro e w2 ⟨rfl, hb2⟩
   have HW2 := Lib.hid (HW.out.trans (hb2.mono (by omega))); clear hb2
   go_wp2_with fail
   have hrl := (raw_ok s.data.toList).2
   refine (tokens_any (rawL s.data.toList) _ (raw_ascii _) (by rw [HL.out] at hrl; omega)).mono ?_
   rintro e w3 ⟨A, rfl, hA, ho, hb3⟩
   have hV := Lib.hid (Vec.owns (S := Any1) (k := 1) (enc := encS) (fun _ => rfl) ho (fun _ _ _ => trivial))
   have HW3 := Lib.hid (HW2.out.trans (hb3.mono HW2.out.size)); clear hb3 ho
   go_wp2_with fail
   refine (join_any Any1 _ (toks (rawL s.data.toList)) _ hV.out (by have := (toksA_len (rawL s.data.toList) []).2.1; unfold toks; rw [HL.out] at hrl; omega) (by have := fold_len s.data.toList; unfold foldL at this; rw [HL.out] at this; omega)).mono ?_
   rintro e w4 ⟨rfl, hb4⟩
   have HW4 := Lib.hid (HW3.out.trans (hb4.mono HW3.out.size)); clear hb4
   go_wp2_with fail
   go_ret2
   exact ⟨rfl, HW4.out⟩
set_option maxHeartbeats 400000 in
theorem fold_no (s : ByteArray) (w : World) (hs : s.size ≤ 9223372036854775000) (hv : foldV s.data.toList = false) :
  Calls Tryz.prog 208 #[.string s] w fun e w' => e = .returned (.tuple #[strV [], .int .i64 3]) ∧ Below w.heap.size w w' := by
 have HV := Lib.hid hv; clear hv
 go_enter Tryz.func208, Tryz.ntmps208
 go_wp2_with fail
 refine (tvalid_any s _ (by omega)).mono ?_; rw [HV.out]; rintro e w' ⟨rfl, rfl⟩
 go_wp2_with fail
 go_ret2
 exact ⟨rfl, Below.refl _ _⟩
end
section
set_option maxRecDepth 100000
open Go.RowKit
@[local go_sem] theorem toList_mk (l : List UInt8) : (⟨l.toArray⟩ : ByteArray).toList = l := by
 rw [Lib.toList_data]
attribute [local go_sem] mk_size
def tokenB (l : List UInt8) : Bool := bif l.isEmpty then false else bif decide (l.length ≤ 64) then lettersL l == l else false
set_option maxHeartbeats 400000 in
theorem token_any (l : List UInt8) (w : World) :
  Calls Tryz.prog 147 #[strV l] w fun e w' => e = .returned (.bool (tokenB l)) ∧ Below w.heap.size w w' := by
 unfold tokenB
 by_cases h0 : l = []
 ·subst h0
  go_enter Tryz.func147, Tryz.ntmps147
  go_wp2
  go_ret
  exact ⟨rfl, Below.refl _ _⟩
 ·have h1 : l.isEmpty = false := by simpa using h0
  have h2 : (l == []) = false := by simpa using h0
  rw [h1]
  by_cases h3 : l.length ≤ 64
  ·have h4 : decide (l.length ≤ 64) = true := by simpa using h3
   have h5 : decide ((l.length : Int) ≤ 64) = true := by simp; omega
   rw [h4]
   clear h0 h4
   go_enter Tryz.func147, Tryz.ntmps147
   go_wp2_with fail
   refine (letters_any ⟨l.toArray⟩ _ (by rw [mk_size]; omega)).mono ?_
   rintro e w1 ⟨rfl, hb⟩
   go_wp2_with fail
   go_ret
   exact ⟨rfl, hb⟩
  ·have h4 : decide (l.length ≤ 64) = false := by simpa using h3
   have h5 : decide ((l.length : Int) ≤ 64) = false := by simp; omega
   rw [h4]
   clear h0 h4
   go_enter Tryz.func147, Tryz.ntmps147
   go_wp2_with fail
   go_ret
   exact ⟨rfl, Below.refl _ _⟩
end
section
set_option maxRecDepth 100000
open Go.RowKit
attribute [local go_sem] toList_mk mk_size
abbrev P2 := List UInt8 × List UInt8
/-- the two cells of a rule -/
def encP (x : P2) : List Value := [strV x.1, strV x.2]
theorem pred_find (s : List UInt8) (B : Nat) (w : World) (hB : B < w.heap.size) (hcell : w.cell? ⟨B, 0, none⟩ = some (strV s)) :
  PredBelow Tryz.prog 191 #[.pointer (some ⟨B, 0, none⟩)] (fun x => .agg (encP x).toArray) (fun x => x.1 == s) w := fun W x hb => by
 have hc : W.cell? ⟨B, 0, none⟩ = some (strV s) := (hb.cell (p := ⟨B, 0, none⟩) hB).trans hcell
 have hBW : B < W.heap.size := Nat.lt_of_lt_of_le hB hb.size
 have hne : B ≠ W.heap.size := by omega
 have HBb := Lib.hid hb; clear hb hcell
 show Calls Tryz.prog 191 #[.agg #[strV x.1, strV x.2], .pointer (some ⟨B, 0, none⟩)] W _
 go_enter Tryz.func191, Tryz.ntmps191
 go_wp2
 go_ret
 exact ⟨rfl, HBb.out.alloc HBb.out.size _⟩
set_option maxHeartbeats 400000 in
theorem idxP_nil (a : Option Addr) (c : Nat) (f : Value) (w : World) :
  Calls Tryz.prog 149 #[.slice a 0 c, f] w fun e w' => e = .returned (.int .i64 (-1)) ∧ w = w' := by
 go_enter Tryz.func149, Tryz.ntmps149
 go_wp2
 refine wp_loop_rounds 1 ?_; rw [rounds_succ]
 go_wp2
 go_ret
 exact ⟨rfl, rfl⟩
def findI (L : List P2) (s : List UInt8) : Int := Lib.idxBy (fun _ (y : P2) => y.1 == s) L default
set_option maxHeartbeats 1000000 in
theorem find_any (S : Nat → Prop) (v : Value) (L : List P2) (s : List UInt8) (w : World) (h : Vec w S 2 encP v L) (hn : L.length ≤ 1000000) :
    Calls Tryz.prog 148 #[v, strV s] w fun e w' => e = .returned (.int .i64 (findI L s)) ∧ Below w.heap.size w w' := by
  obtain ⟨a, cap, rfl, hcap, h0⟩ := h
  by_cases hz : L = []
  · subst hz
    clear h0
    go_enter Tryz.func148, Tryz.ntmps148
    go_wp2_with fail
    refine (idxP_nil a cap _ _).mono ?_
    rintro e w1 ⟨rfl, rfl⟩
    go_wp2_with fail
    go_ret
    exact ⟨rfl, (Below.refl _ _).alloc (Nat.le_refl _) _⟩
  · obtain ⟨b, off, rfl, _, hb, hc⟩ := h0 (List.length_pos_iff.2 hz)
    have eg : ∀ args w, (callFunc 191 args).run Tryz.prog w = .ok (.enter 191 args) w := enters_of Tryz.func191 (by kernel_rfl) rfl
    have hcon := AnyQ.slices_IndexFunc Tryz.laysIP 2 Tryz.isAgg103 Tryz.sizeOf103 encP (fun _ => rfl) (fun x => x.1 == s) 191 #[.pointer (some ⟨w.heap.size, 0, none⟩)] eg b off L.length cap L (w.alloc (.cells #[strV s] 9))
      (pred_find s w.heap.size _ (by simp) (by simp)) (Nat.le_refl _) (by omega) (by simp; omega) (fun j hj i u hi => by
        refine Lib.cell?_alloc_some _ ?_
        have e : L[j]? = some L[j]! := by rw [List.getElem?_eq_getElem hj, getElem!_pos L j hj]
        exact hc j _ e i u hi)
    rw [List.take_of_length_le (Nat.le_refl _)] at hcon
    have HC := Lib.hid hcon
    clear hcon hc h0
    go_enter Tryz.func148, Tryz.ntmps148
    go_wp2_with fail
    refine HC.out.mono ?_
    rintro e w1 ⟨rfl, hb1⟩
    go_wp2_with fail
    go_ret
    exact ⟨rfl, ((Below.refl _ w).alloc (Nat.le_refl _) _).trans (hb1.mono (by simp))⟩
end
section
set_option maxRecDepth 100000
open Go.RowKit
attribute [local go_sem] toList_mk mk_size
def ltB (a b : List UInt8) : Bool := Op.bytesLess a b
/-- entry j is right, and greater than the one before -/
def titleAt (L : List (List UInt8)) (j : Nat) : Bool := tokenB (L.getD j []) && (decide (j = 0) || ltB (L.getD (j - 1) []) (L.getD j []))
def titlesB (L : List (List UInt8)) : Bool := (List.range L.length).all (titleAt L)
def pairAtB (L : List P2) (j : Nat) : Bool := tokenB (L.getD j default).1 && tokenB (L.getD j default).2 && (decide (j = 0) || ltB (L.getD (j - 1) default).1 (L.getD j default).1) && decide (findI L (L.getD j default).2 < 0)
def pairsB (L : List P2) : Bool := (List.range L.length).all (pairAtB L)
theorem all_false {n : Nat} {p : Nat → Bool} {k : Nat} (hk : k < n) (h : p k = false) : (List.range n).all p = false := by
 rw [List.all_eq_false]; exact ⟨k, List.mem_range.2 hk, by simp [h]⟩
theorem all_true {n : Nat} {p : Nat → Bool} (h : ∀ j, j < n → p j = true) : (List.range n).all p = true := by
 rw [List.all_eq_true]; intro j hj; exact h j (List.mem_range.1 hj)
theorem vec_cell1 {w : World} {S : Nat → Prop} {a : Option Addr} {n cap : Nat} {L : List (List UInt8)} (h : Vec w S 1 encS (.slice a n cap) L) (h0 : 0 < L.length) : ∃ b off, a = some ⟨b, off, none⟩ ∧ S b ∧ b < w.heap.size ∧ ∀ j, j < L.length → w.cell? ⟨b, off + j, none⟩ = some (strV (L.getD j [])) := by
 obtain ⟨a', cap', h1, h2, h3⟩ := h
 cases h1
 obtain ⟨b, off, h4, hS, h5, h6⟩ := h3 h0
 refine ⟨b, off, h4, hS, h5, fun j hj => ?_⟩
 have := h6 j L[j] (List.getElem?_eq_getElem hj) 0 _ rfl
 rw [List.getD, List.getElem?_eq_getElem hj]
 simpa using this
set_option maxHeartbeats 1000000 in
theorem titles_any (S : Nat → Prop) (v : Value) (L : List (List UInt8)) (w : World) (h : Vec w S 1 encS v L) (hn : L.length ≤ 1000000) :
  Calls Tryz.prog 108 #[v] w fun e w' => e = .returned (.bool (titlesB L)) ∧ Below w.heap.size w w' := by
 obtain ⟨a, cap, rfl⟩ := h.slice
 by_cases hz : L = []
 ·subst hz
  clear h
  go_enter Tryz.func108, Tryz.ntmps108
  go_wp2
  refine wp_loop_rounds 1 ?_; rw [rounds_succ]
  go_wp2
  go_ret
  exact ⟨rfl, Below.refl _ _⟩
 ·obtain ⟨b, off, rfl, _, hb, hc⟩ := vec_cell1 h (List.length_pos_iff.2 hz)
  have HC := Lib.hid hc; clear hc h hz
  go_enter Tryz.func108, Tryz.ntmps108
  go_wp2_with fail
  go_loopw [7] (fun i wr => ∃ k : Nat, k ≤ L.length ∧ i = .int .i64 k ∧ Below w.heap.size w wr ∧ ∀ j, j < k → titleAt L j = true) (fun i _ => L.length - (intOf i).toNat)
  case atStart => exact ⟨0, by omega, rfl, Below.refl _ _, fun j hj => by omega⟩
  case round =>
   obtain ⟨k, hk, rfl, hbw, ha⟩ := hrel
   have HA := Lib.hid ha; clear ha
   by_cases hlt : k < L.length
   ·have hq : decide ((k : Int) < L.length) = true := by simp; omega
    have hi : (k : Int) < (L.length : Int) := by omega
    have c1 : wr.cell? ⟨b, off + k, none⟩ = some (strV (L.getD k [])) := (hbw.cell (p := ⟨b, off + k, none⟩) hb).trans (HC.out k hlt)
    have HW := Lib.hid hbw; clear hbw
    obtain ⟨x, hx⟩ : ∃ x, L.getD k [] = x := ⟨_, rfl⟩
    rw [hx] at c1
    have HX := Lib.hid hx; clear hx
    go_wp2_with fail
    refine (token_any x _).mono ?_
    rintro e w2 ⟨rfl, hb2⟩
    have HW2 := Lib.hid (HW.out.trans (hb2.mono HW.out.size)); clear hb2 HW c1
    cases ht : tokenB x
    ·have HT := Lib.hid (show titleAt L k = false by simp only [titleAt]; rw [HX.out, ht]; rfl); clear ht
     go_wp2_with fail
     go_ret
     exact ⟨ret_bool (by rw [titlesB, all_false hlt HT.out]), HW2.out⟩
    ·by_cases hk0 : k = 0
     ·subst hk0
      have HT := Lib.hid (show titleAt L 0 = true by simp only [titleAt]; rw [HX.out, ht]; rfl)
      clear ht
      go_wp2_with fail
      go_roundw
      case rel => exact ⟨1, by omega, by go_num, HW2.out, fun j hj => by (obtain rfl : j = 0 := by omega); exact HT.out⟩
      case measure => simp [intOf]; omega
     ·obtain ⟨m, rfl⟩ : ∃ m, k = m + 1 := ⟨k - 1, by omega⟩
      have c2 : w2.cell? ⟨b, off + m, none⟩ = some (strV (L.getD m [])) := (HW2.out.cell (p := ⟨b, off + m, none⟩) hb).trans (HC.out m (by omega))
      obtain ⟨y, hy⟩ : ∃ y, L.getD m [] = y := ⟨_, rfl⟩
      rw [hy] at c2
      have HT := Lib.hid (show titleAt L (m + 1) = Op.bytesLess y x by simp only [titleAt, Nat.add_sub_cancel]; rw [HX.out, hy, ht]; simp [ltB])
      clear ht hy hk0
      cases hl : Op.bytesLess y x
      ·rw [hl] at HT
       go_wp2_with fail
       go_ret
       exact ⟨ret_bool (by rw [titlesB, all_false hlt HT.out]), HW2.out⟩
      ·rw [hl] at HT
       go_wp2_with fail
       go_roundw
       case rel => exact ⟨m + 2, by omega, by go_num, HW2.out, fun j hj => by
        by_cases e : j = m + 1
        ·subst e; exact HT.out
        ·exact HA.out j (by omega)⟩
       case measure => simp [intOf]; omega
   ·have hq : decide ((k : Int) < L.length) = false := by simp; omega
    have HW := Lib.hid hbw; clear hbw
    go_wp2_with fail
    go_ret
    exact ⟨ret_bool (by rw [titlesB, all_true fun j hj => HA.out j (by omega)]), HW.out⟩
theorem vec_cell2 {α : Type} [Inhabited α] {enc : α → List Value} {w : World} {S : Nat → Prop} {a : Option Addr} {n cap : Nat} {L : List α} (h : Vec w S 2 enc (.slice a n cap) L) (h0 : 0 < L.length) : ∃ b off, a = some ⟨b, off, none⟩ ∧ S b ∧ b < w.heap.size ∧ ∀ j, j < L.length → ∀ i u, (enc (L.getD j default))[i]? = some u → w.cell? ⟨b, off + j * 2 + i, none⟩ = some u := by
 obtain ⟨a', cap', h1, h2, h3⟩ := h
 cases h1
 obtain ⟨b, off, h4, hS, h5, h6⟩ := h3 h0
 refine ⟨b, off, h4, hS, h5, fun j hj i u hu => ?_⟩
 rw [List.getD, List.getElem?_eq_getElem hj] at hu
 exact h6 j L[j] (List.getElem?_eq_getElem hj) i u hu
/-- a contract that makes memory alone, in whatever world behind w -/
theorem in_regrown {P : Program} {f : FuncId} {args : Array Value} {v : Value} (w : World) (h : ∀ W, Below w.heap.size w W → Calls P f args W fun e w' => e = .returned v ∧ Below W.heap.size W w') :
  ∀ d os, Calls P f args (Sort.grow (redrawn w d) os) fun e w'' => e = .returned v ∧ ∃ p : Regrown, w'' = Sort.grow (redrawn w p.d) p.os := fun d os => Calls.regrown_of (h _ (below_regrown w d os))
theorem find_in (v : Value) (L : List P2) (s : List UInt8) (w : World) (h : Vec w Any1 2 encP v L) (hn : L.length ≤ 1000000) (W : World) (hb : Below w.heap.size w W) : Calls Tryz.prog 148 #[v, strV s] W fun e w' => e = .returned (.int .i64 (findI L s)) ∧ Below W.heap.size W w' :=
 find_any Any1 v L s W (h.below hb) hn
set_option maxHeartbeats 4000000 in
theorem pairs_any (S : Nat → Prop) (v : Value) (L : List P2) (w : World) (h : Vec w S 2 encP v L) (hn : L.length ≤ 1000000) :
  Calls Tryz.prog 109 #[v] w fun e w' => e = .returned (.bool (pairsB L)) ∧ Below w.heap.size w w' := by
 obtain ⟨a, cap, rfl⟩ := h.slice
 by_cases hz : L = []
 ·subst hz
  clear h
  go_enter Tryz.func109, Tryz.ntmps109
  go_wp2
  refine wp_loop_rounds 1 ?_; rw [rounds_succ]
  go_wp2
  go_ret
  exact ⟨rfl, Below.refl _ _⟩
 ·have HV := Lib.hid h.any
  obtain ⟨b, off, rfl, _, hb, hc⟩ := vec_cell2 h (List.length_pos_iff.2 hz)
  have HC := Lib.hid hc; clear hc h hz
  go_enter Tryz.func109, Tryz.ntmps109
  go_wp2_with fail
  go_loopw [7] (fun i wr => ∃ k : Nat, k ≤ L.length ∧ i = .int .i64 k ∧ Below w.heap.size w wr ∧ ∀ j, j < k → pairAtB L j = true) (fun i _ => L.length - (intOf i).toNat)
  case atStart => exact ⟨0, by omega, rfl, Below.refl _ _, fun j hj => by omega⟩
  case round =>
   obtain ⟨k, hk, rfl, hbw, ha⟩ := hrel
   have HA := Lib.hid ha; clear ha
   by_cases hlt : k < L.length
   ·have hq : decide ((k : Int) < L.length) = true := by simp; omega
    have hi : (k : Int) < (L.length : Int) := by omega
    obtain ⟨x, hx⟩ : ∃ x, L.getD k default = x := ⟨_, rfl⟩
    have hc := HC.out k hlt
    rw [hx] at hc
    have c0 : wr.cell? ⟨b, off + k * 2, none⟩ = some (strV x.1) := (hbw.cell (p := ⟨b, off + k * 2, none⟩) hb).trans (hc 0 _ rfl)
    have c1 : wr.cell? ⟨b, off + k * 2 + 1, none⟩ = some (strV x.2) := (hbw.cell (p := ⟨b, off + k * 2 + 1, none⟩) hb).trans (hc 1 _ rfl)
    have HX := Lib.hid hx; clear hx hc
    have HW := Lib.hid hbw; clear hbw
    go_wp2_with fail
    refine wp_world (fun wS hS => ?_)
    obtain ⟨xf, xt⟩ := x
    have bS : Below wr.heap.size wr wS := by rw [hS]; exact (Below.refl _ _).alloc (Nat.le_refl _) _
    have k0 := cell_regrown (show wS.cell? ⟨wr.heap.size, 0, none⟩ = some (strV xf) by rw [hS]; simp)
    have k1 := cell_regrown (show wS.cell? ⟨wr.heap.size, 1, none⟩ = some (strV xt) by rw [hS]; simp)
    have HWS := Lib.hid (HW.out.trans (bS.mono HW.out.size))
    clear bS hS c0 c1 HW
    have cT1 := in_regrown wS (fun W _ => token_any xf W)
    have cT2 := in_regrown wS (fun W _ => token_any xt W)
    have cF := in_regrown wS (find_in _ L xt wS (HV.out.below HWS.out) hn)
    have hpa : pairAtB L k = (tokenB xf && tokenB xt && (decide (k = 0) || ltB (L.getD (k - 1) default).1 xf) && decide (findI L xt < 0)) := by simp only [pairAtB]; rw [HX.out]
    generalize findI L xt = n at *
    cases ht1 : tokenB xf
    ·rw [ht1] at cT1 hpa
     have HF := Lib.hid (show pairAtB L k = false by rw [hpa]; rfl)
     clear ht1 hpa
     go_wp2_with fail
     refine wp_region_quiet_below (by kernel_rfl) (by kernel_rfl) ?_
     repeat (go_big_quiet_step (first | with_reducible exact cT1 _ _ | with_reducible exact cT2 _ _ | with_reducible exact cF _ _))
     refine wpQuiet_nil ?_
     intro _ hw'
     obtain ⟨⟨dq, osq⟩, hw''⟩ := hw'
     subst hw''
     have HW3 := Lib.hid (HWS.out.trans ((below_regrown wS dq osq).mono HWS.out.size))
     go_wp2_with fail
     go_ret
     exact ⟨ret_bool (by rw [pairsB, all_false hlt HF.out]), HW3.out⟩
    ·rw [ht1] at cT1 hpa
     clear ht1
     cases ht2 : tokenB xt
     ·rw [ht2] at cT2 hpa
      have HF := Lib.hid (show pairAtB L k = false by rw [hpa]; rfl)
      clear ht2 hpa
      go_wp2_with fail
      refine wp_region_quiet_below (by kernel_rfl) (by kernel_rfl) ?_
      repeat (go_big_quiet_step (first | with_reducible exact cT1 _ _ | with_reducible exact cT2 _ _ | with_reducible exact cF _ _))
      refine wpQuiet_nil ?_
      intro _ hw'
      obtain ⟨⟨dq, osq⟩, hw''⟩ := hw'
      subst hw''
      have HW3 := Lib.hid (HWS.out.trans ((below_regrown wS dq osq).mono HWS.out.size))
      go_wp2_with fail
      go_ret
      exact ⟨ret_bool (by rw [pairsB, all_false hlt HF.out]), HW3.out⟩
     ·rw [ht2] at cT2 hpa
      clear ht2
      by_cases hk0 : k = 0
      ·subst hk0
       by_cases hneg : n < 0
       ·have HF := Lib.hid (show pairAtB L 0 = true by rw [hpa]; simp [hneg])
        clear hpa
        go_wp2_with fail
        refine wp_region_quiet_below (by kernel_rfl) (by kernel_rfl) ?_
        repeat (go_big_quiet_step (first | with_reducible exact cT1 _ _ | with_reducible exact cT2 _ _ | with_reducible exact cF _ _))
        refine wpQuiet_nil ?_
        intro _ hw'
        obtain ⟨⟨dq, osq⟩, hw''⟩ := hw'
        subst hw''
        have HW3 := Lib.hid (HWS.out.trans ((below_regrown wS dq osq).mono HWS.out.size))
        go_wp2_with fail
        go_roundw
        case rel => exact ⟨1, by omega, by go_num, HW3.out, fun j hj => by
         by_cases e : j = 0
         ·subst e; exact HF.out
         ·exact HA.out j (by omega)⟩
        case measure => simp [intOf]; omega
       ·have HF := Lib.hid (show pairAtB L 0 = false by rw [hpa]; simp [hneg])
        have hnn : 0 ≤ n := by omega
        clear hpa
        go_wp2_with fail
        refine wp_region_quiet_below (by kernel_rfl) (by kernel_rfl) ?_
        repeat (go_big_quiet_step (first | with_reducible exact cT1 _ _ | with_reducible exact cT2 _ _ | with_reducible exact cF _ _))
        refine wpQuiet_nil ?_
        intro _ hw'
        obtain ⟨⟨dq, osq⟩, hw''⟩ := hw'
        subst hw''
        have HW3 := Lib.hid (HWS.out.trans ((below_regrown wS dq osq).mono HWS.out.size))
        go_wp2_with fail
        go_ret
        exact ⟨ret_bool (by rw [pairsB, all_false hlt HF.out]), HW3.out⟩
      ·obtain ⟨m, rfl⟩ : ∃ m, k = m + 1 := ⟨k - 1, by omega⟩
       obtain ⟨y, hy⟩ : ∃ y, L.getD m default = y := ⟨_, rfl⟩
       have hcy := HC.out m (by omega)
       rw [hy] at hcy
       have k2 := cell_regrown (show wS.cell? ⟨b, off + m * 2, none⟩ = some (strV y.1) from (HWS.out.cell (p := ⟨b, off + m * 2, none⟩) hb).trans (hcy 0 _ rfl))
       rw [Nat.add_sub_cancel, hy] at hpa
       clear hcy hy hk0
       obtain ⟨yf, yt⟩ := y
       dsimp only at k2 hpa
       unfold ltB at hpa
       cases hl : Op.bytesLess yf xf
       ·rw [hl] at hpa
        have HF := Lib.hid (show pairAtB L (m + 1) = false by rw [hpa]; simp)
        clear hpa
        go_wp2_with fail
        refine wp_region_quiet_below (by kernel_rfl) (by kernel_rfl) ?_
        repeat (go_big_quiet_step (first | with_reducible exact cT1 _ _ | with_reducible exact cT2 _ _ | with_reducible exact cF _ _))
        refine wpQuiet_nil ?_
        intro _ hw'
        obtain ⟨⟨dq, osq⟩, hw''⟩ := hw'
        subst hw''
        have HW3 := Lib.hid (HWS.out.trans ((below_regrown wS dq osq).mono HWS.out.size))
        go_wp2_with fail
        go_ret
        exact ⟨ret_bool (by rw [pairsB, all_false hlt HF.out]), HW3.out⟩
       ·rw [hl] at hpa
        by_cases hneg : n < 0
        ·have HF := Lib.hid (show pairAtB L (m + 1) = true by rw [hpa]; simp [hneg])
         clear hpa
         go_wp2_with fail
         refine wp_region_quiet_below (by kernel_rfl) (by kernel_rfl) ?_
         repeat (go_big_quiet_step (first | with_reducible exact cT1 _ _ | with_reducible exact cT2 _ _ | with_reducible exact cF _ _))
         refine wpQuiet_nil ?_
         intro _ hw'
         obtain ⟨⟨dq, osq⟩, hw''⟩ := hw'
         subst hw''
         have HW3 := Lib.hid (HWS.out.trans ((below_regrown wS dq osq).mono HWS.out.size))
         go_wp2_with fail
         go_roundw
         case rel => exact ⟨m + 2, by omega, by go_num, HW3.out, fun j hj => by
          by_cases e : j = m + 1
          ·subst e; exact HF.out
          ·exact HA.out j (by omega)⟩
         case measure => simp [intOf]; omega
        ·have HF := Lib.hid (show pairAtB L (m + 1) = false by rw [hpa]; simp [hneg])
         have hnn : 0 ≤ n := by omega
         clear hpa
         go_wp2_with fail
         refine wp_region_quiet_below (by kernel_rfl) (by kernel_rfl) ?_
         repeat (go_big_quiet_step (first | with_reducible exact cT1 _ _ | with_reducible exact cT2 _ _ | with_reducible exact cF _ _))
         refine wpQuiet_nil ?_
         intro _ hw'
         obtain ⟨⟨dq, osq⟩, hw''⟩ := hw'
         subst hw''
         have HW3 := Lib.hid (HWS.out.trans ((below_regrown wS dq osq).mono HWS.out.size))
         go_wp2_with fail
         go_ret
         exact ⟨ret_bool (by rw [pairsB, all_false hlt HF.out]), HW3.out⟩
   ·have hq : decide ((k : Int) < L.length) = false := by simp; omega
    have HW := Lib.hid hbw; clear hbw
    go_wp2_with fail
    go_ret
    exact ⟨ret_bool (by rw [pairsB, all_true fun j hj => HA.out j (by omega)]), HW.out⟩
end
section
set_option maxRecDepth 100000
open Go.RowKit
attribute [local go_sem] toList_mk mk_size
structure RulesL where
 titles : List (List UInt8)
 nicks : List P2
 streets : List P2
def RulesAt (w : World) (S : Nat → Prop) (vt vn vs : Value) (r : RulesL) : Prop := Vec w S 1 encS vt r.titles ∧ Vec w S 2 encP vn r.nicks ∧ Vec w S 2 encP vs r.streets
theorem RulesAt.below {w w' : World} {S : Nat → Prop} {vt vn vs : Value} {r : RulesL} (h : RulesAt w S vt vn vs r) (hb : Below w.heap.size w w') : RulesAt w' S vt vn vs r := ⟨h.1.below hb, h.2.1.below hb, h.2.2.below hb⟩
theorem RulesAt.any {w : World} {S : Nat → Prop} {vt vn vs : Value} {r : RulesL} (h : RulesAt w S vt vn vs r) : RulesAt w Any1 vt vn vs r := ⟨h.1.any, h.2.1.any, h.2.2.any⟩
def hasB (L : List (List UInt8)) (s : List UInt8) : Bool := L.any fun x => x == s
theorem mkS_inj {a b : List UInt8} (h : mkS a = mkS b) : a = b := by
 have := congrArg (fun s : ByteArray => s.data.toList) h
 simpa [mkS] using this
theorem contains_has (L : List (List UInt8)) (s : List UInt8) : Lib.containsS (L.map mkS) (mkS s) = hasB L s := by
 rw [Bool.eq_iff_iff, Lib.containsS_iff]
 unfold hasB
 rw [List.any_eq_true]
 constructor
 ·intro h
  obtain ⟨x, hx, he⟩ := List.mem_map.1 h
  have : x = s := mkS_inj he
  subst this
  exact ⟨x, hx, by simp⟩
 ·rintro ⟨x, hx, he⟩
  have : x = s := by simpa using he
  subst this
  exact List.mem_map.2 ⟨x, hx, rfl⟩
theorem contains_any (S : Nat → Prop) (v : Value) (L : List (List UInt8)) (s : List UInt8) (w : World) (h : Vec w S 1 encS v L) (hn : L.length ≤ 1000000) :
  Calls Tryz.prog 150 #[v, strV s] w fun e w' => e = .returned (.bool (hasB L s)) ∧ w = w' := by
 obtain ⟨a, cap, rfl⟩ := h.slice
 by_cases hz : L = []
 ·subst hz
  exact (Tryz.slices_Contains_string_empty a cap (mkS s) w).mono fun e w' ⟨he, hw⟩ => ⟨he, hw.symm⟩
 ·obtain ⟨b, off, rfl, _, hb, hc⟩ := vec_cell1 h (List.length_pos_iff.2 hz)
  have := Tryz.slices_Contains_string b off L.length cap (L.map mkS) (mkS s) w (by simp) (by omega) (fun j hj => by
   have hj' : j < L.length := by simpa using hj
   rw [hc j hj', List.getD, List.getD, List.getElem?_map, List.getElem?_eq_getElem hj']; rfl)
  rw [List.take_of_length_le (by simp), contains_has] at this
  exact this.mono fun e w' ⟨he, hw⟩ => ⟨he, hw.symm⟩
set_option maxHeartbeats 400000 in
theorem dropped_any (S : Nat → Prop) (vt vn vs : Value) (L : List (List UInt8)) (s : List UInt8) (w : World) (h : Vec w S 1 encS vt L) (hn : L.length ≤ 1000000) :
  Calls Tryz.prog 112 #[.agg #[vt, vn, vs], strV s] w fun e w' => e = .returned (.bool (hasB L s)) ∧ Below w.heap.size w w' := by
 have HV := Lib.hid h; clear h
 go_enter Tryz.func112, Tryz.ntmps112
 go_wp2_with fail
 refine (contains_any S vt L s _ (HV.out.below ((Below.refl _ _).alloc (Nat.le_refl _) _)) hn).mono ?_
 rintro e w1 ⟨rfl, rfl⟩
 go_wp2_with fail
 go_ret
 exact ⟨rfl, (Below.refl _ _).alloc (Nat.le_refl _) _⟩
theorem pred_check (vt vn vs : Value) (L : List (List UInt8)) (B : Nat) (w : World) (hL : Vec w Any1 1 encS vt L) (hn : L.length ≤ 1000000) (hB : B < w.heap.size) (h0 : w.cell? ⟨B, 0, none⟩ = some vt) (h1 : w.cell? ⟨B, 1, none⟩ = some vn) (h2 : w.cell? ⟨B, 2, none⟩ = some vs) :
  PredBelow Tryz.prog 111 #[.pointer (some ⟨B, 0, none⟩)] (fun x => .agg (encP x).toArray) (fun x => hasB L x.2) w := fun W x hb => by
 have c0 : W.cell? ⟨B, 0, none⟩ = some vt := (hb.cell (p := ⟨B, 0, none⟩) hB).trans h0
 have c1 : W.cell? ⟨B, 1, none⟩ = some vn := (hb.cell (p := ⟨B, 1, none⟩) hB).trans h1
 have c2 : W.cell? ⟨B, 2, none⟩ = some vs := (hb.cell (p := ⟨B, 2, none⟩) hB).trans h2
 have hBW : B < W.heap.size := Nat.lt_of_lt_of_le hB hb.size
 have hne : B ≠ W.heap.size := by omega
 have HV := Lib.hid (hL.below hb)
 have HBb := Lib.hid hb; clear hb h0 h1 h2 hL
 obtain ⟨xf, xt⟩ := x
 show Calls Tryz.prog 111 #[.agg #[strV xf, strV xt], .pointer (some ⟨B, 0, none⟩)] W _
 go_enter Tryz.func111, Tryz.ntmps111
 go_wp2_with fail
 refine (dropped_any Any1 vt vn vs L xt _ (HV.out.below ((Below.refl _ _).alloc (Nat.le_refl _) _)) hn).mono ?_
 rintro e w1 ⟨rfl, hb1⟩
 go_wp2_with fail
 go_ret
 exact ⟨rfl, (HBb.out.alloc HBb.out.size _).trans (hb1.mono (by have := HBb.out.size; simp; omega))⟩
set_option maxHeartbeats 400000 in
theorem contP_nil (a : Option Addr) (c : Nat) (f : Value) (w : World) :
  Calls Tryz.prog 110 #[.slice a 0 c, f] w fun e w' => e = .returned (.bool false) ∧ w = w' := by
 go_enter Tryz.func110, Tryz.ntmps110
 go_wp2_with fail
 refine (idxP_nil a c _ _).mono ?_
 rintro e w1 ⟨rfl, rfl⟩
 go_wp2_with fail
 go_ret
 exact ⟨rfl, rfl⟩
theorem contP_any (p : P2 → Bool) (g : Nat) (lb : Array Value) (eg : ∀ args w, (callFunc g args).run Tryz.prog w = .ok (.enter g args) w) (S : Nat → Prop) (v : Value) (L : List P2) (w : World) (h : Vec w S 2 encP v L) (hn : L.length ≤ 1000000) (hp : PredBelow Tryz.prog g lb (fun x => .agg (encP x).toArray) p w) :
  Calls Tryz.prog 110 #[v, .func (.func g) #[] lb] w fun e w' => e = .returned (.bool (L.any p)) ∧ Below w.heap.size w w' := by
 obtain ⟨a, cap, rfl, hcap, h0⟩ := h
 by_cases hz : L = []
 ·subst hz
  exact (contP_nil a cap _ w).mono fun e w' ⟨he, hw⟩ => ⟨he, by rw [← hw]; exact Below.refl _ _⟩
 ·obtain ⟨b, off, rfl, _, hb, hc⟩ := h0 (List.length_pos_iff.2 hz)
  have hcon := AnyQ.slices_ContainsFunc Tryz.laysCP 2 Tryz.isAgg103 Tryz.sizeOf103 encP (fun _ => rfl) p g lb eg b off L.length cap L w hp (Nat.le_refl _) (by omega) hb (fun j hj i u hi => by
    have e : L[j]? = some L[j]! := by rw [List.getElem?_eq_getElem hj, getElem!_pos L j hj]
    exact hc j _ e i u hi)
  rw [List.take_of_length_le (Nat.le_refl _)] at hcon
  exact hcon
def checkR (r : RulesL) : Int :=
 if 32 < r.titles.length ∨ 32 < r.nicks.length ∨ 32 < r.streets.length then 1
 else if titlesB r.titles = true ∧ pairsB r.nicks = true ∧ pairsB r.streets = true then (if (r.nicks.any fun x => hasB r.titles x.2) = true then 5 else 0) else 5
set_option maxHeartbeats 2000000 in
theorem rcheck_any (S : Nat → Prop) (vt vn vs : Value) (r : RulesL) (w : World) (h : RulesAt w S vt vn vs r) :
  Calls Tryz.prog 75 #[.agg #[vt, vn, vs]] w fun e w' => e = .returned (.int .i64 (checkR r)) ∧ Below w.heap.size w w' := by
 obtain ⟨lt, ln, ls⟩ := r
 obtain ⟨h1, h2, h3⟩ := h
 dsimp only at h1 h2 h3
 obtain ⟨at1, ct, rfl⟩ := h1.slice
 obtain ⟨an, cn, rfl⟩ := h2.slice
 obtain ⟨as', cs, rfl⟩ := h3.slice
 have H1 := Lib.hid h1.any; have H2 := Lib.hid h2.any; have H3 := Lib.hid h3.any
 clear h1 h2 h3
 have hfin : ∀ n : Int, checkR ⟨lt, ln, ls⟩ = n → Ending.returned (.int .i64 n) = .returned (.int .i64 (checkR ⟨lt, ln, ls⟩)) := fun n h => by rw [h]
 have HF := Lib.hid hfin; clear hfin
 by_cases g1 : 32 < lt.length
 ·have e1 : decide ((32 : Int) < lt.length) = true := by simp; omega
  go_enter Tryz.func75, Tryz.ntmps75
  go_wp2_with fail
  go_ret
  exact ⟨HF.out 1 (by unfold checkR; rw [if_pos (.inl g1)]), (Below.refl _ _).alloc (Nat.le_refl _) _⟩
 ·have e1 : decide ((32 : Int) < lt.length) = false := by simp; omega
  by_cases g2 : 32 < ln.length
  ·have e2 : decide ((32 : Int) < ln.length) = true := by simp; omega
   go_enter Tryz.func75, Tryz.ntmps75
   go_wp2_with fail
   go_ret
   exact ⟨HF.out 1 (by unfold checkR; rw [if_pos (.inr (.inl g2))]), (Below.refl _ _).alloc (Nat.le_refl _) _⟩
  ·have e2 : decide ((32 : Int) < ln.length) = false := by simp; omega
   by_cases g3 : 32 < ls.length
   ·have e3 : decide ((32 : Int) < ls.length) = true := by simp; omega
    go_enter Tryz.func75, Tryz.ntmps75
    go_wp2_with fail
    go_ret
    exact ⟨HF.out 1 (by unfold checkR; rw [if_pos (.inr (.inr g3))]), (Below.refl _ _).alloc (Nat.le_refl _) _⟩
   ·have e3 : decide ((32 : Int) < ls.length) = false := by simp; omega
    go_enter Tryz.func75, Tryz.ntmps75
    go_wp2_with fail
    clear e1 e2 e3
    refine (titles_any Any1 _ lt _ (H1.out.below ((Below.refl _ _).alloc (Nat.le_refl _) _)) (by omega)).mono ?_
    rintro e w1 ⟨rfl, hb1⟩
    have X1 : w1.heap[w.heap.size]? = some (.cells #[.slice at1 lt.length ct, .slice an ln.length cn, .slice as' ls.length cs] 31 (0, 0)) := blk_below hb1 (by simp) (blk_new rfl)
    obtain ⟨p0, p1, p2⟩ := cells3 X1
    have z1 := lt_of_blk X1
    have HB1 := Lib.hid (((Below.refl w.heap.size w).alloc (Nat.le_refl _) _).trans (hb1.mono (by simp)))
    have HX1 := Lib.hid X1; clear X1 hb1
    cases ht : titlesB lt
    ·have HT := Lib.hid ht; clear ht
     go_wp2_with fail
     go_ret
     exact ⟨HF.out 5 (by unfold checkR; rw [if_neg (show ¬ (32 < lt.length ∨ 32 < ln.length ∨ 32 < ls.length) by omega), HT.out]; simp), HB1.out⟩
    ·have HT := Lib.hid ht; clear ht
     go_wp2_with fail
     refine (pairs_any Any1 _ ln _ (H2.out.below HB1.out) (by omega)).mono ?_
     rintro e w2 ⟨rfl, hb2⟩
     clear p0 p1 p2
     have X2 := blk_below hb2 z1 HX1.out
     obtain ⟨p0, p1, p2⟩ := cells3 X2
     have z2 := lt_of_blk X2
     have HB2 := Lib.hid (HB1.out.trans (hb2.mono HB1.out.size))
     have HX2 := Lib.hid X2; clear X2 hb2 HX1 HB1
     cases hp : pairsB ln
     ·have HP := Lib.hid hp; clear hp
      go_wp2_with fail
      go_ret
      exact ⟨HF.out 5 (by unfold checkR; rw [if_neg (show ¬ (32 < lt.length ∨ 32 < ln.length ∨ 32 < ls.length) by omega), HP.out]; simp), HB2.out⟩
     ·have HP := Lib.hid hp; clear hp
      go_wp2_with fail
      refine (pairs_any Any1 _ ls _ (H3.out.below HB2.out) (by omega)).mono ?_
      rintro e w3 ⟨rfl, hb3⟩
      clear p0 p1 p2
      have X3 := blk_below hb3 z2 HX2.out
      obtain ⟨p0, p1, p2⟩ := cells3 X3
      have z3 := lt_of_blk X3
      have HB3 := Lib.hid (HB2.out.trans (hb3.mono HB2.out.size))
      have HX3 := Lib.hid X3; clear X3 hb3 HX2 HB2
      cases hq : pairsB ls
      ·have HQ := Lib.hid hq; clear hq
       go_wp2_with fail
       go_ret
       exact ⟨HF.out 5 (by unfold checkR; rw [if_neg (show ¬ (32 < lt.length ∨ 32 < ln.length ∨ 32 < ls.length) by omega), HQ.out]; simp), HB3.out⟩
      ·have HQ := Lib.hid hq; clear hq
       go_wp2_with fail
       have eg : ∀ args w, (callFunc 111 args).run Tryz.prog w = .ok (.enter 111 args) w := enters_of Tryz.func111 (by kernel_rfl) rfl
       refine (contP_any (fun x => hasB lt x.2) 111 #[.pointer (some ⟨w.heap.size, 0, none⟩)] eg Any1 _ ln _ (H2.out.below HB3.out) (by omega) (pred_check _ _ _ lt w.heap.size _ (H1.out.below HB3.out) (by omega) z3 p0 p1 p2)).mono ?_
       rintro e w4 ⟨rfl, hb4⟩
       have HB4 := Lib.hid (HB3.out.trans (hb4.mono HB3.out.size))
       clear hb4 eg p0 p1 p2
       cases hr : ln.any fun x => hasB lt x.2
       ·have HR := Lib.hid hr; clear hr
        go_wp2_with fail
        go_ret
        exact ⟨HF.out 0 (by unfold checkR; rw [if_neg (show ¬ (32 < lt.length ∨ 32 < ln.length ∨ 32 < ls.length) by omega), if_pos ⟨HT.out, HP.out, HQ.out⟩, if_neg (by rw [HR.out]; simp)]), HB4.out⟩
       ·have HR := Lib.hid hr; clear hr
        go_wp2_with fail
        go_ret
        exact ⟨HF.out 5 (by unfold checkR; rw [if_neg (show ¬ (32 < lt.length ∨ 32 < ln.length ∨ 32 < ls.length) by omega), if_pos ⟨HT.out, HP.out, HQ.out⟩, if_pos HR.out]), HB4.out⟩
end
section
set_option maxRecDepth 100000
open Go.RowKit
attribute [local go_sem] toList_mk mk_size
/-- what a token becomes by rules -/
def canonL : List P2 → List UInt8 → List UInt8
 | [], s => s
 | p :: L, s => if p.1 == s then p.2 else canonL L s
theorem canon_from (s : List UInt8) : ∀ (L : List P2) (i : Nat), (Lib.idxByFrom (fun _ (y : P2) => y.1 == s) default L i < 0 ∧ canonL L s = s) ∨ (∃ k, k < L.length ∧ Lib.idxByFrom (fun _ (y : P2) => y.1 == s) default L i = ((i + k : Nat) : Int) ∧ (L.getD k default).2 = canonL L s) := by
 intro L
 induction L with
 | nil => intro i; left; simp [Lib.idxByFrom, canonL]
 | cons p L ih =>
  intro i
  cases h : p.1 == s
  ·simp only [Lib.idxByFrom, canonL, h]
   rcases ih (i + 1) with ⟨h1, h2⟩ | ⟨k, h1, h2, h3⟩
   ·left; exact ⟨by simpa using h1, by simpa using h2⟩
   ·right
    refine ⟨k + 1, by simp; omega, ?_, by simpa using h3⟩
    simp only [Bool.false_eq_true, if_false]
    rw [h2]; congr 1; omega
  ·right
   exact ⟨0, by simp, by simp [Lib.idxByFrom, h], by simp [canonL, h]⟩
theorem canon_find (L : List P2) (s : List UInt8) : (findI L s < 0 ∧ canonL L s = s) ∨ (∃ k, k < L.length ∧ findI L s = (k : Int) ∧ (L.getD k default).2 = canonL L s) := by
 have := canon_from s L 0
 simpa [findI, Lib.idxBy] using this
set_option maxHeartbeats 1000000 in
theorem canonical_any (S : Nat → Prop) (vt vn vs : Value) (L : List P2) (s : List UInt8) (w : World) (h : Vec w S 2 encP vn L) (hn : L.length ≤ 1000000) :
  Calls Tryz.prog 210 #[.agg #[vt, vn, vs], strV s] w fun e w' => e = .returned (strV (canonL L s)) ∧ Below w.heap.size w w' := by
 obtain ⟨an, cn, rfl⟩ := h.slice
 have HV := Lib.hid h; clear h
 have hcf := canon_find L s
 go_enter Tryz.func210, Tryz.ntmps210
 go_wp2_with fail
 refine (find_any S _ L s _ (HV.out.below ((Below.refl _ _).alloc (Nat.le_refl _) _)) hn).mono ?_
 rintro e w1 ⟨rfl, hb1⟩
 have X1 : w1.heap[w.heap.size]? = some (.cells #[vt, .slice an L.length cn, vs] 31 (0, 0)) := blk_below hb1 (by simp) (blk_new rfl)
 obtain ⟨p0, p1, p2⟩ := cells3 X1
 have HB1 := Lib.hid (((Below.refl w.heap.size w).alloc (Nat.le_refl _) _).trans (hb1.mono (by simp)))
 clear X1 hb1
 rcases hcf with ⟨h1, h2⟩ | ⟨k, hk, h1, h2⟩
 ·have H2 := Lib.hid h2; clear h2
  generalize findI L s = n at *
  go_wp2_with fail
  go_ret
  exact ⟨by rw [H2.out]; rfl, HB1.out⟩
 ·rw [h1]
  obtain ⟨b, off, rfl, _, hb, hc⟩ := vec_cell2 HV.out (by omega)
  have hc1 := hc k hk 1 _ rfl
  rw [h2] at hc1
  have c1 : w1.cell? ⟨b, off + k * 2 + 1, none⟩ = some (strV (canonL L s)) := (HB1.out.cell (p := ⟨b, off + k * 2 + 1, none⟩) hb).trans hc1
  clear hc hc1 h1 h2
  have hk' : (k : Int) < (L.length : Int) := by omega
  obtain ⟨y, hy⟩ : ∃ y, canonL L s = y := ⟨_, rfl⟩
  rw [hy] at c1
  have HY := Lib.hid hy; clear hy
  go_wp2_with fail
  go_ret
  exact ⟨by rw [HY.out]; rfl, HB1.out⟩
theorem infoS : (Tryz.prog.info? 9).map (fun i => (i.zero, i.size, i.bytes)) = some (some (.string ⟨#[]⟩), 1, 16) := by kernel_rfl
/-- what becomes of a token: nothing, or one -/
def normTok (r : RulesL) (t : List UInt8) : List (List UInt8) := if (lettersL t).isEmpty || hasB r.titles (lettersL t) then [] else [canonL r.nicks (lettersL t)]
def nameToks (r : RulesL) (L : List (List UInt8)) : List (List UInt8) := L.flatMap (normTok r)
/-- the normal form of a name, and the error -/
def nameN (r : RulesL) (l : List UInt8) : List UInt8 × Int :=
 if checkR r = 0 then (if foldV l = true then (if 6 < (nameToks r (toks (foldL l))).length ∨ 64 < (joinL (nameToks r (toks (foldL l)))).length then ([], 1) else (joinL (nameToks r (toks (foldL l))), 0)) else ([], 3)) else ([], checkR r)
def pairV (p : List UInt8 × Int) : Value := .tuple #[strV p.1, .int .i64 p.2]
theorem nameToks_snoc (r : RulesL) (L : List (List UInt8)) (t : List UInt8) : nameToks r (L ++ [t]) = nameToks r L ++ normTok r t := by simp [nameToks]
theorem normTok_len (r : RulesL) (t : List UInt8) : (normTok r t).length ≤ 1 := by unfold normTok; split <;> simp
theorem nameToks_len (r : RulesL) (L : List (List UInt8)) : (nameToks r L).length ≤ L.length := by
 induction L with
 | nil => simp [nameToks]
 | cons t L ih =>
  have := normTok_len r t
  simp only [nameToks, List.flatMap_cons, List.length_append, List.length_cons] at *
  omega
theorem check_zero {r : RulesL} (h : checkR r = 0) : (r.titles.length ≤ 32 ∧ r.nicks.length ≤ 32 ∧ r.streets.length ≤ 32) ∧ titlesB r.titles = true ∧ pairsB r.nicks = true ∧ pairsB r.streets = true ∧ (r.nicks.any fun x => hasB r.titles x.2) = false := by
 unfold checkR at h
 split at h
 ·omega
 ·split at h
  ·rename_i h1 h2
   split at h
   ·omega
   ·rename_i h3
    exact ⟨by omega, h2.1, h2.2.1, h2.2.2, by simpa using h3⟩
  ·omega
theorem pairs_at {L : List P2} (h : pairsB L = true) (j : Nat) (hj : j < L.length) : pairAtB L j = true := List.all_eq_true.1 h j (List.mem_range.2 hj)
theorem token_len {t : List UInt8} (h : tokenB t = true) : t.length ≤ 64 := by
 unfold tokenB at h
 cases h1 : t.isEmpty <;> simp [h1] at h
 exact h.1
theorem canon_len {L : List P2} (h : pairsB L = true) (s : List UInt8) (hs : s.length ≤ 64) : (canonL L s).length ≤ 64 := by
 rcases canon_find L s with ⟨_, h2⟩ | ⟨k, hk, _, h3⟩
 ·rw [h2]; exact hs
 ·rw [← h3]
  have := pairs_at h k hk
  unfold pairAtB at this
  simp only [Bool.and_eq_true] at this
  exact token_len this.1.1.2
theorem join_le {m : Nat} : ∀ (L : List (List UInt8)), (∀ t ∈ L, t.length ≤ m) → (joinL L).length ≤ L.length * (m + 1) := by
 intro L
 induction L with
 | nil => intro _; simp [joinL]
 | cons t L ih =>
  intro h
  have h1 := ih fun t ht => h t (List.mem_cons_of_mem _ ht)
  have h2 := h t List.mem_cons_self
  by_cases hL : L = []
  ·subst hL; simp [joinL]; omega
  ·rw [join_cons_ne _ _ hL]
   simp only [List.length_append, List.length_cons, List.length_nil, Nat.succ_mul] at *
   omega
theorem toks_le (l : List UInt8) : ∀ p, ∀ t ∈ toksA p l, t.length ≤ p.length + l.length := by
 induction l with
 | nil =>
  intro p t ht
  simp only [toksA] at ht
  split at ht
  ·simp at ht
  ·simp at ht; subst ht; simp
 | cons c l ih =>
  intro p t ht
  by_cases hc : c = 32
  ·subst hc
   by_cases hp : p = []
   ·subst hp
    rw [toksA_sp0] at ht
    have := ih [] t ht
    simp at *; omega
   ·rw [toksA_sp _ _ hp] at ht
    rcases List.mem_cons.1 ht with rfl | ht
    ·simp
    ·have := ih [] t ht
     simp at *; omega
  ·rw [toksA_ch _ _ _ hc] at ht
   have := ih _ t ht
   simp at *; omega
theorem nameToks_le {r : RulesL} (h : pairsB r.nicks = true) {L : List (List UInt8)} (hL : ∀ t ∈ L, t.length ≤ 64) : ∀ t ∈ nameToks r L, t.length ≤ 64 := by
 intro t ht
 obtain ⟨x, hx, ht⟩ := List.mem_flatMap.1 ht
 unfold normTok at ht
 split at ht
 ·simp at ht
 ·simp at ht; subst ht
  exact canon_len h _ (Nat.le_trans (letters_len x) (hL x hx))
end
end Go.Proofs.YthnfmolkppbbpaaGreatDoor
