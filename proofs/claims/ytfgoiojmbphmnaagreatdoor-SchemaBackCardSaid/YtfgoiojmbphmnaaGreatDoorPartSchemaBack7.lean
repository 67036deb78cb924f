/- Parts of one proof: SchR, HeldK, SchS. -/
import Derived.Test.YtfgoiojmbphmnaaGreatDoorPartSchemaBack6
import Derived.OrdersHeld
import Derived.Deep.RegionHeld
import Derived.Deep.AppendLies
import Derived.Deep.RegionLaw
import Derived.IntWalk
section
/- schema.words, an iterator; slices.Collect of it. -/
set_option linter.unusedSimpArgs false
set_option linter.unusedVariables false
set_option maxRecDepth 100000
namespace Go.Proofs.YtfgoiojmbphmnaaGreatDoor
open Go.RowKit Cal
attribute [local go_sem] toList_mk mk_size
theorem words_get (k : Nat) (h : k < 4) : kindW ((k : Int) + 1) = wordsL.getD k [] := by
  obtain rfl | rfl | rfl | rfl : k = 0 ∨ k = 1 ∨ k = 2 ∨ k = 3 := by omega
  all_goals rfl
theorem words_take (k : Nat) (h : k < 4) : wordsL.take (k + 1) = wordsL.take k ++ [wordsL.getD k []] := by
  obtain rfl | rfl | rfl | rfl : k = 0 ∨ k = 1 ∨ k = 2 ∨ k = 3 := by omega
  all_goals rfl
set_option maxHeartbeats 2000000 in
theorem words_gives (n : Nat) (w : World) : SeqGives Fence.wide n Tryz.prog 121 #[] encStr (fun xs => xs = wordsL) 4 w := by
  intro l J W hW hJ hY h0
  refine callsIn_of_wp Tryz.func121 rfl trivial ?_ rfl
  simp only [Tryz.ntmps121, List.size_toArray, List.length_cons, List.length_nil, Nat.reduceAdd, Nat.reduceSub, Array.replicate_succ, Array.replicate_zero, List.push_toArray, List.append_toArray, List.nil_append, List.cons_append]
  gi_wp2
  gi_loopw [2] (fun i wr => ∃ k : Nat, k ≤ 4 ∧ i = .int .i64 (k + 1) ∧ J (wordsL.take k) wr) (fun i _ => 5 - (intOf i).toNat)
  case atStart => exact ⟨0, by omega, rfl, h0⟩
  case round =>
    obtain ⟨k, hk, rfl, hJs⟩ := hrel
    have HJs := Lib.hid hJs; clear hJs
    by_cases hlt : k < 4
    · have hq : decide ((k : Int) + 1 ≤ 4) = true := by simp; omega
      have hix := index_kind ((k : Int) + 1) (by omega) (by omega)
      have hfd := field_kindW ((k : Int) + 1) (by omega) (by omega)
      obtain ⟨x, hx⟩ : ∃ x, kindW ((k : Int) + 1) = x := ⟨_, rfl⟩
      rw [hx] at hfd
      have HX := Lib.hid hx; clear hx
      have hy0 : ∀ w2, Below wr.heap.size wr w2 → YieldAt Fence.wide (n - 1) Tryz.prog l #[encStr x] w2 fun e W' => e = .returned (.bool true) ∧ J (wordsL.take k ++ [x]) W' ∧ KeepsWalks w2 W' := fun w2 hb2 =>
        hY _ x w2 (hJ _ wr w2 none HJs.out (grown_below hb2) (fun r e => by cases e)) (by rw [List.length_take]; show min k 4 < 4; omega)
      have HY0 := Lib.hid hy0; clear hy0
      gi_wp2
      refine ⟨trivial, fun h => by simp [Fence.wide] at h, (callsIn_wide.2 (kinds_any _)).mono ?_⟩
      rintro e w2 ⟨rfl, hb2⟩
      obtain ⟨fn, tmps, assign, body, hy, hR⟩ := HY0.out w2 hb2
      have HR := Lib.hid hR
      clear hR hJ hY h0 hb2
      gi_wp2
      refine ⟨fun h => by simp [Fence.wide] at h, HR.out.mono ?_⟩
      rintro e W3 ⟨rfl, hJ3, hk3⟩
      have HJ3 := Lib.hid hJ3
      clear hJ3 hk3
      gi_wp2
      go_roundw
      case rel => exact ⟨k + 1, by omega, by go_num, by rw [words_take k hlt, ← words_get k hlt, HX.out]; exact HJ3.out⟩
      case measure => simp [intOf]; omega
    · have hq : decide ((k : Int) + 1 ≤ 4) = false := by simp; omega
      obtain rfl : k = 4 := by omega
      gi_wp2
      go_end0
      exact ⟨⟨_, rfl⟩, wordsL, rfl, HJs.out⟩
theorem collect_words (w : World) :
    Calls Tryz.prog 120 #[fnV 121] w fun e w' => ∃ v, e = .returned v ∧ OwnAt w v wordsL w' := by
  have h := callsIn_wide.1 (AnyZ.collect_in Tryz.collect Fence.wide 3 trivial trivial rfl (by omega) 121 #[] trivial (enters_of Tryz.func121 (by kernel_rfl) rfl) (fun xs => xs = wordsL) 4 (by decide) (by decide) w (words_gives 1 w))
  refine h.mono ?_
  rintro e w' ⟨v, ss, rfl, rfl, ho, _, hb⟩
  exact ⟨v, rfl, ho, hb⟩
end Go.Proofs.YtfgoiojmbphmnaaGreatDoor
end
section
/- A region that draws its order: an operation that yields in every world that meets S may be taken first, where S is asked only until operation k has come up (k waits for it, directly or through others). -/
set_option linter.unusedSimpArgs false
set_option linter.unusedVariables false
namespace Go.Proofs.YtfgoiojmbphmnaaGreatDoor
open Go
section
variable {P : Program} {ops : Array Oper} {Q : Exit → Act → World → Prop} {md : Region.Mode} {S : World → Prop} {k : Nat}
/-- whatever is listed, all that it waits for is listed -/
def Closed (md : Region.Mode) (ops : Array Oper) (l : Array Bool) : Prop :=
  ∀ j o, ops[j]? = some o → l.getD j false = true → ∀ e ∈ o.after, Region.binds md e = true → l.getD e.on false = true
def closedB (md : Region.Mode) (ops : Array Oper) (l : Array Bool) : Bool :=
  (List.range ops.size).all fun j => match ops[j]? with
    | none => true
    | some o => !l.getD j false || o.after.all fun e => !Region.binds md e || l.getD e.on false
theorem closed_spec {l : Array Bool} (h : closedB md ops l = true) : Closed md ops l := by
  intro j o ho hl e he hb
  have hj : j < ops.size := (Array.getElem?_eq_some_iff.1 ho).1
  have h1 := List.all_eq_true.1 h j (List.mem_range.2 hj)
  simp only [ho] at h1
  rw [hl] at h1
  simp only [Bool.not_true, Bool.false_or, Array.all_eq_true_iff_forall_mem] at h1
  have h2 := h1 e he
  rw [hb] at h2
  simpa using h2
theorem closed_step {l : Array Bool} {j : Nat} (h : Closed md ops l) (hj : j ∈ Region.ready md ops l) : Closed md ops (l.setIfInBounds j true) := by
  intro i o ho hl e he hb
  by_cases hij : i = j
  · subst hij
    obtain ⟨_, o', ho', hall⟩ := mem_ready.1 hj
    rw [ho] at ho'; cases ho'
    exact getD_set_true (hall e he hb)
  · rw [getD_set_ne false (fun e => hij e.symm)] at hl
    exact getD_set_true (h i o ho hl e he hb)
/-- k waits for i -/
def reachB (md : Region.Mode) (ops : Array Oper) : Nat → Nat → Nat → Bool
  | 0, _, _ => false
  | f + 1, i, k => match ops[k]? with
    | none => false
    | some o => o.after.any fun e => Region.binds md e && (e.on == i || reachB md ops f i e.on)
theorem reach_spec {l : Array Bool} (hc : Closed md ops l) : ∀ (f i k : Nat), reachB md ops f i k = true → l.getD k false = true → l.getD i false = true := by
  intro f
  induction f with
  | zero => intro i k h; simp [reachB] at h
  | succ f ih =>
    intro i k h hk
    unfold reachB at h
    cases ho : ops[k]? with
    | none => simp [ho] at h
    | some o =>
      simp only [ho] at h
      obtain ⟨e, he, hb⟩ := Array.any_eq_true'.1 h
      simp only [Bool.and_eq_true, Bool.or_eq_true, beq_iff_eq] at hb
      have h1 := hc k o ho hk e he hb.1
      rcases hb.2 with h2 | h2
      · rw [← h2]; exact h1
      · exact ih i e.on h2 h1
def wpAnyK (P : Program) (md : Region.Mode) (ops : Array Oper) (Q : Exit → Act → World → Prop) (S : World → Prop) (k : Nat) : Nat → Array Bool → Act → World → Prop
  | 0, listed, a, w => Region.ready md ops listed = [] ∧ Q .normal a w
  | fuel + 1, listed, a, w =>
    (Region.ready md ops listed = [] → Q .normal a w) ∧
    ∀ i ∈ Region.ready md ops listed, wpOp P ops Q i (fun a' w' => ((listed.setIfInBounds i true).getD k false = false → S w') ∧ wpAnyK P md ops Q S k fuel (listed.setIfInBounds i true) a' w') a w
theorem wpAny_of_k : ∀ (fuel : Nat) (listed : Array Bool) (a : Act) (w : World), wpAnyK P md ops Q S k fuel listed a w → wpAny P md ops Q fuel listed a w
  | 0, _, _, _, h => h
  | fuel + 1, _, _, _, h => ⟨h.1, fun i hi => wpOp_mono (fun a' w' h' => wpAny_of_k fuel _ a' w' h'.2) (h.2 i hi)⟩
/-- behind k it is a plain 'wpAny' -/
theorem wpAnyK_off : ∀ (fuel : Nat) (listed : Array Bool) (a : Act) (w : World), listed.getD k false = true → wpAny P md ops Q fuel listed a w → wpAnyK P md ops Q S k fuel listed a w
  | 0, _, _, _, _, h => h
  | fuel + 1, _, _, _, hk, h => ⟨h.1, fun i hi => wpOp_mono (fun a' w' h' => ⟨fun h0 => (by rw [getD_set_true hk] at h0; cases h0), wpAnyK_off fuel _ a' w' (getD_set_true hk) h'⟩) (h.2 i hi)⟩
theorem wpAnyK_first {i : Nat} {oi : Oper} {v : Value} (hi : ops[i]? = some oi) (hsel : ∀ (j : Nat) (o : Oper) cs b, ops[j]? = some o → o.op ≠ .select cs b)
    (hQ : ∀ c a w, Q (.panic c) (a.put oi.dst v) w → Q (.panic c) a w) (f : Nat) (hreach : reachB md ops f i k = true) (hik : i ≠ k) :
    ∀ (fuel : Nat) (listed : Array Bool) (a : Act) (w : World), Closed md ops listed →
      (∀ j oj, ops[j]? = some oj → j ≠ i → listed.getD j true = false → (∀ e ∈ oj.after, Region.binds md e = true → e.on ≠ i) → oi.apart ops oj = true) →
      i ∈ Region.ready md ops listed → YieldsIf P ops S oi v a → S w →
      wpAnyK P md ops Q S k fuel (listed.setIfInBounds i true) (a.put oi.dst v) w → wpAnyK P md ops Q S k (fuel + 1) listed a w := by
  intro fuel
  induction fuel with
  | zero =>
    intro listed a w _ _ hr hy hS H
    refine ⟨fun h => (by rw [h] at hr; cases hr), fun j hj => ?_⟩
    by_cases hji : j = i
    · subst hji; exact hy.wpOp hi hS ⟨fun _ => hS, H⟩
    · have := ready_mono hj hji
      rw [H.1] at this
      cases this
  | succ fuel ih =>
    intro listed a w hcl hfree hr hy hS H
    refine ⟨fun h => (by rw [h] at hr; cases hr), fun j hj => ?_⟩
    by_cases hji : j = i
    · subst hji; exact hy.wpOp hi hS ⟨fun _ => hS, H⟩
    · have h1 := H.2 j (ready_mono hj hji)
      have hcl' := closed_step hcl hj
      obtain ⟨hjun, oj, hoj, hall⟩ := mem_ready.1 hj
      have hil : i < listed.size := by
        have h0 := (mem_ready.1 hr).1
        rcases Nat.lt_or_ge i listed.size with h' | h'
        · exact h'
        · simp [Array.getElem?_eq_none h'] at h0
      have hif : (listed.setIfInBounds j true).getD i false = false := by
        rw [getD_set_ne false hji]
        have h0 := (mem_ready.1 hr).1
        simp [hil] at h0 ⊢; exact h0
      have hnot : ∀ e ∈ oj.after, Region.binds md e = true → e.on ≠ i := fun e he hb heq => by
        have h1 := hall e he hb
        have h0 := (mem_ready.1 hr).1
        rw [heq] at h1
        simp [hil] at h0 h1; rw [h0] at h1; cases h1
      have hkf : ((listed.setIfInBounds i true).setIfInBounds j true).getD k false = false := by
        have hne : (listed.setIfInBounds j true).getD k false = false := by
          cases hv : (listed.setIfInBounds j true).getD k false with
          | false => rfl
          | true => rw [reach_spec hcl' f i k hreach hv] at hif; cases hif
        rw [Array.setIfInBounds_comm _ _ (fun e => hji e.symm), getD_set_ne false hik]; exact hne
      have h2 := wpOp_putIf hoj (hfree j oj hoj hji hjun hnot) (fun cs b => hsel i oi cs b hi) (fun cs b => hsel j oj cs b hoj) hQ hy h1
      have hfree' : ∀ k ok, ops[k]? = some ok → k ≠ i → (listed.setIfInBounds j true).getD k true = false →
          (∀ e ∈ ok.after, Region.binds md e = true → e.on ≠ i) → oi.apart ops ok = true := fun k ok hk hki hun hno => by
        refine hfree k ok hk hki ?_ hno
        by_cases hjk : j = k
        · subst hjk; exact hjun
        · rw [getD_set_ne true hjk] at hun; exact hun
      refine wpOp_mono (fun a' w' h3 => ⟨fun _ => h3.2.1 hkf, ih (listed.setIfInBounds j true) a' w' hcl' hfree' (ready_mono hr (Ne.symm hji)) h3.1 (h3.2.1 hkf) ?_⟩) h2
      rw [Array.setIfInBounds_comm _ _ hji]
      exact h3.2.2
theorem wpAnyK_take {i : Nat} {oi : Oper} {v : Value} {fuel : Nat} {listed : Array Bool} {a : Act} {w : World} (hi : ops[i]? = some oi)
    (hs : Region.noSelect ops = true) (hf : Region.free md ops listed i = true) (hr : (Region.ready md ops listed).contains i = true)
    (hc : (closedB md ops listed && reachB md ops 12 i k && (i != k)) = true)
    (hQ : ∀ c a w, Q (.panic c) (a.put oi.dst v) w → Q (.panic c) a w) (hy : YieldsIf P ops S oi v a) (hS : S w)
    (h : wpAnyK P md ops Q S k fuel (listed.setIfInBounds i true) (a.put oi.dst v) w) : wpAnyK P md ops Q S k (fuel + 1) listed a w := by
  simp only [Bool.and_eq_true, bne_iff_ne, ne_eq] at hc
  exact wpAnyK_first hi (Region.noSelect_spec hs) hQ 12 hc.1.2 hc.2 fuel listed a w (closed_spec hc.1.1) (Region.free_spec hi hf) (by simpa using hr) hy hS h
/-- what yields in whatever world may be taken first, before and behind k -/
theorem wpAnyK_first0 {i : Nat} {oi : Oper} {v : Value} (hi : ops[i]? = some oi) (hsel : ∀ (j : Nat) (o : Oper) cs b, ops[j]? = some o → o.op ≠ .select cs b)
    (hQ : ∀ c a w, Q (.panic c) (a.put oi.dst v) w → Q (.panic c) a w) (hik : i ≠ k) :
    ∀ (fuel : Nat) (listed : Array Bool) (a : Act) (w : World),
      (∀ j oj, ops[j]? = some oj → j ≠ i → listed.getD j true = false → (∀ e ∈ oj.after, Region.binds md e = true → e.on ≠ i) → oi.apart ops oj = true) →
      i ∈ Region.ready md ops listed → YieldsIf P ops (fun _ => True) oi v a → (listed.getD k false = false → S w) →
      wpAnyK P md ops Q S k fuel (listed.setIfInBounds i true) (a.put oi.dst v) w → wpAnyK P md ops Q S k (fuel + 1) listed a w := by
  intro fuel
  induction fuel with
  | zero =>
    intro listed a w _ hr hy hS H
    refine ⟨fun h => (by rw [h] at hr; cases hr), fun j hj => ?_⟩
    by_cases hji : j = i
    · subst hji; exact hy.wpOp hi trivial ⟨fun h => hS (by rw [getD_set_ne false hik] at h; exact h), H⟩
    · have := ready_mono hj hji
      rw [H.1] at this
      cases this
  | succ fuel ih =>
    intro listed a w hfree hr hy hS H
    refine ⟨fun h => (by rw [h] at hr; cases hr), fun j hj => ?_⟩
    by_cases hji : j = i
    · subst hji; exact hy.wpOp hi trivial ⟨fun h => hS (by rw [getD_set_ne false hik] at h; exact h), H⟩
    · have h1 := H.2 j (ready_mono hj hji)
      obtain ⟨hjun, oj, hoj, hall⟩ := mem_ready.1 hj
      have hnot : ∀ e ∈ oj.after, Region.binds md e = true → e.on ≠ i := fun e he hb heq => by
        have h1 := hall e he hb
        have h0 := (mem_ready.1 hr).1
        rw [heq] at h1
        rcases Nat.lt_or_ge i listed.size with h' | h'
        · simp [h'] at h0 h1; rw [h0] at h1; cases h1
        · simp [Array.getElem?_eq_none h'] at h1
      have h2 := wpOp_putIf hoj (hfree j oj hoj hji hjun hnot) (fun cs b => hsel i oi cs b hi) (fun cs b => hsel j oj cs b hoj) hQ hy h1
      have hfree' : ∀ k ok, ops[k]? = some ok → k ≠ i → (listed.setIfInBounds j true).getD k true = false →
          (∀ e ∈ ok.after, Region.binds md e = true → e.on ≠ i) → oi.apart ops ok = true := fun k ok hk hki hun hno => by
        refine hfree k ok hk hki ?_ hno
        by_cases hjk : j = k
        · subst hjk; exact hjun
        · rw [getD_set_ne true hjk] at hun; exact hun
      have hkf : (listed.setIfInBounds j true).getD k false = false → ((listed.setIfInBounds i true).setIfInBounds j true).getD k false = false := fun h => by
        rw [Array.setIfInBounds_comm _ _ (fun e => hji e.symm), getD_set_ne false hik]; exact h
      refine wpOp_mono (fun a' w' h3 => ⟨fun h => h3.2.1 (hkf h), ih (listed.setIfInBounds j true) a' w' hfree' (ready_mono hr (Ne.symm hji)) h3.1 (fun h => h3.2.1 (hkf h)) ?_⟩) h2
      rw [Array.setIfInBounds_comm _ _ hji]
      exact h3.2.2
theorem wpAnyK_take0 {i : Nat} {oi : Oper} {v : Value} {fuel : Nat} {listed : Array Bool} {a : Act} {w : World} (hi : ops[i]? = some oi)
    (hs : Region.noSelect ops = true) (hf : Region.free md ops listed i = true) (hr : (Region.ready md ops listed).contains i = true) (hik : i ≠ k)
    (hQ : ∀ c a w, Q (.panic c) (a.put oi.dst v) w → Q (.panic c) a w) (hy : YieldsIf P ops (fun _ => True) oi v a) (hS : listed.getD k false = false → S w)
    (h : wpAnyK P md ops Q S k fuel (listed.setIfInBounds i true) (a.put oi.dst v) w) : wpAnyK P md ops Q S k (fuel + 1) listed a w :=
  wpAnyK_first0 hi (Region.noSelect_spec hs) hQ hik fuel listed a w (Region.free_spec hi hf) (by simpa using hr) hy hS h
theorem wpAnyK_all {rs : List Nat} {fuel : Nat} {listed : Array Bool} {a : Act} {w : World} (hr : Region.ready md ops listed = rs) (hne : rs ≠ [])
    (h : ∀ i ∈ rs, wpOp P ops Q i (fun a' w' => ((listed.setIfInBounds i true).getD k false = false → S w') ∧ wpAnyK P md ops Q S k fuel (listed.setIfInBounds i true) a' w') a w) : wpAnyK P md ops Q S k (fuel + 1) listed a w :=
  ⟨fun h0 => absurd (hr ▸ h0) hne, hr ▸ h⟩
theorem wpAnyK_done {listed : Array Bool} {a : Act} {w : World} (hr : Region.ready md ops listed = []) (h : Q .normal a w) :
    ∀ fuel, wpAnyK P md ops Q S k fuel listed a w
  | 0 => ⟨hr, h⟩
  | _ + 1 => ⟨fun _ => h, by rw [hr]; simp⟩
def AllReadyK (P : Program) (md : Region.Mode) (ops : Array Oper) (Q : Exit → Act → World → Prop) (S : World → Prop) (k fuel : Nat) (listed : Array Bool) (a : Act) (w : World) (rs : List Nat) : Prop :=
  ∀ i ∈ rs, wpOp P ops Q i (fun a' w' => ((listed.setIfInBounds i true).getD k false = false → S w') ∧ wpAnyK P md ops Q S k fuel (listed.setIfInBounds i true) a' w') a w
theorem AllReadyK.nil {fuel : Nat} {listed : Array Bool} {a : Act} {w : World} : AllReadyK P md ops Q S k fuel listed a w [] := fun _ h => by cases h
theorem AllReadyK.cons {fuel : Nat} {listed : Array Bool} {a : Act} {w : World} {i : Nat} {o : Oper} {rs : List Nat} (ho : ops[i]? = some o)
    (h : ∀ K' : Act → World → Prop, Shut (∀ a w, ((listed.setIfInBounds i true).getD k false = false → S w) → wpAnyK P md ops Q S k fuel (listed.setIfInBounds i true) a w → K' a w) → if Region.wanted o (yielded ops a.tmps) = true then Oper.wp P o a w K' Q else K' (a.put o.dst undef) w)
    (hs : AllReadyK P md ops Q S k fuel listed a w rs) : AllReadyK P md ops Q S k fuel listed a w (i :: rs) := fun j hj => by
  rcases List.mem_cons.1 hj with rfl | hj
  · exact wpOp_step ho (fun K' hK => h K' (fun a w hS hW => hK a w ⟨hS, hW⟩))
  · exact hs j hj
theorem wpAnyK_ready {rs : List Nat} {fuel : Nat} {listed : Array Bool} {a : Act} {w : World} (hr : Region.ready md ops listed = rs) (hne : rs ≠ [])
    (h : AllReadyK P md ops Q S k fuel listed a w rs) : wpAnyK P md ops Q S k (fuel + 1) listed a w := wpAnyK_all hr hne h
theorem wp_region_k {id : Nat} {a : Act} {w : World} (hm : P.follows .mixedOrders = true) (S : World → Prop) (k : Nat) (hS : S w.drew)
    (h : S w.drew → wpAnyK P .any ops Q S k ops.size (Array.replicate ops.size false) a w.drew) : (Code.region id ops true).wp P Q a w :=
  wp_region_any hm (wpAny_of_k _ _ _ _ (h hS))
theorem shutK {S : World → Prop} {W : Act → World → Prop} {c : Prop} {K' : Act → World → Prop} {a : Act} {w : World} (hK : Shut (∀ a w, (c → S w) → W a w → K' a w)) (hS : S w) (h : S w → W a w) : K' a w := hK.out _ _ (fun _ => hS) (h hS)
theorem shutK_off {S : World → Prop} {W : Act → World → Prop} {c : Prop} {K' : Act → World → Prop} {a : Act} {w : World} (hK : Shut (∀ a w, (c → S w) → W a w → K' a w)) (hc : ¬ c) (h : W a w) : K' a w := hK.out _ _ (fun h0 => absurd h0 hc) h
end
end Go.Proofs.YtfgoiojmbphmnaaGreatDoor
end
section
/- schema.read: a line of the text of a schema. -/
set_option linter.unusedSimpArgs false
set_option linter.unusedVariables false
set_option maxRecDepth 100000
namespace Go.Proofs.YtfgoiojmbphmnaaGreatDoor
open Go.RowKit Cal
attribute [local go_sem] toList_mk mk_size
theorem infoP : (Tryz.prog.info? 83).map (fun i => (i.zero, i.size, i.bytes)) = some (some (.agg #[.string ⟨#[]⟩, .string ⟨#[]⟩]), 2, 32) := by kernel_rfl
def ReadPost (B Y : Nat) (r : Int × SchemaL) (w : World) (e : Ending) (w' : World) : Prop := ∃ vf vt vn vs, e = .returned (.int .i64 r.1) ∧ PAt B Y vf vt vn vs r.2 w' ∧ Below B w w'
theorem words_three {w : World} {S : Nat → Prop} {wv : Value} {a b c : List UInt8} (h : Vec w S 1 encS wv [a, b, c]) : ∃ bw ow cw, wv = .slice (some ⟨bw, ow, none⟩) 3 cw ∧ bw < w.heap.size ∧ w.cell? ⟨bw, ow, none⟩ = some (strV a) ∧ w.cell? ⟨bw, ow + 1, none⟩ = some (strV b) ∧ w.cell? ⟨bw, ow + 2, none⟩ = some (strV c) := by
  obtain ⟨aw, cw, rfl⟩ := h.slice
  obtain ⟨bw, ow, rfl, _, hb, hc⟩ := vec_cell1 h (Nat.zero_lt_succ _)
  exact ⟨bw, ow, cw, rfl, hb, hc 0 (by show 0 < 3; decide), hc 1 (by show 1 < 3; decide), hc 2 (by show 2 < 3; decide)⟩
theorem words_two {w : World} {S : Nat → Prop} {wv : Value} {a b : List UInt8} (h : Vec w S 1 encS wv [a, b]) : ∃ bw ow cw, wv = .slice (some ⟨bw, ow, none⟩) 2 cw ∧ bw < w.heap.size ∧ w.cell? ⟨bw, ow, none⟩ = some (strV a) ∧ w.cell? ⟨bw, ow + 1, none⟩ = some (strV b) := by
  obtain ⟨aw, cw, rfl⟩ := h.slice
  obtain ⟨bw, ow, rfl, _, hb, hc⟩ := vec_cell1 h (Nat.zero_lt_succ _)
  exact ⟨bw, ow, cw, rfl, hb, hc 0 (by show 0 < 2; decide), hc 1 (by show 1 < 2; decide)⟩
theorem has_empty (L : List (List UInt8)) : hasB L [] = decide ([] ∈ L) := by
  unfold hasB
  rw [Bool.eq_iff_iff, List.any_eq_true, decide_eq_true_iff]
  constructor
  · rintro ⟨x, hx, he⟩
    have : x = [] := by simpa using he
    rw [← this]; exact hx
  · intro h; exact ⟨[], h, rfl⟩
/-- a line that is none, of whatever words -/
theorem read_none {s : SchemaL} {L : List (List UInt8)} (h : [] ∈ L) : readN s L = (-1, s) := by unfold readN; rw [if_pos h]
set_option maxHeartbeats 4000000 in
theorem read_bad (B Y : Nat) (vf vt vn vs : Value) (s : SchemaL) (wv : Value) (L : List (List UInt8)) (w : World) (h : PAt B Y vf vt vn vs s w) (hw : Vec w Any1 1 encS wv L) (hn : L.length ≤ 1000000) (hbz : B ≤ w.heap.size) (h0 : [] ∈ L) :
    Calls Tryz.prog 73 #[.pointer (some ⟨Y, 0, none⟩), wv] w (ReadPost B Y (readN s L) w) := by
  obtain ⟨aw, cw, rfl⟩ := hw.slice
  have HH := Lib.hid h; have HW := Lib.hid hw
  have HR := Lib.hid (read_none (s := s) h0)
  have HE := Lib.hid (show hasB L [] = true by rw [has_empty]; simpa using h0)
  clear h hw h0
  go_enter Tryz.func73, Tryz.ntmps73
  go_wp2_with fail
  refine (contains_any Any1 _ L [] _ (HW.out.below ((Below.refl _ _).alloc (Nat.le_refl _) _)) hn).mono ?_
  rw [HE.out]
  rintro e w1 ⟨rfl, rfl⟩
  go_wp2_with fail
  go_ret
  refine ⟨vf, vt, vn, vs, by rw [HR.out]; rfl, by rw [HR.out]; exact HH.out.below ((Below.refl _ _).alloc (Nat.le_refl _) _), (Below.refl _ _).alloc hbz _⟩
/-- neither two nor three words -/
theorem read_else {s : SchemaL} {L : List (List UInt8)} (h2 : L.length ≠ 2) (h3 : L.length ≠ 3) : readN s L = (-1, s) := by
  unfold readN
  split
  · rfl
  · split
    · simp at h3
    · simp at h2
    · rfl
set_option maxHeartbeats 4000000 in
theorem read_odd (B Y : Nat) (vf vt vn vs : Value) (s : SchemaL) (wv : Value) (L : List (List UInt8)) (w : World) (h : PAt B Y vf vt vn vs s w) (hw : Vec w Any1 1 encS wv L) (hn : L.length ≤ 1000000) (hbz : B ≤ w.heap.size) (h0 : [] ∉ L) (h2 : L.length ≠ 2) (h3 : L.length ≠ 3) :
    Calls Tryz.prog 73 #[.pointer (some ⟨Y, 0, none⟩), wv] w (ReadPost B Y (readN s L) w) := by
  obtain ⟨aw, cw, rfl⟩ := hw.slice
  have HH := Lib.hid h; have HW := Lib.hid hw
  have HR := Lib.hid (read_else (s := s) h2 h3)
  have HE := Lib.hid (show hasB L [] = false by rw [has_empty]; simpa using h0)
  have d2 : ((L.length : Int) == 2) = false := by simp; omega
  have d3 : ((L.length : Int) == 3) = false := by simp; omega
  clear h hw h0 h2 h3
  go_enter Tryz.func73, Tryz.ntmps73
  go_wp2_with fail
  refine (contains_any Any1 _ L [] _ (HW.out.below ((Below.refl _ _).alloc (Nat.le_refl _) _)) hn).mono ?_
  rw [HE.out]
  rintro e w1 ⟨rfl, rfl⟩
  go_wp2_with fail
  go_ret
  refine ⟨vf, vt, vn, vs, by rw [HR.out]; rfl, by rw [HR.out]; exact HH.out.below ((Below.refl _ _).alloc (Nat.le_refl _) _), (Below.refl _ _).alloc hbz _⟩
-- BEGIN (gen_s.py)
set_option maxHeartbeats 8000000 in
theorem read_title (B Y : Nat) (vf vt vn vs : Value) (s : SchemaL) (wv : Value) (b : List UInt8) (w : World) (h : PAt B Y vf vt vn vs s w) (hw : Vec w Any1 1 encS wv [titleW, b]) (hbz : B ≤ w.heap.size) (hb0 : [] ∉ [titleW, b]) (hl : s.rules.titles.length ≤ 1000000) :
    Calls Tryz.prog 73 #[.pointer (some ⟨Y, 0, none⟩), wv] w (ReadPost B Y (1, addT s b) w) := by
  obtain ⟨bw, ow, cw, rfl, hbw, c0, c1⟩ := words_two hw
  have HH := Lib.hid h; have HW := Lib.hid hw
  have HE := Lib.hid (show hasB [titleW, b] [] = false by rw [has_empty]; simpa using hb0)
  obtain ⟨ax, cx, rfl⟩ := own_slice h.t
  obtain ⟨p0, p1, p2, p3⟩ := cells4 h.y
  have fY := (frozen_of_row _ _ _ _ _ h.y : w.frozen? ⟨Y, 1, none⟩ = false)
  have zY := lt_of_blk h.y
  clear h hw hb0
  unfold titleW at c0 HW
  go_enter Tryz.func73, Tryz.ntmps73
  go_wp2_with fail
  refine (contains_any Any1 _ [titleW, b] [] _ (HW.out.below ((Below.refl _ _).alloc (Nat.le_refl _) _)) (by simp)).mono ?_
  rw [HE.out]
  rintro e w1 ⟨rfl, rfl⟩
  go_wp2_with fail
  obtain ⟨i0, hi, hz0, hz1, hz2⟩ := info_parts infoS
  have HI := Lib.hid hi; have HZ0 := Lib.hid hz0; have HZ1 := Lib.hid hz1; have HZ2 := Lib.hid hz2
  refine wp_world (fun wS hS => ?_)
  have zS : wS.heap.size = w.heap.size + 1 := by rw [hS]; simp
  have bS : Below w.heap.size w wS := by rw [hS]; exact (Below.refl _ _).alloc (Nat.le_refl _) _
  have qy := (bS.cell (p := ⟨Y, 1, none⟩) zY).trans p1
  have gy := (bS.frozen (p := ⟨Y, 1, none⟩) zY).trans fY
  have qw : wS.cell? ⟨w.heap.size, 0, none⟩ = some (.slice (some ⟨bw, ow, none⟩) 2 cw) := by rw [hS]; simp
  have q1 := (bS.cell (p := ⟨bw, ow + 1, none⟩) hbw).trans c1
  have zYS : Y < wS.heap.size := by omega
  have zbS : bw < wS.heap.size := by omega
  have HPS := Lib.hid (HH.out.below bS)
  have HBS := Lib.hid bS
  have zW : w.heap.size < wS.heap.size := by omega
  have hBS : B ≤ wS.heap.size := by omega
  clear hS bS p0 p1 p2 p3 fY zY hbw c0 HW HH HE c1 zS
  refine wp_region_noPanic ?_
  refine wp_region_k (by kernel_rfl) (fun w' => w'.cell? ⟨Y, 1, none⟩ = some (.slice ax s.rules.titles.length cx) ∧ w'.cell? ⟨w.heap.size, 0, none⟩ = some (.slice (some ⟨bw, ow, none⟩) 2 cw) ∧ w'.cell? ⟨bw, ow + 1, none⟩ = some (strV b)) 10 (⟨qy, qw, q1⟩) (fun hHeld => ?_)
  refine wpAnyK_take0 (i := 0) (v := ?_) rfl (by kernel_rfl) (by kernel_rfl) (by kernel_rfl) (by decide) (fun _ _ _ h => h) (Or.inl ⟨by rfl, ?_⟩) (by first | exact fun _ => by assumption | exact fun h => absurd h (by decide)) ?_
  rotate_left 1
  · (intro wS hSw; (try dsimp only at hSw); go_simp; try with_reducible rfl)
  try simp only [List.getElem_toArray, List.getElem_cons_zero, List.getElem_cons_succ, Act.put, List.setIfInBounds_toArray, List.set_cons_zero, List.set_cons_succ]
  refine wpAnyK_take (i := 1) (v := ?_) rfl (by kernel_rfl) (by kernel_rfl) (by kernel_rfl) (by kernel_rfl) (fun _ _ _ h => h) (Or.inl ⟨by rfl, ?_⟩) (by assumption) ?_
  rotate_left 1
  · (intro wS hSw; (try dsimp only at hSw); go_simp; try with_reducible rfl)
  try simp only [List.getElem_toArray, List.getElem_cons_zero, List.getElem_cons_succ, Act.put, List.setIfInBounds_toArray, List.set_cons_zero, List.set_cons_succ]
  refine wpAnyK_take (i := 2) (v := ?_) rfl (by kernel_rfl) (by kernel_rfl) (by kernel_rfl) (by kernel_rfl) (fun _ _ _ h => h) (Or.inl ⟨by rfl, ?_⟩) (by assumption) ?_
  rotate_left 1
  · (intro wS hSw; (try dsimp only at hSw); go_simp; try with_reducible rfl)
  try simp only [List.getElem_toArray, List.getElem_cons_zero, List.getElem_cons_succ, Act.put, List.setIfInBounds_toArray, List.set_cons_zero, List.set_cons_succ]
  refine wpAnyK_take (i := 3) (v := ?_) rfl (by kernel_rfl) (by kernel_rfl) (by kernel_rfl) (by kernel_rfl) (fun _ _ _ h => h) (Or.inl ⟨by rfl, ?_⟩) (by assumption) ?_
  rotate_left 1
  · (intro wS hSw; (try dsimp only at hSw); go_simp; try with_reducible rfl)
  try simp only [List.getElem_toArray, List.getElem_cons_zero, List.getElem_cons_succ, Act.put, List.setIfInBounds_toArray, List.set_cons_zero, List.set_cons_succ]
  refine wpAnyK_take (i := 4) (v := ?_) rfl (by kernel_rfl) (by kernel_rfl) (by kernel_rfl) (by kernel_rfl) (fun _ _ _ h => h) (Or.inl ⟨by rfl, ?_⟩) (by assumption) ?_
  rotate_left 1
  · (intro wS hSw; (try dsimp only at hSw); go_simp; try with_reducible rfl)
  try simp only [List.getElem_toArray, List.getElem_cons_zero, List.getElem_cons_succ, Act.put, List.setIfInBounds_toArray, List.set_cons_zero, List.set_cons_succ]
  refine wpAnyK_take (i := 5) (v := ?_) rfl (by kernel_rfl) (by kernel_rfl) (by kernel_rfl) (by kernel_rfl) (fun _ _ _ h => h) (Or.inl ⟨by rfl, ?_⟩) (by assumption) ?_
  rotate_left 1
  · (intro wS hSw; (try dsimp only at hSw); go_simp; try with_reducible rfl)
  try simp only [List.getElem_toArray, List.getElem_cons_zero, List.getElem_cons_succ, Act.put, List.setIfInBounds_toArray, List.set_cons_zero, List.set_cons_succ]
  refine wpAnyK_take (i := 6) (v := ?_) rfl (by kernel_rfl) (by kernel_rfl) (by kernel_rfl) (by kernel_rfl) (fun _ _ _ h => h) (Or.inl ⟨by rfl, ?_⟩) (by assumption) ?_
  rotate_left 1
  · (intro wS hSw; (try dsimp only at hSw); go_simp; try with_reducible rfl)
  try simp only [List.getElem_toArray, List.getElem_cons_zero, List.getElem_cons_succ, Act.put, List.setIfInBounds_toArray, List.set_cons_zero, List.set_cons_succ]
  refine wpAnyK_take (i := 7) (v := ?_) rfl (by kernel_rfl) (by kernel_rfl) (by kernel_rfl) (by kernel_rfl) (fun _ _ _ h => h) (Or.inl ⟨by rfl, ?_⟩) (by assumption) ?_
  rotate_left 1
  · (intro wS hSw; (try dsimp only at hSw); go_simp; try with_reducible rfl)
  try simp only [List.getElem_toArray, List.getElem_cons_zero, List.getElem_cons_succ, Act.put, List.setIfInBounds_toArray, List.set_cons_zero, List.set_cons_succ]
  refine wpAnyK_take (i := 8) (v := ?_) rfl (by kernel_rfl) (by kernel_rfl) (by kernel_rfl) (by kernel_rfl) (fun _ _ _ h => h) (Or.inl ⟨by rfl, ?_⟩) (by assumption) ?_
  rotate_left 1
  · (intro wS hSw; (try dsimp only at hSw); go_simp; try with_reducible rfl)
  try simp only [List.getElem_toArray, List.getElem_cons_zero, List.getElem_cons_succ, Act.put, List.setIfInBounds_toArray, List.set_cons_zero, List.set_cons_succ]
  have bA := ((Below.refl wS.heap.size wS).drew).alloc (Nat.le_refl _) (.cells #[strV b] 9)
  have hown := own_below HPS.out.t bA
  have hnews : ∀ j u, [strV b][j]? = some u → ((wS.drew).alloc (.cells #[strV b] 9)).cell? ((⟨wS.heap.size, 0, none⟩ : Addr).add j) = some u := fun j u hu => by
    have hX : ((wS.drew).alloc (.cells #[strV b] 9)).heap[wS.heap.size]? = some (.cells #[strV b] 9 (0, 0)) := blk_new rfl
    rw [add_plain, cell_of_row _ _ _ _ _ _ hX, Nat.zero_add]; simpa using hu
  have hone : ∀ u ∈ [strV b], u.oneCell' = true := by intro u hu; simp at hu; subst hu; rfl
  refine wpAnyK_ready (rs := [9]) (by kernel_rfl) (by simp) ?_
  refine AllReadyK.cons rfl (fun K hK => ?_) AllReadyK.nil
  go_simp
  skip
  refine shutK hK (⟨(bA.cell (p := ⟨Y, 1, none⟩) zYS).trans qy, (bA.cell (p := ⟨w.heap.size, 0, none⟩) zW).trans qw, (bA.cell (p := ⟨bw, ow + 1, none⟩) zbS).trans q1⟩) (fun hHeld => ?_)
  clear hK K
  try simp only [List.getElem_toArray, List.getElem_cons_zero, List.getElem_cons_succ, Act.put, List.setIfInBounds_toArray, List.set_cons_zero, List.set_cons_succ]
  refine wpAnyK_ready (rs := [10]) (by kernel_rfl) (by simp) ?_
  refine AllReadyK.cons rfl (fun K hK => ?_) AllReadyK.nil
  refine wp_append_lies _ (.tmp 54) (.tmp 58) 28 (by rfl) B 9 i0 (.string ⟨#[]⟩) 1 16 Tryz.underlying28 HI.out HZ0.out HZ1.out HZ2.out rfl (by decide) (.slice ax s.rules.titles.length cx) s.rules.titles.length (s.rules.titles.flatMap encS) (by rfl) hown ⟨wS.heap.size, 0, none⟩ 1 1 [strV b] (by rfl) rfl hnews hone (by omega) (by unfold maxLen; omega) (by omega) (by simp; omega) (wS.heap.size + 1) (by simp) ?_; intro g cap w5 hown5 hg5 hat5 hlt5; have cY5 : w5.cell? ⟨Y, 1, none⟩ = some (.slice ax s.rules.titles.length cx) := (hg5.cell_far ⟨Y, 1, none⟩ (by simp; omega) (PAt.far_t HPS.out)).trans ((bA.cell (p := ⟨Y, 1, none⟩) zYS).trans qy); have fY5 : w5.frozen? ⟨Y, 1, none⟩ = false := (hg5.frozen_far ⟨Y, 1, none⟩ (by simp; omega) (PAt.far_t HPS.out)).trans ((bA.frozen (p := ⟨Y, 1, none⟩) zYS).trans gy)
  refine shutK_off hK (by decide) ?_
  clear hK K
  try simp only [List.getElem_toArray, List.getElem_cons_zero, List.getElem_cons_succ, Act.put, List.setIfInBounds_toArray, List.set_cons_zero, List.set_cons_succ]
  have hstep := HPS.out.addT hBS b bA hg5 hown5 (by simpa using hat5)
  have HS := Lib.hid hstep
  clear hstep hown5 hg5 hat5 hown hnews hone bA
  refine wpAnyK_ready (rs := [11]) (by kernel_rfl) (by simp) ?_
  refine AllReadyK.cons rfl (fun K hK => ?_) AllReadyK.nil
  go_simp
  skip
  refine shutK_off hK (by decide) ?_
  clear hK K
  try simp only [List.getElem_toArray, List.getElem_cons_zero, List.getElem_cons_succ, Act.put, List.setIfInBounds_toArray, List.set_cons_zero, List.set_cons_succ]
  refine wpAnyK_ready (rs := [12]) (by kernel_rfl) (by simp) ?_
  refine AllReadyK.cons rfl (fun K hK => ?_) AllReadyK.nil
  go_simp
  skip
  refine shutK_off hK (by decide) ?_
  clear hK K
  try simp only [List.getElem_toArray, List.getElem_cons_zero, List.getElem_cons_succ, Act.put, List.setIfInBounds_toArray, List.set_cons_zero, List.set_cons_succ]
  refine wpAnyK_ready (rs := [13]) (by kernel_rfl) (by simp) ?_
  refine AllReadyK.cons rfl (fun K hK => ?_) AllReadyK.nil
  go_simp
  skip
  refine shutK_off hK (by decide) ?_
  clear hK K
  try simp only [List.getElem_toArray, List.getElem_cons_zero, List.getElem_cons_succ, Act.put, List.setIfInBounds_toArray, List.set_cons_zero, List.set_cons_succ]
  refine wpAnyK_ready (rs := [14]) (by kernel_rfl) (by simp) ?_
  refine AllReadyK.cons rfl (fun K hK => ?_) AllReadyK.nil
  go_simp
  skip
  refine shutK_off hK (by decide) ?_
  clear hK K
  try simp only [List.getElem_toArray, List.getElem_cons_zero, List.getElem_cons_succ, Act.put, List.setIfInBounds_toArray, List.set_cons_zero, List.set_cons_succ]
  refine wpAnyK_done (by kernel_rfl) ?_ _
  refine NoPanic.normal ?_
  go_wp2_with fail
  go_ret
  exact ⟨_, _, _, _, rfl, HS.out.1, (HBS.out.mono hbz).trans HS.out.2⟩
set_option maxHeartbeats 8000000 in
theorem read_nick (B Y : Nat) (vf vt vn vs : Value) (s : SchemaL) (wv : Value) (b c : List UInt8) (w : World) (h : PAt B Y vf vt vn vs s w) (hw : Vec w Any1 1 encS wv [nickW, b, c]) (hbz : B ≤ w.heap.size) (hb0 : [] ∉ [nickW, b, c]) (hl : s.rules.nicks.length ≤ 1000000) :
    Calls Tryz.prog 73 #[.pointer (some ⟨Y, 0, none⟩), wv] w (ReadPost B Y (2, addN s (b, c)) w) := by
  obtain ⟨bw, ow, cw, rfl, hbw, c0, c1, c2⟩ := words_three hw
  have HH := Lib.hid h; have HW := Lib.hid hw
  have HE := Lib.hid (show hasB [nickW, b, c] [] = false by rw [has_empty]; simpa using hb0)
  obtain ⟨ax, cx, rfl⟩ := own_slice h.n
  obtain ⟨p0, p1, p2, p3⟩ := cells4 h.y
  have fY := (frozen_of_row _ _ _ _ _ h.y : w.frozen? ⟨Y, 2, none⟩ = false)
  have zY := lt_of_blk h.y
  clear h hw hb0
  unfold nickW at c0 HW
  go_enter Tryz.func73, Tryz.ntmps73
  go_wp2_with fail
  refine (contains_any Any1 _ [nickW, b, c] [] _ (HW.out.below ((Below.refl _ _).alloc (Nat.le_refl _) _)) (by simp)).mono ?_
  rw [HE.out]
  rintro e w1 ⟨rfl, rfl⟩
  go_wp2_with fail
  obtain ⟨i0, hi, hz0, hz1, hz2⟩ := info_parts infoP
  have HI := Lib.hid hi; have HZ0 := Lib.hid hz0; have HZ1 := Lib.hid hz1; have HZ2 := Lib.hid hz2
  refine wp_world (fun wS hS => ?_)
  have zS : wS.heap.size = w.heap.size + 1 := by rw [hS]; simp
  have bS : Below w.heap.size w wS := by rw [hS]; exact (Below.refl _ _).alloc (Nat.le_refl _) _
  have qy := (bS.cell (p := ⟨Y, 2, none⟩) zY).trans p2
  have gy := (bS.frozen (p := ⟨Y, 2, none⟩) zY).trans fY
  have qw : wS.cell? ⟨w.heap.size, 0, none⟩ = some (.slice (some ⟨bw, ow, none⟩) 3 cw) := by rw [hS]; simp
  have q1 := (bS.cell (p := ⟨bw, ow + 1, none⟩) hbw).trans c1
  have q2 := (bS.cell (p := ⟨bw, ow + 2, none⟩) hbw).trans c2
  have zYS : Y < wS.heap.size := by omega
  have zbS : bw < wS.heap.size := by omega
  have HPS := Lib.hid (HH.out.below bS)
  have HBS := Lib.hid bS
  have zW : w.heap.size < wS.heap.size := by omega
  have hBS : B ≤ wS.heap.size := by omega
  clear hS bS p0 p1 p2 p3 fY zY hbw c0 HW HH HE c1 c2 zS
  refine wp_region_noPanic ?_
  refine wp_region_k (by kernel_rfl) (fun w' => w'.cell? ⟨Y, 2, none⟩ = some (.slice ax s.rules.nicks.length cx) ∧ w'.cell? ⟨w.heap.size, 0, none⟩ = some (.slice (some ⟨bw, ow, none⟩) 3 cw) ∧ w'.cell? ⟨bw, ow + 1, none⟩ = some (strV b) ∧ w'.cell? ⟨bw, ow + 2, none⟩ = some (strV c)) 14 (⟨qy, qw, q1, q2⟩) (fun hHeld => ?_)
  refine wpAnyK_take0 (i := 0) (v := ?_) rfl (by kernel_rfl) (by kernel_rfl) (by kernel_rfl) (by decide) (fun _ _ _ h => h) (Or.inl ⟨by rfl, ?_⟩) (by first | exact fun _ => by assumption | exact fun h => absurd h (by decide)) ?_
  rotate_left 1
  · (intro wS hSw; (try dsimp only at hSw); go_simp; try with_reducible rfl)
  try simp only [List.getElem_toArray, List.getElem_cons_zero, List.getElem_cons_succ, Act.put, List.setIfInBounds_toArray, List.set_cons_zero, List.set_cons_succ]
  refine wpAnyK_take (i := 1) (v := ?_) rfl (by kernel_rfl) (by kernel_rfl) (by kernel_rfl) (by kernel_rfl) (fun _ _ _ h => h) (Or.inl ⟨by rfl, ?_⟩) (by assumption) ?_
  rotate_left 1
  · (intro wS hSw; (try dsimp only at hSw); go_simp; try with_reducible rfl)
  try simp only [List.getElem_toArray, List.getElem_cons_zero, List.getElem_cons_succ, Act.put, List.setIfInBounds_toArray, List.set_cons_zero, List.set_cons_succ]
  refine wpAnyK_take (i := 2) (v := ?_) rfl (by kernel_rfl) (by kernel_rfl) (by kernel_rfl) (by kernel_rfl) (fun _ _ _ h => h) (Or.inl ⟨by rfl, ?_⟩) (by assumption) ?_
  rotate_left 1
  · (intro wS hSw; (try dsimp only at hSw); go_simp; try with_reducible rfl)
  try simp only [List.getElem_toArray, List.getElem_cons_zero, List.getElem_cons_succ, Act.put, List.setIfInBounds_toArray, List.set_cons_zero, List.set_cons_succ]
  refine wpAnyK_take (i := 3) (v := ?_) rfl (by kernel_rfl) (by kernel_rfl) (by kernel_rfl) (by kernel_rfl) (fun _ _ _ h => h) (Or.inl ⟨by rfl, ?_⟩) (by assumption) ?_
  rotate_left 1
  · (intro wS hSw; (try dsimp only at hSw); go_simp; try with_reducible rfl)
  try simp only [List.getElem_toArray, List.getElem_cons_zero, List.getElem_cons_succ, Act.put, List.setIfInBounds_toArray, List.set_cons_zero, List.set_cons_succ]
  refine wpAnyK_take (i := 4) (v := ?_) rfl (by kernel_rfl) (by kernel_rfl) (by kernel_rfl) (by kernel_rfl) (fun _ _ _ h => h) (Or.inl ⟨by rfl, ?_⟩) (by assumption) ?_
  rotate_left 1
  · (intro wS hSw; (try dsimp only at hSw); go_simp; try with_reducible rfl)
  try simp only [List.getElem_toArray, List.getElem_cons_zero, List.getElem_cons_succ, Act.put, List.setIfInBounds_toArray, List.set_cons_zero, List.set_cons_succ]
  refine wpAnyK_take (i := 5) (v := ?_) rfl (by kernel_rfl) (by kernel_rfl) (by kernel_rfl) (by kernel_rfl) (fun _ _ _ h => h) (Or.inl ⟨by rfl, ?_⟩) (by assumption) ?_
  rotate_left 1
  · (intro wS hSw; (try dsimp only at hSw); go_simp; try with_reducible rfl)
  try simp only [List.getElem_toArray, List.getElem_cons_zero, List.getElem_cons_succ, Act.put, List.setIfInBounds_toArray, List.set_cons_zero, List.set_cons_succ]
  refine wpAnyK_take (i := 6) (v := ?_) rfl (by kernel_rfl) (by kernel_rfl) (by kernel_rfl) (by kernel_rfl) (fun _ _ _ h => h) (Or.inl ⟨by rfl, ?_⟩) (by assumption) ?_
  rotate_left 1
  · (intro wS hSw; (try dsimp only at hSw); go_simp; try with_reducible rfl)
  try simp only [List.getElem_toArray, List.getElem_cons_zero, List.getElem_cons_succ, Act.put, List.setIfInBounds_toArray, List.set_cons_zero, List.set_cons_succ]
  refine wpAnyK_take (i := 7) (v := ?_) rfl (by kernel_rfl) (by kernel_rfl) (by kernel_rfl) (by kernel_rfl) (fun _ _ _ h => h) (Or.inl ⟨by rfl, ?_⟩) (by assumption) ?_
  rotate_left 1
  · (intro wS hSw; (try dsimp only at hSw); go_simp; try with_reducible rfl)
  try simp only [List.getElem_toArray, List.getElem_cons_zero, List.getElem_cons_succ, Act.put, List.setIfInBounds_toArray, List.set_cons_zero, List.set_cons_succ]
  refine wpAnyK_take (i := 8) (v := ?_) rfl (by kernel_rfl) (by kernel_rfl) (by kernel_rfl) (by kernel_rfl) (fun _ _ _ h => h) (Or.inl ⟨by rfl, ?_⟩) (by assumption) ?_
  rotate_left 1
  · (intro wS hSw; (try dsimp only at hSw); go_simp; try with_reducible rfl)
  try simp only [List.getElem_toArray, List.getElem_cons_zero, List.getElem_cons_succ, Act.put, List.setIfInBounds_toArray, List.set_cons_zero, List.set_cons_succ]
  refine wpAnyK_take (i := 9) (v := ?_) rfl (by kernel_rfl) (by kernel_rfl) (by kernel_rfl) (by kernel_rfl) (fun _ _ _ h => h) (Or.inl ⟨by rfl, ?_⟩) (by assumption) ?_
  rotate_left 1
  · (intro wS hSw; (try dsimp only at hSw); go_simp; try with_reducible rfl)
  try simp only [List.getElem_toArray, List.getElem_cons_zero, List.getElem_cons_succ, Act.put, List.setIfInBounds_toArray, List.set_cons_zero, List.set_cons_succ]
  refine wpAnyK_take (i := 10) (v := ?_) rfl (by kernel_rfl) (by kernel_rfl) (by kernel_rfl) (by kernel_rfl) (fun _ _ _ h => h) (Or.inl ⟨by rfl, ?_⟩) (by assumption) ?_
  rotate_left 1
  · (intro wS hSw; (try dsimp only at hSw); go_simp; try with_reducible rfl)
  try simp only [List.getElem_toArray, List.getElem_cons_zero, List.getElem_cons_succ, Act.put, List.setIfInBounds_toArray, List.set_cons_zero, List.set_cons_succ]
  refine wpAnyK_take (i := 11) (v := ?_) rfl (by kernel_rfl) (by kernel_rfl) (by kernel_rfl) (by kernel_rfl) (fun _ _ _ h => h) (Or.inl ⟨by rfl, ?_⟩) (by assumption) ?_
  rotate_left 1
  · (intro wS hSw; (try dsimp only at hSw); go_simp; try with_reducible rfl)
  try simp only [List.getElem_toArray, List.getElem_cons_zero, List.getElem_cons_succ, Act.put, List.setIfInBounds_toArray, List.set_cons_zero, List.set_cons_succ]
  refine wpAnyK_take (i := 12) (v := ?_) rfl (by kernel_rfl) (by kernel_rfl) (by kernel_rfl) (by kernel_rfl) (fun _ _ _ h => h) (Or.inl ⟨by rfl, ?_⟩) (by assumption) ?_
  rotate_left 1
  · (intro wS hSw; (try dsimp only at hSw); go_simp; try with_reducible rfl)
  try simp only [List.getElem_toArray, List.getElem_cons_zero, List.getElem_cons_succ, Act.put, List.setIfInBounds_toArray, List.set_cons_zero, List.set_cons_succ]
  have bA := ((Below.refl wS.heap.size wS).drew).alloc (Nat.le_refl _) (.cells #[strV b, strV c] 83)
  have hown := own_below HPS.out.n bA
  have hnews : ∀ j u, [strV b, strV c][j]? = some u → ((wS.drew).alloc (.cells #[strV b, strV c] 83)).cell? ((⟨wS.heap.size, 0, none⟩ : Addr).add j) = some u := fun j u hu => by
    have hX : ((wS.drew).alloc (.cells #[strV b, strV c] 83)).heap[wS.heap.size]? = some (.cells #[strV b, strV c] 83 (0, 0)) := blk_new rfl
    rw [add_plain, cell_of_row _ _ _ _ _ _ hX, Nat.zero_add]; simpa using hu
  have hone : ∀ u ∈ [strV b, strV c], u.oneCell' = true := by intro u hu; simp at hu; rcases hu with rfl | rfl <;> rfl
  refine wpAnyK_ready (rs := [13]) (by kernel_rfl) (by simp) ?_
  refine AllReadyK.cons rfl (fun K hK => ?_) AllReadyK.nil
  go_simp
  skip
  refine shutK hK (⟨(bA.cell (p := ⟨Y, 2, none⟩) zYS).trans qy, (bA.cell (p := ⟨w.heap.size, 0, none⟩) zW).trans qw, (bA.cell (p := ⟨bw, ow + 1, none⟩) zbS).trans q1, (bA.cell (p := ⟨bw, ow + 2, none⟩) zbS).trans q2⟩) (fun hHeld => ?_)
  clear hK K
  try simp only [List.getElem_toArray, List.getElem_cons_zero, List.getElem_cons_succ, Act.put, List.setIfInBounds_toArray, List.set_cons_zero, List.set_cons_succ]
  refine wpAnyK_ready (rs := [14]) (by kernel_rfl) (by simp) ?_
  refine AllReadyK.cons rfl (fun K hK => ?_) AllReadyK.nil
  refine wp_append_lies _ (.tmp 78) (.tmp 86) 29 (by rfl) B 83 i0 (.agg #[.string ⟨#[]⟩, .string ⟨#[]⟩]) 2 32 Tryz.underlying29 HI.out HZ0.out HZ1.out HZ2.out rfl (by decide) (.slice ax s.rules.nicks.length cx) s.rules.nicks.length (s.rules.nicks.flatMap encP) (by rfl) hown ⟨wS.heap.size, 0, none⟩ 1 1 [strV b, strV c] (by rfl) rfl hnews hone (by omega) (by unfold maxLen; omega) (by omega) (by simp; omega) (wS.heap.size + 1) (by simp) ?_; intro g cap w5 hown5 hg5 hat5 hlt5; have cY5 : w5.cell? ⟨Y, 2, none⟩ = some (.slice ax s.rules.nicks.length cx) := (hg5.cell_far ⟨Y, 2, none⟩ (by simp; omega) (PAt.far_n HPS.out)).trans ((bA.cell (p := ⟨Y, 2, none⟩) zYS).trans qy); have fY5 : w5.frozen? ⟨Y, 2, none⟩ = false := (hg5.frozen_far ⟨Y, 2, none⟩ (by simp; omega) (PAt.far_n HPS.out)).trans ((bA.frozen (p := ⟨Y, 2, none⟩) zYS).trans gy)
  refine shutK_off hK (by decide) ?_
  clear hK K
  try simp only [List.getElem_toArray, List.getElem_cons_zero, List.getElem_cons_succ, Act.put, List.setIfInBounds_toArray, List.set_cons_zero, List.set_cons_succ]
  have hstep := HPS.out.addN hBS (b, c) bA hg5 hown5 (by simpa using hat5)
  have HS := Lib.hid hstep
  clear hstep hown5 hg5 hat5 hown hnews hone bA
  refine wpAnyK_ready (rs := [15]) (by kernel_rfl) (by simp) ?_
  refine AllReadyK.cons rfl (fun K hK => ?_) AllReadyK.nil
  go_simp
  skip
  refine shutK_off hK (by decide) ?_
  clear hK K
  try simp only [List.getElem_toArray, List.getElem_cons_zero, List.getElem_cons_succ, Act.put, List.setIfInBounds_toArray, List.set_cons_zero, List.set_cons_succ]
  refine wpAnyK_ready (rs := [16]) (by kernel_rfl) (by simp) ?_
  refine AllReadyK.cons rfl (fun K hK => ?_) AllReadyK.nil
  go_simp
  skip
  refine shutK_off hK (by decide) ?_
  clear hK K
  try simp only [List.getElem_toArray, List.getElem_cons_zero, List.getElem_cons_succ, Act.put, List.setIfInBounds_toArray, List.set_cons_zero, List.set_cons_succ]
  refine wpAnyK_ready (rs := [17]) (by kernel_rfl) (by simp) ?_
  refine AllReadyK.cons rfl (fun K hK => ?_) AllReadyK.nil
  go_simp
  skip
  refine shutK_off hK (by decide) ?_
  clear hK K
  try simp only [List.getElem_toArray, List.getElem_cons_zero, List.getElem_cons_succ, Act.put, List.setIfInBounds_toArray, List.set_cons_zero, List.set_cons_succ]
  refine wpAnyK_ready (rs := [18]) (by kernel_rfl) (by simp) ?_
  refine AllReadyK.cons rfl (fun K hK => ?_) AllReadyK.nil
  go_simp
  skip
  refine shutK_off hK (by decide) ?_
  clear hK K
  try simp only [List.getElem_toArray, List.getElem_cons_zero, List.getElem_cons_succ, Act.put, List.setIfInBounds_toArray, List.set_cons_zero, List.set_cons_succ]
  refine wpAnyK_done (by kernel_rfl) ?_ _
  refine NoPanic.normal ?_
  go_wp2_with fail
  go_ret
  exact ⟨_, _, _, _, rfl, HS.out.1, (HBS.out.mono hbz).trans HS.out.2⟩
set_option maxHeartbeats 8000000 in
theorem read_street (B Y : Nat) (vf vt vn vs : Value) (s : SchemaL) (wv : Value) (b c : List UInt8) (w : World) (h : PAt B Y vf vt vn vs s w) (hw : Vec w Any1 1 encS wv [streetW, b, c]) (hbz : B ≤ w.heap.size) (hb0 : [] ∉ [streetW, b, c]) (hl : s.rules.streets.length ≤ 1000000) :
    Calls Tryz.prog 73 #[.pointer (some ⟨Y, 0, none⟩), wv] w (ReadPost B Y (3, addS s (b, c)) w) := by
  obtain ⟨bw, ow, cw, rfl, hbw, c0, c1, c2⟩ := words_three hw
  have HH := Lib.hid h; have HW := Lib.hid hw
  have HE := Lib.hid (show hasB [streetW, b, c] [] = false by rw [has_empty]; simpa using hb0)
  obtain ⟨ax, cx, rfl⟩ := own_slice h.s
  obtain ⟨p0, p1, p2, p3⟩ := cells4 h.y
  have fY := (frozen_of_row _ _ _ _ _ h.y : w.frozen? ⟨Y, 3, none⟩ = false)
  have zY := lt_of_blk h.y
  clear h hw hb0
  unfold streetW at c0 HW
  go_enter Tryz.func73, Tryz.ntmps73
  go_wp2_with fail
  refine (contains_any Any1 _ [streetW, b, c] [] _ (HW.out.below ((Below.refl _ _).alloc (Nat.le_refl _) _)) (by simp)).mono ?_
  rw [HE.out]
  rintro e w1 ⟨rfl, rfl⟩
  go_wp2_with fail
  obtain ⟨i0, hi, hz0, hz1, hz2⟩ := info_parts infoP
  have HI := Lib.hid hi; have HZ0 := Lib.hid hz0; have HZ1 := Lib.hid hz1; have HZ2 := Lib.hid hz2
  refine wp_world (fun wS hS => ?_)
  have zS : wS.heap.size = w.heap.size + 1 := by rw [hS]; simp
  have bS : Below w.heap.size w wS := by rw [hS]; exact (Below.refl _ _).alloc (Nat.le_refl _) _
  have qy := (bS.cell (p := ⟨Y, 3, none⟩) zY).trans p3
  have gy := (bS.frozen (p := ⟨Y, 3, none⟩) zY).trans fY
  have qw : wS.cell? ⟨w.heap.size, 0, none⟩ = some (.slice (some ⟨bw, ow, none⟩) 3 cw) := by rw [hS]; simp
  have q1 := (bS.cell (p := ⟨bw, ow + 1, none⟩) hbw).trans c1
  have q2 := (bS.cell (p := ⟨bw, ow + 2, none⟩) hbw).trans c2
  have zYS : Y < wS.heap.size := by omega
  have zbS : bw < wS.heap.size := by omega
  have HPS := Lib.hid (HH.out.below bS)
  have HBS := Lib.hid bS
  have zW : w.heap.size < wS.heap.size := by omega
  have hBS : B ≤ wS.heap.size := by omega
  clear hS bS p0 p1 p2 p3 fY zY hbw c0 HW HH HE c1 c2 zS
  refine wp_region_noPanic ?_
  refine wp_region_k (by kernel_rfl) (fun w' => w'.cell? ⟨Y, 3, none⟩ = some (.slice ax s.rules.streets.length cx) ∧ w'.cell? ⟨w.heap.size, 0, none⟩ = some (.slice (some ⟨bw, ow, none⟩) 3 cw) ∧ w'.cell? ⟨bw, ow + 1, none⟩ = some (strV b) ∧ w'.cell? ⟨bw, ow + 2, none⟩ = some (strV c)) 14 (⟨qy, qw, q1, q2⟩) (fun hHeld => ?_)
  refine wpAnyK_take0 (i := 0) (v := ?_) rfl (by kernel_rfl) (by kernel_rfl) (by kernel_rfl) (by decide) (fun _ _ _ h => h) (Or.inl ⟨by rfl, ?_⟩) (by first | exact fun _ => by assumption | exact fun h => absurd h (by decide)) ?_
  rotate_left 1
  · (intro wS hSw; (try dsimp only at hSw); go_simp; try with_reducible rfl)
  try simp only [List.getElem_toArray, List.getElem_cons_zero, List.getElem_cons_succ, Act.put, List.setIfInBounds_toArray, List.set_cons_zero, List.set_cons_succ]
  refine wpAnyK_take (i := 1) (v := ?_) rfl (by kernel_rfl) (by kernel_rfl) (by kernel_rfl) (by kernel_rfl) (fun _ _ _ h => h) (Or.inl ⟨by rfl, ?_⟩) (by assumption) ?_
  rotate_left 1
  · (intro wS hSw; (try dsimp only at hSw); go_simp; try with_reducible rfl)
  try simp only [List.getElem_toArray, List.getElem_cons_zero, List.getElem_cons_succ, Act.put, List.setIfInBounds_toArray, List.set_cons_zero, List.set_cons_succ]
  refine wpAnyK_take (i := 2) (v := ?_) rfl (by kernel_rfl) (by kernel_rfl) (by kernel_rfl) (by kernel_rfl) (fun _ _ _ h => h) (Or.inl ⟨by rfl, ?_⟩) (by assumption) ?_
  rotate_left 1
  · (intro wS hSw; (try dsimp only at hSw); go_simp; try with_reducible rfl)
  try simp only [List.getElem_toArray, List.getElem_cons_zero, List.getElem_cons_succ, Act.put, List.setIfInBounds_toArray, List.set_cons_zero, List.set_cons_succ]
  refine wpAnyK_take (i := 3) (v := ?_) rfl (by kernel_rfl) (by kernel_rfl) (by kernel_rfl) (by kernel_rfl) (fun _ _ _ h => h) (Or.inl ⟨by rfl, ?_⟩) (by assumption) ?_
  rotate_left 1
  · (intro wS hSw; (try dsimp only at hSw); go_simp; try with_reducible rfl)
  try simp only [List.getElem_toArray, List.getElem_cons_zero, List.getElem_cons_succ, Act.put, List.setIfInBounds_toArray, List.set_cons_zero, List.set_cons_succ]
  refine wpAnyK_take (i := 4) (v := ?_) rfl (by kernel_rfl) (by kernel_rfl) (by kernel_rfl) (by kernel_rfl) (fun _ _ _ h => h) (Or.inl ⟨by rfl, ?_⟩) (by assumption) ?_
  rotate_left 1
  · (intro wS hSw; (try dsimp only at hSw); go_simp; try with_reducible rfl)
  try simp only [List.getElem_toArray, List.getElem_cons_zero, List.getElem_cons_succ, Act.put, List.setIfInBounds_toArray, List.set_cons_zero, List.set_cons_succ]
  refine wpAnyK_take (i := 5) (v := ?_) rfl (by kernel_rfl) (by kernel_rfl) (by kernel_rfl) (by kernel_rfl) (fun _ _ _ h => h) (Or.inl ⟨by rfl, ?_⟩) (by assumption) ?_
  rotate_left 1
  · (intro wS hSw; (try dsimp only at hSw); go_simp; try with_reducible rfl)
  try simp only [List.getElem_toArray, List.getElem_cons_zero, List.getElem_cons_succ, Act.put, List.setIfInBounds_toArray, List.set_cons_zero, List.set_cons_succ]
  refine wpAnyK_take (i := 6) (v := ?_) rfl (by kernel_rfl) (by kernel_rfl) (by kernel_rfl) (by kernel_rfl) (fun _ _ _ h => h) (Or.inl ⟨by rfl, ?_⟩) (by assumption) ?_
  rotate_left 1
  · (intro wS hSw; (try dsimp only at hSw); go_simp; try with_reducible rfl)
  try simp only [List.getElem_toArray, List.getElem_cons_zero, List.getElem_cons_succ, Act.put, List.setIfInBounds_toArray, List.set_cons_zero, List.set_cons_succ]
  refine wpAnyK_take (i := 7) (v := ?_) rfl (by kernel_rfl) (by kernel_rfl) (by kernel_rfl) (by kernel_rfl) (fun _ _ _ h => h) (Or.inl ⟨by rfl, ?_⟩) (by assumption) ?_
  rotate_left 1
  · (intro wS hSw; (try dsimp only at hSw); go_simp; try with_reducible rfl)
  try simp only [List.getElem_toArray, List.getElem_cons_zero, List.getElem_cons_succ, Act.put, List.setIfInBounds_toArray, List.set_cons_zero, List.set_cons_succ]
  refine wpAnyK_take (i := 8) (v := ?_) rfl (by kernel_rfl) (by kernel_rfl) (by kernel_rfl) (by kernel_rfl) (fun _ _ _ h => h) (Or.inl ⟨by rfl, ?_⟩) (by assumption) ?_
  rotate_left 1
  · (intro wS hSw; (try dsimp only at hSw); go_simp; try with_reducible rfl)
  try simp only [List.getElem_toArray, List.getElem_cons_zero, List.getElem_cons_succ, Act.put, List.setIfInBounds_toArray, List.set_cons_zero, List.set_cons_succ]
  refine wpAnyK_take (i := 9) (v := ?_) rfl (by kernel_rfl) (by kernel_rfl) (by kernel_rfl) (by kernel_rfl) (fun _ _ _ h => h) (Or.inl ⟨by rfl, ?_⟩) (by assumption) ?_
  rotate_left 1
  · (intro wS hSw; (try dsimp only at hSw); go_simp; try with_reducible rfl)
  try simp only [List.getElem_toArray, List.getElem_cons_zero, List.getElem_cons_succ, Act.put, List.setIfInBounds_toArray, List.set_cons_zero, List.set_cons_succ]
  refine wpAnyK_take (i := 10) (v := ?_) rfl (by kernel_rfl) (by kernel_rfl) (by kernel_rfl) (by kernel_rfl) (fun _ _ _ h => h) (Or.inl ⟨by rfl, ?_⟩) (by assumption) ?_
  rotate_left 1
  · (intro wS hSw; (try dsimp only at hSw); go_simp; try with_reducible rfl)
  try simp only [List.getElem_toArray, List.getElem_cons_zero, List.getElem_cons_succ, Act.put, List.setIfInBounds_toArray, List.set_cons_zero, List.set_cons_succ]
  refine wpAnyK_take (i := 11) (v := ?_) rfl (by kernel_rfl) (by kernel_rfl) (by kernel_rfl) (by kernel_rfl) (fun _ _ _ h => h) (Or.inl ⟨by rfl, ?_⟩) (by assumption) ?_
  rotate_left 1
  · (intro wS hSw; (try dsimp only at hSw); go_simp; try with_reducible rfl)
  try simp only [List.getElem_toArray, List.getElem_cons_zero, List.getElem_cons_succ, Act.put, List.setIfInBounds_toArray, List.set_cons_zero, List.set_cons_succ]
  refine wpAnyK_take (i := 12) (v := ?_) rfl (by kernel_rfl) (by kernel_rfl) (by kernel_rfl) (by kernel_rfl) (fun _ _ _ h => h) (Or.inl ⟨by rfl, ?_⟩) (by assumption) ?_
  rotate_left 1
  · (intro wS hSw; (try dsimp only at hSw); go_simp; try with_reducible rfl)
  try simp only [List.getElem_toArray, List.getElem_cons_zero, List.getElem_cons_succ, Act.put, List.setIfInBounds_toArray, List.set_cons_zero, List.set_cons_succ]
  have bA := ((Below.refl wS.heap.size wS).drew).alloc (Nat.le_refl _) (.cells #[strV b, strV c] 83)
  have hown := own_below HPS.out.s bA
  have hnews : ∀ j u, [strV b, strV c][j]? = some u → ((wS.drew).alloc (.cells #[strV b, strV c] 83)).cell? ((⟨wS.heap.size, 0, none⟩ : Addr).add j) = some u := fun j u hu => by
    have hX : ((wS.drew).alloc (.cells #[strV b, strV c] 83)).heap[wS.heap.size]? = some (.cells #[strV b, strV c] 83 (0, 0)) := blk_new rfl
    rw [add_plain, cell_of_row _ _ _ _ _ _ hX, Nat.zero_add]; simpa using hu
  have hone : ∀ u ∈ [strV b, strV c], u.oneCell' = true := by intro u hu; simp at hu; rcases hu with rfl | rfl <;> rfl
  refine wpAnyK_ready (rs := [13]) (by kernel_rfl) (by simp) ?_
  refine AllReadyK.cons rfl (fun K hK => ?_) AllReadyK.nil
  go_simp
  skip
  refine shutK hK (⟨(bA.cell (p := ⟨Y, 3, none⟩) zYS).trans qy, (bA.cell (p := ⟨w.heap.size, 0, none⟩) zW).trans qw, (bA.cell (p := ⟨bw, ow + 1, none⟩) zbS).trans q1, (bA.cell (p := ⟨bw, ow + 2, none⟩) zbS).trans q2⟩) (fun hHeld => ?_)
  clear hK K
  try simp only [List.getElem_toArray, List.getElem_cons_zero, List.getElem_cons_succ, Act.put, List.setIfInBounds_toArray, List.set_cons_zero, List.set_cons_succ]
  refine wpAnyK_ready (rs := [14]) (by kernel_rfl) (by simp) ?_
  refine AllReadyK.cons rfl (fun K hK => ?_) AllReadyK.nil
  refine wp_append_lies _ (.tmp 106) (.tmp 114) 29 (by rfl) B 83 i0 (.agg #[.string ⟨#[]⟩, .string ⟨#[]⟩]) 2 32 Tryz.underlying29 HI.out HZ0.out HZ1.out HZ2.out rfl (by decide) (.slice ax s.rules.streets.length cx) s.rules.streets.length (s.rules.streets.flatMap encP) (by rfl) hown ⟨wS.heap.size, 0, none⟩ 1 1 [strV b, strV c] (by rfl) rfl hnews hone (by omega) (by unfold maxLen; omega) (by omega) (by simp; omega) (wS.heap.size + 1) (by simp) ?_; intro g cap w5 hown5 hg5 hat5 hlt5; have cY5 : w5.cell? ⟨Y, 3, none⟩ = some (.slice ax s.rules.streets.length cx) := (hg5.cell_far ⟨Y, 3, none⟩ (by simp; omega) (PAt.far_s HPS.out)).trans ((bA.cell (p := ⟨Y, 3, none⟩) zYS).trans qy); have fY5 : w5.frozen? ⟨Y, 3, none⟩ = false := (hg5.frozen_far ⟨Y, 3, none⟩ (by simp; omega) (PAt.far_s HPS.out)).trans ((bA.frozen (p := ⟨Y, 3, none⟩) zYS).trans gy)
  refine shutK_off hK (by decide) ?_
  clear hK K
  try simp only [List.getElem_toArray, List.getElem_cons_zero, List.getElem_cons_succ, Act.put, List.setIfInBounds_toArray, List.set_cons_zero, List.set_cons_succ]
  have hstep := HPS.out.addS hBS (b, c) bA hg5 hown5 (by simpa using hat5)
  have HS := Lib.hid hstep
  clear hstep hown5 hg5 hat5 hown hnews hone bA
  refine wpAnyK_ready (rs := [15]) (by kernel_rfl) (by simp) ?_
  refine AllReadyK.cons rfl (fun K hK => ?_) AllReadyK.nil
  go_simp
  skip
  refine shutK_off hK (by decide) ?_
  clear hK K
  try simp only [List.getElem_toArray, List.getElem_cons_zero, List.getElem_cons_succ, Act.put, List.setIfInBounds_toArray, List.set_cons_zero, List.set_cons_succ]
  refine wpAnyK_ready (rs := [16]) (by kernel_rfl) (by simp) ?_
  refine AllReadyK.cons rfl (fun K hK => ?_) AllReadyK.nil
  go_simp
  skip
  refine shutK_off hK (by decide) ?_
  clear hK K
  try simp only [List.getElem_toArray, List.getElem_cons_zero, List.getElem_cons_succ, Act.put, List.setIfInBounds_toArray, List.set_cons_zero, List.set_cons_succ]
  refine wpAnyK_ready (rs := [17]) (by kernel_rfl) (by simp) ?_
  refine AllReadyK.cons rfl (fun K hK => ?_) AllReadyK.nil
  go_simp
  skip
  refine shutK_off hK (by decide) ?_
  clear hK K
  try simp only [List.getElem_toArray, List.getElem_cons_zero, List.getElem_cons_succ, Act.put, List.setIfInBounds_toArray, List.set_cons_zero, List.set_cons_succ]
  refine wpAnyK_ready (rs := [18]) (by kernel_rfl) (by simp) ?_
  refine AllReadyK.cons rfl (fun K hK => ?_) AllReadyK.nil
  go_simp
  skip
  refine shutK_off hK (by decide) ?_
  clear hK K
  try simp only [List.getElem_toArray, List.getElem_cons_zero, List.getElem_cons_succ, Act.put, List.setIfInBounds_toArray, List.set_cons_zero, List.set_cons_succ]
  refine wpAnyK_done (by kernel_rfl) ?_ _
  refine NoPanic.normal ?_
  go_wp2_with fail
  go_ret
  exact ⟨_, _, _, _, rfl, HS.out.1, (HBS.out.mono hbz).trans HS.out.2⟩
-- END
theorem pred_read (c : List UInt8) (B0 bw ow cw : Nat) (w : World) (hB : B0 < w.heap.size) (hbw : bw < w.heap.size) (h0 : w.cell? ⟨B0, 0, none⟩ = some (.slice (some ⟨bw, ow, none⟩) 3 cw)) (h2 : w.cell? ⟨bw, ow + 2, none⟩ = some (strV c)) :
    PredAt Tryz.prog 122 #[.pointer (some ⟨B0, 0, none⟩)] strV (fun x => x == c) w := fun W x hb => by
  have h0' : W.cell? ⟨B0, 0, none⟩ = some (.slice (some ⟨bw, ow, none⟩) 3 cw) := (hb.cell (p := ⟨B0, 0, none⟩) hB).trans h0
  have h2' : W.cell? ⟨bw, ow + 2, none⟩ = some (strV c) := (hb.cell (p := ⟨bw, ow + 2, none⟩) hbw).trans h2
  clear hb h0 h2 hB hbw
  show Calls Tryz.prog 122 #[strV x, .pointer (some ⟨B0, 0, none⟩)] W _
  go_enter Tryz.func122, Tryz.ntmps122
  go_wp2
  go_ret
  exact ⟨rfl, 0, rfl⟩
theorem idx_words (v : Value) (g : Nat) (lb : Array Value) (eg : ∀ args w, (callFunc g args).run Tryz.prog w = .ok (.enter g args) w) (c : List UInt8) (w0 w : World) (ho : OwnAt w0 v wordsL w) (hp : PredAt Tryz.prog g lb strV (fun x => x == c) w) :
    Calls Tryz.prog 119 #[v, .func (.func g) #[] lb] w fun e w' => e = .returned (.int .i64 (kindNum c - 1)) ∧ Below w.heap.size w w' := by
  have hv := Vec.owns (S := Any1) (k := 1) (enc := encS) (L := wordsL) (fun _ => rfl) ho.1 (fun _ _ _ => trivial)
  obtain ⟨a, cap, rfl⟩ := hv.slice
  obtain ⟨b, off, rfl, _, hb, hc⟩ := vec_cell1 hv (by show 0 < 4; decide)
  have h := Tryz.slices_IndexFunc strV (fun x => x == c) g lb eg b off wordsL.length cap wordsL w hp (Nat.le_refl _) (by show 4 ≤ _; omega) (fun j hj => by
    have := hc j hj
    rw [this, List.getD, List.getElem?_eq_getElem hj, getElem!_pos wordsL j hj]; rfl)
  rw [List.take_of_length_le (Nat.le_refl _), idx_kind] at h
  refine h.mono ?_
  rintro e w' ⟨rfl, q, rfl⟩
  exact ⟨rfl, below_drewN (Below.refl _ _) q⟩
set_option maxHeartbeats 8000000 in
theorem read_field (B Y : Nat) (vf vt vn vs : Value) (s : SchemaL) (wv : Value) (b c : List UInt8) (w : World) (h : PAt B Y vf vt vn vs s w) (hw : Vec w Any1 1 encS wv [fieldW, b, c]) (hbz : B ≤ w.heap.size) (hb0 : [] ∉ [fieldW, b, c]) (hl : s.fields.length ≤ 1000000) (r : Int × SchemaL) (hr : r = if kindNum c = 0 then (-1, s) else (0, addF s (b, kindNum c))) :
    Calls Tryz.prog 73 #[.pointer (some ⟨Y, 0, none⟩), wv] w (ReadPost B Y r w) := by
  obtain ⟨bw, ow, cw, rfl, hbw, c0, c1, c2⟩ := words_three hw
  have HH := Lib.hid h; have HW := Lib.hid hw
  have HE := Lib.hid (show hasB [fieldW, b, c] [] = false by rw [has_empty]; simpa using hb0)
  obtain ⟨ax, cx, rfl⟩ := own_slice h.f
  have zY := lt_of_blk h.y
  have HR := Lib.hid hr
  clear h hw hb0 hr
  unfold fieldW at c0 HW
  go_enter Tryz.func73, Tryz.ntmps73
  go_wp2_with fail
  refine (contains_any Any1 _ [fieldW, b, c] [] _ (HW.out.below ((Below.refl _ _).alloc (Nat.le_refl _) _)) (by simp)).mono ?_
  rw [HE.out]
  rintro e w1 ⟨rfl, rfl⟩
  go_wp2_with fail
  have bS := (Below.refl w.heap.size w).alloc (Nat.le_refl _) (.cells #[.slice (some ⟨bw, ow, none⟩) 3 cw] 28)
  have qw : (w.alloc (.cells #[.slice (some ⟨bw, ow, none⟩) 3 cw] 28)).cell? ⟨w.heap.size, 0, none⟩ = some (.slice (some ⟨bw, ow, none⟩) 3 cw) := by simp
  have q1 := (bS.cell (p := ⟨bw, ow + 1, none⟩) hbw).trans c1
  have q2 := (bS.cell (p := ⟨bw, ow + 2, none⟩) hbw).trans c2
  have HPS := Lib.hid (HH.out.below bS)
  have HBS := Lib.hid bS
  have zW : w.heap.size < (w.alloc (.cells #[.slice (some ⟨bw, ow, none⟩) 3 cw] 28)).heap.size := by simp
  have zbS : bw < (w.alloc (.cells #[.slice (some ⟨bw, ow, none⟩) 3 cw] 28)).heap.size := by simp; omega
  clear bS c0 HW HH HE c1 c2 zY
  refine (collect_words _).mono ?_
  rintro e w2 ⟨v, rfl, ho⟩
  have HO := Lib.hid ho
  have qw := (ho.2.cell (p := ⟨w.heap.size, 0, none⟩) zW).trans qw
  have q1 := (ho.2.cell (p := ⟨bw, ow + 1, none⟩) zbS).trans q1
  have q2 := (ho.2.cell (p := ⟨bw, ow + 2, none⟩) zbS).trans q2
  have z2 := ho.2.size
  clear ho
  go_wp2_with fail
  have eg : ∀ args w, (callFunc 122 args).run Tryz.prog w = .ok (.enter 122 args) w := enters_of Tryz.func122 (by kernel_rfl) rfl
  refine (idx_words v 122 #[.pointer (some ⟨w.heap.size, 0, none⟩)] eg c _ _ HO.out (pred_read c w.heap.size bw ow cw _ (by omega) (by omega) qw q2)).mono ?_
  rintro e w3 ⟨rfl, hb3⟩
  have HPS3 := Lib.hid (HPS.out.below (HO.out.2.trans (hb3.mono z2)))
  have HBS3 := Lib.hid (HBS.out.trans ((HO.out.2.trans (hb3.mono z2)).mono (Nat.le_of_lt zW)))
  have qw := (hb3.cell (p := ⟨w.heap.size, 0, none⟩) (by show w.heap.size < _; omega)).trans qw
  have q1 := (hb3.cell (p := ⟨bw, ow + 1, none⟩) (by show bw < _; omega)).trans q1
  have z3 := hb3.size
  clear hb3 eg HPS HBS HO q2
  by_cases hk : kindNum c = 0
  · have HK := Lib.hid hk
    rw [hk]
    clear hk
    go_wp2_with fail
    go_ret
    exact ⟨_, _, _, _, by rw [HR.out, if_pos HK.out]; rfl, by rw [HR.out, if_pos HK.out]; exact HPS3.out, HBS3.out.mono hbz⟩
  · obtain ⟨_, k1, k4⟩ := kindW_num c hk
    obtain ⟨j, hj⟩ := Int.eq_ofNat_of_zero_le (show 0 ≤ kindNum c - 1 by omega)
    have hj3 : j ≤ 3 := by omega
    have HK := Lib.hid hk
    have HJ := Lib.hid (show kindNum c = (j : Int) + 1 by omega)
    rw [hj]
    clear hk hj k1 k4
    go_wp2_with fail
    obtain ⟨i0, hi, hz0, hz1, hz2⟩ := info_parts infoF
    have HI := Lib.hid hi; have HZ0 := Lib.hid hz0; have HZ1 := Lib.hid hz1; have HZ2 := Lib.hid hz2
    have qy := (cells4 HPS3.out.y).1
    have gy := (frozen_of_row _ _ _ _ _ HPS3.out.y : w3.frozen? ⟨Y, 0, none⟩ = false)
    have zYS := lt_of_blk HPS3.out.y
    have zW : w.heap.size < w3.heap.size := by omega
    have zbS : bw < w3.heap.size := by omega
    have hBS : B ≤ w3.heap.size := by omega
    clear hi hz0 hz1 hz2
    refine wp_region_noPanic ?_
    refine wp_region_k (by kernel_rfl) (fun w' => w'.cell? ⟨Y, 0, none⟩ = some (.slice ax s.fields.length cx) ∧ w'.cell? ⟨w.heap.size, 0, none⟩ = some (.slice (some ⟨bw, ow, none⟩) 3 cw) ∧ w'.cell? ⟨bw, ow + 1, none⟩ = some (strV b)) 12 (⟨qy, qw, q1⟩) (fun hHeld => ?_)
    refine wpAnyK_take0 (i := 0) (v := ?_) rfl (by kernel_rfl) (by kernel_rfl) (by kernel_rfl) (by decide) (fun _ _ _ h => h) (Or.inl ⟨by rfl, ?_⟩) (by first | exact fun _ => by assumption | exact fun h => absurd h (by decide)) ?_
    rotate_left 1
    · (intro wS hSw; (try dsimp only at hSw); go_simp; try with_reducible rfl)
    try simp only [List.getElem_toArray, List.getElem_cons_zero, List.getElem_cons_succ, Act.put, List.setIfInBounds_toArray, List.set_cons_zero, List.set_cons_succ]
    have hwr : IntKind.i64.wrap ((j : Int) + 1) = (j : Int) + 1 := IntWalk.i64_in _ (by omega)
    refine wpAnyK_take (i := 1) (v := ?_) rfl (by kernel_rfl) (by kernel_rfl) (by kernel_rfl) (by kernel_rfl) (fun _ _ _ h => h) (Or.inl ⟨by rfl, ?_⟩) (by assumption) ?_
    rotate_left 1
    · (intro wS hSw; (try dsimp only at hSw); go_simp; try with_reducible rfl)
    try simp only [List.getElem_toArray, List.getElem_cons_zero, List.getElem_cons_succ, Act.put, List.setIfInBounds_toArray, List.set_cons_zero, List.set_cons_succ]
    refine wpAnyK_take (i := 2) (v := ?_) rfl (by kernel_rfl) (by kernel_rfl) (by kernel_rfl) (by kernel_rfl) (fun _ _ _ h => h) (Or.inl ⟨by rfl, ?_⟩) (by assumption) ?_
    rotate_left 1
    · (intro wS hSw; (try dsimp only at hSw); go_simp; try with_reducible rfl)
    try simp only [List.getElem_toArray, List.getElem_cons_zero, List.getElem_cons_succ, Act.put, List.setIfInBounds_toArray, List.set_cons_zero, List.set_cons_succ]
    refine wpAnyK_take (i := 3) (v := ?_) rfl (by kernel_rfl) (by kernel_rfl) (by kernel_rfl) (by kernel_rfl) (fun _ _ _ h => h) (Or.inl ⟨by rfl, ?_⟩) (by assumption) ?_
    rotate_left 1
    · (intro wS hSw; (try dsimp only at hSw); go_simp; try with_reducible rfl)
    try simp only [List.getElem_toArray, List.getElem_cons_zero, List.getElem_cons_succ, Act.put, List.setIfInBounds_toArray, List.set_cons_zero, List.set_cons_succ]
    refine wpAnyK_take (i := 4) (v := ?_) rfl (by kernel_rfl) (by kernel_rfl) (by kernel_rfl) (by kernel_rfl) (fun _ _ _ h => h) (Or.inl ⟨by rfl, ?_⟩) (by assumption) ?_
    rotate_left 1
    · (intro wS hSw; (try dsimp only at hSw); go_simp; try with_reducible rfl)
    try simp only [List.getElem_toArray, List.getElem_cons_zero, List.getElem_cons_succ, Act.put, List.setIfInBounds_toArray, List.set_cons_zero, List.set_cons_succ]
    refine wpAnyK_take (i := 5) (v := ?_) rfl (by kernel_rfl) (by kernel_rfl) (by kernel_rfl) (by kernel_rfl) (fun _ _ _ h => h) (Or.inl ⟨by rfl, ?_⟩) (by assumption) ?_
    rotate_left 1
    · (intro wS hSw; (try dsimp only at hSw); go_simp; try with_reducible rfl)
    try simp only [List.getElem_toArray, List.getElem_cons_zero, List.getElem_cons_succ, Act.put, List.setIfInBounds_toArray, List.set_cons_zero, List.set_cons_succ]
    refine wpAnyK_take (i := 6) (v := ?_) rfl (by kernel_rfl) (by kernel_rfl) (by kernel_rfl) (by kernel_rfl) (fun _ _ _ h => h) (Or.inl ⟨by rfl, ?_⟩) (by assumption) ?_
    rotate_left 1
    · (intro wS hSw; (try dsimp only at hSw); go_simp; try with_reducible rfl)
    try simp only [List.getElem_toArray, List.getElem_cons_zero, List.getElem_cons_succ, Act.put, List.setIfInBounds_toArray, List.set_cons_zero, List.set_cons_succ]
    refine wpAnyK_take (i := 7) (v := ?_) rfl (by kernel_rfl) (by kernel_rfl) (by kernel_rfl) (by kernel_rfl) (fun _ _ _ h => h) (Or.inl ⟨by rfl, ?_⟩) (by assumption) ?_
    rotate_left 1
    · (intro wS hSw; (try dsimp only at hSw); go_simp; try with_reducible rfl)
    try simp only [List.getElem_toArray, List.getElem_cons_zero, List.getElem_cons_succ, Act.put, List.setIfInBounds_toArray, List.set_cons_zero, List.set_cons_succ]
    refine wpAnyK_take (i := 8) (v := ?_) rfl (by kernel_rfl) (by kernel_rfl) (by kernel_rfl) (by kernel_rfl) (fun _ _ _ h => h) (Or.inl ⟨by rfl, ?_⟩) (by assumption) ?_
    rotate_left 1
    · (intro wS hSw; (try dsimp only at hSw); go_simp; try with_reducible rfl)
    try simp only [List.getElem_toArray, List.getElem_cons_zero, List.getElem_cons_succ, Act.put, List.setIfInBounds_toArray, List.set_cons_zero, List.set_cons_succ]
    refine wpAnyK_take (i := 9) (v := ?_) rfl (by kernel_rfl) (by kernel_rfl) (by kernel_rfl) (by kernel_rfl) (fun _ _ _ h => h) (Or.inl ⟨by rfl, ?_⟩) (by assumption) ?_
    rotate_left 1
    · (intro wS hSw; (try dsimp only at hSw); go_simp; try with_reducible rfl)
    try simp only [List.getElem_toArray, List.getElem_cons_zero, List.getElem_cons_succ, Act.put, List.setIfInBounds_toArray, List.set_cons_zero, List.set_cons_succ]
    refine wpAnyK_take (i := 10) (v := ?_) rfl (by kernel_rfl) (by kernel_rfl) (by kernel_rfl) (by kernel_rfl) (fun _ _ _ h => h) (Or.inl ⟨by rfl, ?_⟩) (by assumption) ?_
    rotate_left 1
    · (intro wS hSw; (try dsimp only at hSw); go_simp; try with_reducible rfl)
    try simp only [List.getElem_toArray, List.getElem_cons_zero, List.getElem_cons_succ, Act.put, List.setIfInBounds_toArray, List.set_cons_zero, List.set_cons_succ]
    clear hwr
    have bA := ((Below.refl w3.heap.size w3).drew).alloc (Nat.le_refl _) (.cells #[strV b, .int .i64 ((j : Int) + 1)] 42)
    have hown := own_below HPS3.out.f bA
    have hnews : ∀ i u, [strV b, Value.int .i64 ((j : Int) + 1)][i]? = some u → ((w3.drew).alloc (.cells #[strV b, .int .i64 ((j : Int) + 1)] 42)).cell? ((⟨w3.heap.size, 0, none⟩ : Addr).add i) = some u := fun i u hu => by
      have hX : ((w3.drew).alloc (.cells #[strV b, .int .i64 ((j : Int) + 1)] 42)).heap[w3.heap.size]? = some (.cells #[strV b, .int .i64 ((j : Int) + 1)] 42 (0, 0)) := blk_new rfl
      rw [add_plain, cell_of_row _ _ _ _ _ _ hX, Nat.zero_add]; simpa using hu
    have hone : ∀ u ∈ [strV b, Value.int .i64 ((j : Int) + 1)], u.oneCell' = true := by intro u hu; simp at hu; rcases hu with rfl | rfl <;> rfl
    refine wpAnyK_ready (rs := [11]) (by kernel_rfl) (by simp) ?_
    refine AllReadyK.cons rfl (fun K hK => ?_) AllReadyK.nil
    go_simp
    skip
    refine shutK hK (⟨(bA.cell (p := ⟨Y, 0, none⟩) zYS).trans qy, (bA.cell (p := ⟨w.heap.size, 0, none⟩) zW).trans qw, (bA.cell (p := ⟨bw, ow + 1, none⟩) zbS).trans q1⟩) (fun hHeld => ?_)
    clear hK K
    try simp only [List.getElem_toArray, List.getElem_cons_zero, List.getElem_cons_succ, Act.put, List.setIfInBounds_toArray, List.set_cons_zero, List.set_cons_succ]
    refine wpAnyK_ready (rs := [12]) (by kernel_rfl) (by simp) ?_
    refine AllReadyK.cons rfl (fun K hK => ?_) AllReadyK.nil
    refine wp_append_lies _ (.tmp 28) (.tmp 35) 27 (by rfl) B 42 i0 (.agg #[.string ⟨#[]⟩, .int .i64 0]) 2 24 Tryz.underlying27 HI.out HZ0.out HZ1.out HZ2.out rfl (by decide) (.slice ax s.fields.length cx) s.fields.length (s.fields.flatMap encF) (by rfl) hown ⟨w3.heap.size, 0, none⟩ 1 1 [strV b, .int .i64 ((j : Int) + 1)] (by rfl) rfl hnews hone (by omega) (by unfold maxLen; omega) (by omega) (by simp; omega) (w3.heap.size + 1) (by simp) ?_; intro g cap w5 hown5 hg5 hat5 hlt5; have cY5 : w5.cell? ⟨Y, 0, none⟩ = some (.slice ax s.fields.length cx) := (hg5.cell_far ⟨Y, 0, none⟩ (by simp; omega) (PAt.far_f HPS3.out)).trans ((bA.cell (p := ⟨Y, 0, none⟩) zYS).trans qy); have fY5 : w5.frozen? ⟨Y, 0, none⟩ = false := (hg5.frozen_far ⟨Y, 0, none⟩ (by simp; omega) (PAt.far_f HPS3.out)).trans ((bA.frozen (p := ⟨Y, 0, none⟩) zYS).trans gy)
    refine shutK_off hK (by decide) ?_
    clear hK K
    try simp only [List.getElem_toArray, List.getElem_cons_zero, List.getElem_cons_succ, Act.put, List.setIfInBounds_toArray, List.set_cons_zero, List.set_cons_succ]
    have hstep := HPS3.out.addF hBS (b, (j : Int) + 1) bA hg5 hown5 (by simpa using hat5)
    have HS := Lib.hid hstep
    clear hstep hown5 hg5 hat5 hown hnews hone bA
    refine wpAnyK_ready (rs := [13]) (by kernel_rfl) (by simp) ?_
    refine AllReadyK.cons rfl (fun K hK => ?_) AllReadyK.nil
    go_simp
    skip
    refine shutK_off hK (by decide) ?_
    clear hK K
    try simp only [List.getElem_toArray, List.getElem_cons_zero, List.getElem_cons_succ, Act.put, List.setIfInBounds_toArray, List.set_cons_zero, List.set_cons_succ]
    refine wpAnyK_ready (rs := [14]) (by kernel_rfl) (by simp) ?_
    refine AllReadyK.cons rfl (fun K hK => ?_) AllReadyK.nil
    go_simp
    skip
    refine shutK_off hK (by decide) ?_
    clear hK K
    try simp only [List.getElem_toArray, List.getElem_cons_zero, List.getElem_cons_succ, Act.put, List.setIfInBounds_toArray, List.set_cons_zero, List.set_cons_succ]
    refine wpAnyK_ready (rs := [15]) (by kernel_rfl) (by simp) ?_
    refine AllReadyK.cons rfl (fun K hK => ?_) AllReadyK.nil
    go_simp
    skip
    refine shutK_off hK (by decide) ?_
    clear hK K
    try simp only [List.getElem_toArray, List.getElem_cons_zero, List.getElem_cons_succ, Act.put, List.setIfInBounds_toArray, List.set_cons_zero, List.set_cons_succ]
    refine wpAnyK_done (by kernel_rfl) ?_ _
    refine NoPanic.normal ?_
    go_wp2_with fail
    go_ret
    exact ⟨_, _, _, _, by rw [HR.out, if_neg HK.out]; rfl, by rw [HR.out, if_neg HK.out, HJ.out]; exact HS.out.1, (HBS3.out.mono hbz).trans HS.out.2⟩
set_option maxHeartbeats 4000000 in
theorem read_w3 (B Y : Nat) (vf vt vn vs : Value) (s : SchemaL) (wv : Value) (a b c : List UInt8) (w : World) (h : PAt B Y vf vt vn vs s w) (hw : Vec w Any1 1 encS wv [a, b, c]) (hbz : B ≤ w.heap.size) (hb0 : [] ∉ [a, b, c]) (h1 : a ≠ fieldW) (h2 : a ≠ nickW) (h3 : a ≠ streetW) :
    Calls Tryz.prog 73 #[.pointer (some ⟨Y, 0, none⟩), wv] w (ReadPost B Y (-1, s) w) := by
  obtain ⟨bw, ow, cw, rfl, hbw, c0, c1, c2⟩ := words_three hw
  have HH := Lib.hid h; have HW := Lib.hid hw
  have HE := Lib.hid (show hasB [a, b, c] [] = false by rw [has_empty]; simpa using hb0)
  have e1 : (a == [102, 105, 101, 108, 100]) = false := by simpa [fieldW] using h1
  have e2 : (a == [110, 105, 99, 107, 110, 97, 109, 101]) = false := by simpa [nickW] using h2
  have e3 : (a == [115, 116, 114, 101, 101, 116]) = false := by simpa [streetW] using h3
  clear h hw hb0 h1 h2 h3
  go_enter Tryz.func73, Tryz.ntmps73
  go_wp2_with fail
  refine (contains_any Any1 _ [a, b, c] [] _ (HW.out.below ((Below.refl _ _).alloc (Nat.le_refl _) _)) (by simp)).mono ?_
  rw [HE.out]
  rintro e w1 ⟨rfl, rfl⟩
  go_wp2_with fail
  go_ret
  exact ⟨vf, vt, vn, vs, rfl, HH.out.below ((Below.refl _ _).alloc (Nat.le_refl _) _), (Below.refl _ _).alloc hbz _⟩
set_option maxHeartbeats 4000000 in
theorem read_w2 (B Y : Nat) (vf vt vn vs : Value) (s : SchemaL) (wv : Value) (a b : List UInt8) (w : World) (h : PAt B Y vf vt vn vs s w) (hw : Vec w Any1 1 encS wv [a, b]) (hbz : B ≤ w.heap.size) (hb0 : [] ∉ [a, b]) (h1 : a ≠ titleW) :
    Calls Tryz.prog 73 #[.pointer (some ⟨Y, 0, none⟩), wv] w (ReadPost B Y (-1, s) w) := by
  obtain ⟨bw, ow, cw, rfl, hbw, c0, c1⟩ := words_two hw
  have HH := Lib.hid h; have HW := Lib.hid hw
  have HE := Lib.hid (show hasB [a, b] [] = false by rw [has_empty]; simpa using hb0)
  have e1 : (a == [116, 105, 116, 108, 101]) = false := by simpa [titleW] using h1
  clear h hw hb0 h1
  go_enter Tryz.func73, Tryz.ntmps73
  go_wp2_with fail
  refine (contains_any Any1 _ [a, b] [] _ (HW.out.below ((Below.refl _ _).alloc (Nat.le_refl _) _)) (by simp)).mono ?_
  rw [HE.out]
  rintro e w1 ⟨rfl, rfl⟩
  go_wp2_with fail
  go_ret
  exact ⟨vf, vt, vn, vs, rfl, HH.out.below ((Below.refl _ _).alloc (Nat.le_refl _) _), (Below.refl _ _).alloc hbz _⟩
structure Room (s : SchemaL) (N : Nat) : Prop where
  f : s.fields.length ≤ N
  t : s.rules.titles.length ≤ N
  n : s.rules.nicks.length ≤ N
  s : s.rules.streets.length ≤ N
theorem Room.read {s : SchemaL} {n : Nat} (h : Room s n) (L : List (List UInt8)) : Room (readN s L).2 (n + 1) := by
  obtain ⟨h1, h2, h3, h4⟩ := h
  have h0 : Room s (n + 1) := ⟨by omega, by omega, by omega, by omega⟩
  unfold readN
  repeat' split
  all_goals first
    | exact h0
    | exact ⟨by simp [addF]; omega, by simp [addF]; omega, by simp [addF]; omega, by simp [addF]; omega⟩
    | exact ⟨by simp [addT]; omega, by simp [addT]; omega, by simp [addT]; omega, by simp [addT]; omega⟩
    | exact ⟨by simp [addN]; omega, by simp [addN]; omega, by simp [addN]; omega, by simp [addN]; omega⟩
    | exact ⟨by simp [addS]; omega, by simp [addS]; omega, by simp [addS]; omega, by simp [addS]; omega⟩
theorem len_two {α : Type} {L : List α} (h : L.length = 2) : ∃ a b, L = [a, b] := by
  rcases L with _ | ⟨a, _ | ⟨b, _ | ⟨c, L⟩⟩⟩
  · simp at h
  · simp at h
  · exact ⟨a, b, rfl⟩
  · simp at h
theorem len_three {α : Type} {L : List α} (h : L.length = 3) : ∃ a b c, L = [a, b, c] := by
  rcases L with _ | ⟨a, _ | ⟨b, _ | ⟨c, _ | ⟨d, L⟩⟩⟩⟩
  · simp at h
  · simp at h
  · simp at h
  · exact ⟨a, b, c, rfl⟩
  · simp at h
theorem sread_any (B Y : Nat) (vf vt vn vs : Value) (s : SchemaL) (wv : Value) (L : List (List UInt8)) (w : World) (h : PAt B Y vf vt vn vs s w) (hw : Vec w Any1 1 encS wv L) (hn : L.length ≤ 1000000) (hbz : B ≤ w.heap.size) (hr : Room s 1000000) :
    Calls Tryz.prog 73 #[.pointer (some ⟨Y, 0, none⟩), wv] w (ReadPost B Y (readN s L) w) := by
  by_cases h0 : [] ∈ L
  · exact read_bad B Y vf vt vn vs s wv L w h hw hn hbz h0
  · by_cases h2 : L.length = 2
    · obtain ⟨a, b, rfl⟩ := len_two h2
      by_cases e1 : a = titleW
      · subst e1
        have := read_title B Y vf vt vn vs s wv b w h hw hbz h0 hr.t
        rwa [show readN s [titleW, b] = (1, addT s b) by unfold readN; rw [if_neg h0]; dsimp only; rw [if_pos rfl]]
      · rw [show readN s [a, b] = (-1, s) by unfold readN; rw [if_neg h0]; dsimp only; rw [if_neg e1]]
        exact read_w2 B Y vf vt vn vs s wv a b w h hw hbz h0 e1
    · by_cases h3 : L.length = 3
      · obtain ⟨a, b, c, rfl⟩ := len_three h3
        by_cases e1 : a = fieldW
        · subst e1
          exact read_field B Y vf vt vn vs s wv b c w h hw hbz h0 hr.f _ (by unfold readN; rw [if_neg h0]; dsimp only; rw [if_pos rfl])
        · by_cases e2 : a = nickW
          · subst e2
            rw [show readN s [nickW, b, c] = (2, addN s (b, c)) by unfold readN; rw [if_neg h0]; dsimp only; rw [if_neg e1, if_pos rfl]]
            exact read_nick B Y vf vt vn vs s wv b c w h hw hbz h0 hr.n
          · by_cases e3 : a = streetW
            · subst e3
              rw [show readN s [streetW, b, c] = (3, addS s (b, c)) by unfold readN; rw [if_neg h0]; dsimp only; rw [if_neg e1, if_neg e2, if_pos rfl]]
              exact read_street B Y vf vt vn vs s wv b c w h hw hbz h0 hr.s
            · rw [show readN s [a, b, c] = (-1, s) by unfold readN; rw [if_neg h0]; dsimp only; rw [if_neg e1, if_neg e2, if_neg e3]]
              exact read_w3 B Y vf vt vn vs s wv a b c w h hw hbz h0 e1 e2 e3
      · exact read_odd B Y vf vt vn vs s wv L w h hw hn hbz h0 h2 h3
end Go.Proofs.YtfgoiojmbphmnaaGreatDoor
end
