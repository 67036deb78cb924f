/- Decimal digits: their value, their order as texts; the eight digits of a date. -/
import Derived.Test.YtbibdpoempjcnaaDateC
set_option linter.unusedSimpArgs false
set_option linter.unusedVariables false
namespace Go.Proofs.Ytbibdpoempjcnaa
open Go.RowKit Cal
def isDig (l : List UInt8) : Prop := ∀ c ∈ l, 48 ≤ c.toNat ∧ c.toNat ≤ 57
def valD : List UInt8 → Nat
  | [] => 0
  | c :: cs => (c.toNat - 48) * 10 ^ cs.length + valD cs
theorem valD_lt (l : List UInt8) (h : isDig l) : valD l < 10 ^ l.length := by
  induction l with
  | nil => simp [valD]
  | cons c cs ih =>
    have h1 := h c (by simp)
    have h2 := ih fun x hx => h x (by simp [hx])
    simp only [valD, List.length_cons, Nat.pow_succ]
    have : (c.toNat - 48) * 10 ^ cs.length ≤ 9 * 10 ^ cs.length := Nat.mul_le_mul_right _ (by omega)
    omega
theorem valD_append (l r : List UInt8) : valD (l ++ r) = valD l * 10 ^ r.length + valD r := by
  induction l with
  | nil => simp [valD]
  | cons c cs ih => simp only [List.cons_append, valD, ih, List.length_append, Nat.pow_add, Nat.add_mul]; rw [Nat.mul_assoc]; omega
theorem numFrom_dig (l : List UInt8) (h : isDig l) : ∀ n : Nat, numFrom (n : Int) l = some ((n * 10 ^ l.length + valD l : Nat) : Int) := by
  induction l with
  | nil => intro n; simp [numFrom, valD]
  | cons c cs ih =>
    intro n
    have h1 := h c (by simp)
    have h2 := ih fun x hx => h x (by simp [hx])
    have e : (10 * (n : Int) + ((c.toNat : Int) - 48)) = ((10 * n + (c.toNat - 48) : Nat) : Int) := by omega
    rw [numFrom, if_pos (by omega), e, h2]
    congr 2
    simp only [valD, List.length_cons, Nat.pow_succ, Nat.add_mul]
    have : 10 * n * 10 ^ cs.length = n * (10 ^ cs.length * 10) := by rw [Nat.mul_comm 10 n, Nat.mul_assoc, Nat.mul_comm 10]
    omega
theorem numI_dig (l : List UInt8) (h : isDig l) : numI l = valD l := by
  unfold numI
  have := numFrom_dig l h 0
  simp only [Int.natCast_zero] at this
  rw [show (0 : Int) = ((0 : Nat) : Int) from rfl, numFrom_dig l h 0]
  simp
theorem bytesLess_dig (l : List UInt8) : ∀ r : List UInt8, isDig l → isDig r → l.length = r.length → Op.bytesLess l r = decide (valD l < valD r) := by
  induction l with
  | nil =>
    intro r _ _ hl
    have : r = [] := List.length_eq_zero_iff.1 hl.symm
    subst this
    simp [Op.bytesLess, valD]
  | cons c cs ih =>
    intro r h1 h2 hl
    cases r with
    | nil => simp at hl
    | cons e es =>
      have hl' : cs.length = es.length := by simpa using hl
      have a1 := h1 c (by simp)
      have a2 := h2 e (by simp)
      have b1 := valD_lt cs fun x hx => h1 x (by simp [hx])
      have b2 := valD_lt es fun x hx => h2 x (by simp [hx])
      have hih := ih es (fun x hx => h1 x (by simp [hx])) (fun x hx => h2 x (by simp [hx])) hl'
      rw [hl'] at b1
      rw [Op.bytesLess, hih]
      simp only [valD, hl', UInt8.lt_iff_toNat_lt]
      rw [Bool.eq_iff_iff]
      simp only [decide_eq_true_eq, Bool.or_eq_true, Bool.and_eq_true, beq_iff_eq]
      generalize 10 ^ es.length = p at *
      rcases Nat.lt_trichotomy c.toNat e.toNat with hlt | heq | hgt
      · have : (c.toNat - 48 + 1) * p ≤ (e.toNat - 48) * p := Nat.mul_le_mul_right _ (by omega)
        rw [Nat.add_mul] at this
        simp [hlt]; omega
      · have hce : c = e := UInt8.toNat_inj.1 heq
        subst hce
        simp
      · have : (e.toNat - 48 + 1) * p ≤ (c.toNat - 48) * p := Nat.mul_le_mul_right _ (by omega)
        rw [Nat.add_mul] at this
        have hne : c ≠ e := fun h => by subst h; omega
        simp [hne, Nat.not_lt.2 (Nat.le_of_lt hgt)]; omega
theorem dg_len (k : Nat) : ∀ n, (dg n k).length = k := by
  induction k with
  | zero => intro n; rfl
  | succ k ih => intro n; simp [dg, ih]
theorem dg_dig (k : Nat) : ∀ n : Int, 0 ≤ n → isDig (dg n k) := by
  induction k with
  | zero => intro n _ c hc; simp [dg] at hc
  | succ k ih =>
    intro n hn c hc
    simp only [dg, List.mem_append, List.mem_singleton] at hc
    rcases hc with hc | rfl
    · exact ih (n / 10) (by omega) c hc
    · have : (UInt8.ofNat (48 + (n % 10).toNat)).toNat = 48 + (n % 10).toNat := by rw [UInt8.toNat_ofNat']; omega
      omega
theorem dg_val (k : Nat) : ∀ n : Int, 0 ≤ n → n < 10 ^ k → (valD (dg n k) : Int) = n := by
  induction k with
  | zero => intro n h0 h1; simp at h1; simp [dg, valD]; omega
  | succ k ih =>
    intro n hn h1
    have e : (UInt8.ofNat (48 + (n % 10).toNat)).toNat = 48 + (n % 10).toNat := by rw [UInt8.toNat_ofNat']; omega
    have h2 : n / 10 < 10 ^ k := by rw [Int.pow_succ] at h1; omega
    have := ih (n / 10) (by omega) h2
    simp only [dg, valD_append, valD, List.length_cons, List.length_nil, e]
    simp
    omega
theorem isDig_append {l r : List UInt8} (h : isDig l) (h' : isDig r) : isDig (l ++ r) := fun c hc => by
  rcases List.mem_append.1 hc with hc | hc
  · exact h c hc
  · exact h' c hc
theorem digits8_dig {y m d : Int} (h : vldB y m d = true) : isDig (digits8 y m d) := by
  have := vld_bd h
  exact isDig_append (isDig_append (dg_dig 4 y (by omega)) (dg_dig 2 m (by omega))) (dg_dig 2 d (by omega))
theorem digits8_len (y m d : Int) : (digits8 y m d).length = 8 := by simp [digits8, dg_len]
theorem digits8_val {y m d : Int} (h : vldB y m d = true) : (valD (digits8 y m d) : Int) = y * 10000 + m * 100 + d := by
  have b := vld_bd h
  have e1 := dg_val 4 y (by omega) (by omega)
  have e2 := dg_val 2 m (by omega) (by omega)
  have e3 := dg_val 2 d (by omega) (by omega)
  simp only [digits8, valD_append, dg_len]
  simp
  omega
theorem fmt_less {y m d y' m' d' : Int} (h : vldB y m d = true) (h' : vldB y' m' d' = true) :
    Op.bytesLess (digits8 y m d) (digits8 y' m' d') = decide (num y m d < num y' m' d') := by
  rw [bytesLess_dig _ _ (digits8_dig h) (digits8_dig h') (by rw [digits8_len, digits8_len])]
  have e1 := digits8_val h
  have e2 := digits8_val h'
  have b := vld_bd h
  have b' := vld_bd h'
  have c := num_lt _ _ _ _ _ _ h h'
  rw [Bool.eq_iff_iff]
  simp only [decide_eq_true_eq]
  rw [c]
  omega
end Go.Proofs.Ytbibdpoempjcnaa
