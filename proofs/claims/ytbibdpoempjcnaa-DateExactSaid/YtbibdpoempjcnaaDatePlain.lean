/- The calendar in plain Lean: leap years, months, valid dates, the number of a day. No program. -/
import Derived.Below
set_option linter.unusedSimpArgs false
set_option linter.unusedVariables false
namespace Go.Proofs.Ytbibdpoempjcnaa
namespace Cal

def leapB (y : Int) : Bool := decide (y % 4 = 0) && (decide (y % 100 ≠ 0) || decide (y % 400 = 0))
def dim (y m : Int) : Int :=
  if m = 2 then (if leapB y = true then 29 else 28) else if m = 4 ∨ m = 6 ∨ m = 9 ∨ m = 11 then 30 else 31
def vldB (y m d : Int) : Bool := decide (1800 ≤ y ∧ y ≤ 2199 ∧ 1 ≤ m ∧ m ≤ 12 ∧ 1 ≤ d ∧ d ≤ dim y m)
def ylen (y : Int) : Int := if leapB y = true then 366 else 365
/-- days of the months before m -/
def cum (y m : Int) : Int :=
  if m ≤ 1 then 0 else if m = 2 then 31 else
    (if leapB y = true then 1 else 0) + (if m = 3 then 59 else if m = 4 then 90 else if m = 5 then 120 else if m = 6 then 151 else if m = 7 then 181 else if m = 8 then 212
      else if m = 9 then 243 else if m = 10 then 273 else if m = 11 then 304 else if m = 12 then 334 else 365)
/-- days of the years from 1800 to before y -/
def dby (y : Int) : Int := 365 * (y - 1800) + ((y - 1) / 4 - 449) - ((y - 1) / 100 - 17) + ((y - 1) / 400 - 4)
def num (y m d : Int) : Int := d - 1 + cum y m + dby y

theorem leap_iff (y : Int) : leapB y = true ↔ (y % 4 = 0 ∧ (y % 100 ≠ 0 ∨ y % 400 = 0)) := by
  unfold leapB; simp
theorem ylen_eq (y : Int) : ylen y = 365 + (if leapB y = true then 1 else 0) := by unfold ylen; split <;> rfl
theorem dby_succ (y : Int) : dby (y + 1) = dby y + ylen y := by
  rw [ylen_eq]
  by_cases h : leapB y = true
  · rw [if_pos h]; rw [leap_iff] at h; unfold dby; omega
  · rw [if_neg h]; rw [leap_iff] at h; unfold dby; omega
theorem dby_first : dby 1800 = 0 := by decide
theorem dim_lo (y m : Int) : 28 ≤ dim y m ∧ dim y m ≤ 31 := by unfold dim; (repeat' split) <;> omega
theorem ylen_bd (y : Int) : 365 ≤ ylen y ∧ ylen y ≤ 366 := by unfold ylen; split <;> omega
theorem cum_succ (y m : Int) (h1 : 1 ≤ m) (h2 : m ≤ 12) : cum y (m + 1) = cum y m + dim y m := by
  have : m = 1 ∨ m = 2 ∨ m = 3 ∨ m = 4 ∨ m = 5 ∨ m = 6 ∨ m = 7 ∨ m = 8 ∨ m = 9 ∨ m = 10 ∨ m = 11 ∨ m = 12 := by omega
  rcases this with rfl | rfl | rfl | rfl | rfl | rfl | rfl | rfl | rfl | rfl | rfl | rfl <;> (simp [cum, dim]; try (split <;> omega))
theorem cum_one (y : Int) : cum y 1 = 0 := by simp [cum]
theorem cum_13 (y : Int) : cum y 13 = ylen y := by rw [ylen_eq]; simp [cum]; omega
theorem cum_bd (y m : Int) (h1 : 1 ≤ m) (h2 : m ≤ 12) : 0 ≤ cum y m ∧ cum y m ≤ 335 := by
  have : m = 1 ∨ m = 2 ∨ m = 3 ∨ m = 4 ∨ m = 5 ∨ m = 6 ∨ m = 7 ∨ m = 8 ∨ m = 9 ∨ m = 10 ∨ m = 11 ∨ m = 12 := by omega
  rcases this with rfl | rfl | rfl | rfl | rfl | rfl | rfl | rfl | rfl | rfl | rfl | rfl <;> (simp [cum]; try (split <;> omega))
theorem dby_bd (y : Int) (h1 : 1800 ≤ y) (h2 : y ≤ 2200) : 0 ≤ dby y ∧ dby y ≤ 146097 := by unfold dby; omega
theorem dby_last : dby 2200 = 146097 := by decide
theorem dby_mono (a b : Int) (h : a ≤ b) : dby a ≤ dby b := by unfold dby; omega
theorem vld_iff (y m d : Int) : vldB y m d = true ↔ (1800 ≤ y ∧ y ≤ 2199 ∧ 1 ≤ m ∧ m ≤ 12 ∧ 1 ≤ d ∧ d ≤ dim y m) := by unfold vldB; simp
theorem cum_mono (y a b : Int) (h1 : 1 ≤ a) (h : a < b) (h2 : b ≤ 13) : cum y a + dim y a ≤ cum y b := by
  rw [← cum_succ y a h1 (by omega)]
  have : ∀ k : Nat, a + 1 + k ≤ 13 → cum y (a + 1) ≤ cum y (a + 1 + k) := by
    intro k
    induction k with
    | zero => intro _; simp
    | succ k ih =>
      intro hk
      have := ih (by omega)
      have e : (a + 1 + ((k + 1 : Nat) : Int)) = (a + 1 + (k : Int)) + 1 := by omega
      rw [e, cum_succ y (a + 1 + k) (by omega) (by omega)]
      have := dim_lo y (a + 1 + k)
      omega
  have := this (b - a - 1).toNat (by omega)
  rwa [show a + 1 + ((b - a - 1).toNat : Int) = b by omega] at this
theorem num_year (y m d : Int) (h : vldB y m d = true) : dby y ≤ num y m d ∧ num y m d < dby (y + 1) := by
  rw [vld_iff] at h
  obtain ⟨h1, h2, h3, h4, h5, h6⟩ := h
  rw [dby_succ]
  have a := cum_bd y m h3 h4
  have b : cum y m + dim y m ≤ ylen y := by
    rw [← cum_13]
    by_cases e : m = 12
    · subst e; have := cum_succ y 12 (by omega) (by omega); rw [show (12 : Int) + 1 = 13 from rfl] at this; omega
    · have := cum_mono y m 13 h3 (by omega) (by omega); omega
  unfold num; omega
/-- the numbers of dates are ordered as year, month, day -/
theorem num_lt (y m d y' m' d' : Int) (h : vldB y m d = true) (h' : vldB y' m' d' = true) :
    num y m d < num y' m' d' ↔ (y < y' ∨ (y = y' ∧ (m < m' ∨ (m = m' ∧ d < d')))) := by
  have a := num_year y m d h
  have b := num_year y' m' d' h'
  rw [vld_iff] at h h'
  obtain ⟨h1, h2, h3, h4, h5, h6⟩ := h
  obtain ⟨k1, k2, k3, k4, k5, k6⟩ := h'
  by_cases hy : y < y'
  · have := dby_mono (y + 1) y' (by omega); omega
  · by_cases hy' : y' < y
    · have := dby_mono (y' + 1) y (by omega); omega
    · obtain rfl : y = y' := by omega
      unfold num
      by_cases hm : m < m'
      · have := cum_mono y m m' h3 hm (by omega); omega
      · by_cases hm' : m' < m
        · have := cum_mono y m' m k3 hm' (by omega); omega
        · obtain rfl : m = m' := by omega
          omega
theorem vld_bd {y m d : Int} (h : vldB y m d = true) : 1800 ≤ y ∧ y ≤ 2199 ∧ 1 ≤ m ∧ m ≤ 12 ∧ 1 ≤ d ∧ d ≤ 31 := by
  have := (vld_iff y m d).1 h; have := dim_lo y m; omega
theorem num_inj (y m d y' m' d' : Int) (h : vldB y m d = true) (h' : vldB y' m' d' = true) :
    num y m d = num y' m' d' ↔ (y = y' ∧ m = m' ∧ d = d') := by
  constructor
  · intro e
    have a := num_lt y m d y' m' d' h h'
    have b := num_lt y' m' d' y m d h' h
    omega
  · rintro ⟨rfl, rfl, rfl⟩; rfl
theorem num_bd (y m d : Int) (h : vldB y m d = true) : 0 ≤ num y m d ∧ num y m d < 146097 := by
  have a := num_year y m d h
  rw [vld_iff] at h
  have := dby_bd y (by omega) (by omega)
  have := dby_mono (y + 1) 2200 (by omega)
  have := dby_last
  omega

/-- decimal digits read on from n -/
def numFrom : Int → List UInt8 → Option Int
  | n, [] => some n
  | n, c :: cs => if 48 ≤ (c.toNat : Int) ∧ (c.toNat : Int) ≤ 57 then numFrom (10 * n + ((c.toNat : Int) - 48)) cs else none
theorem numFrom_append (l r : List UInt8) : ∀ n, numFrom n (l ++ r) = (numFrom n l).bind fun m => numFrom m r := by
  induction l with
  | nil => intro n; rfl
  | cons c cs ih => intro n; simp only [List.cons_append, numFrom]; split <;> simp [ih]
theorem take_snoc (s : ByteArray) (k : Nat) (h : k < s.size) : s.data.toList.take (k + 1) = s.data.toList.take k ++ [s[k]] := by
  rw [List.take_succ_eq_append_getElem (by simpa using h)]; rfl
theorem numFrom_snoc (s : ByteArray) (k : Nat) (h : k < s.size) (N : Int) (hN : numFrom 0 (s.data.toList.take k) = some N) :
    numFrom 0 (s.data.toList.take (k + 1)) = if 48 ≤ (s[k].toNat : Int) ∧ (s[k].toNat : Int) ≤ 57 then some (10 * N + ((s[k].toNat : Int) - 48)) else none := by
  rw [take_snoc s k h, numFrom_append, hN]; simp [numFrom]
theorem numFrom_bad (s : ByteArray) (k : Nat) (h : k < s.size) (N : Int) (hN : numFrom 0 (s.data.toList.take k) = some N) (hb : ¬ (48 ≤ (s[k].toNat : Int) ∧ (s[k].toNat : Int) ≤ 57)) :
    numFrom 0 s.data.toList = none := by
  have e : s.data.toList = s.data.toList.take (k + 1) ++ s.data.toList.drop (k + 1) := (List.take_append_drop _ _).symm
  rw [e, numFrom_append, numFrom_snoc s k h N hN, if_neg hb]; rfl
def numI (l : List UInt8) : Int := (numFrom 0 l).getD (-1)
end Cal
end Go.Proofs.Ytbibdpoempjcnaa
