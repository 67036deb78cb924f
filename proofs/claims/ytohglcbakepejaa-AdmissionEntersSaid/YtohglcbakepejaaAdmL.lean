/- plain equations of registers: the greater numbers of two lists, in whatever order. -/
import Derived.Test.YtohglcbakepejaaAdmJ
set_option linter.unusedSimpArgs false
set_option linter.unusedVariables false
namespace Go.Proofs.Ytohglcbakepejaa
open Go.RowKit
theorem Ex.same {x y : Ex} (h0 : x.f = y.f) (h1 : x.u = y.u) (h2 : x.h = y.h) (h3 : x.c = y.c) (h4 : x.i = y.i) : x = y := by
  cases x; cases y; simp at *; exact ⟨h0, h1, h2, h3, h4⟩
theorem max_comm {a b : List Ex} (hl : a.length = b.length) : maxAll 0 a b = maxAll 0 b a := by
  have h1 := maxAll_len a 0 b hl
  have h2 := maxAll_len b 0 a hl.symm
  refine List.ext_getElem (by omega) fun j hj hj' => ?_
  rw [maxAll_get a 0 b hl j (by omega) (by omega) hj, maxAll_get b 0 a hl.symm j (by omega) (by omega) hj']
  refine Ex.same ?_ ?_ ?_ ?_ ?_ <;> simp only [Ex.max2] <;> omega
theorem max_assoc {a b c : List Ex} (hl : a.length = b.length) (hc : b.length = c.length) : maxAll 0 (maxAll 0 a b) c = maxAll 0 a (maxAll 0 b c) := by
  have h1 := maxAll_len a 0 b hl
  have h2 := maxAll_len b 0 c hc
  have h3 := maxAll_len (maxAll 0 a b) 0 c (by omega)
  have h4 := maxAll_len a 0 (maxAll 0 b c) (by omega)
  refine List.ext_getElem (by omega) fun j hj hj' => ?_
  rw [maxAll_get (maxAll 0 a b) 0 c (by omega) j (by omega) (by omega) hj, maxAll_get a 0 (maxAll 0 b c) (by omega) j (by omega) (by omega) hj',
    maxAll_get a 0 b hl j (by omega) (by omega) (by omega), maxAll_get b 0 c hc j (by omega) (by omega) (by omega)]
  refine Ex.same ?_ ?_ ?_ ?_ ?_ <;> simp only [Ex.max2] <;> omega
/-- what is within a valid list adds nothing to it -/
theorem max_absorb {b z : List Ex} (hl : b.length = z.length) (hz : chkE z = 0) (h : leAll b z) : maxAll 0 b z = z := by
  have h1 := maxAll_len b 0 z hl
  obtain ⟨_, hz⟩ := chk_ok hz
  rw [leAll_iff] at h
  refine List.ext_getElem (by omega) fun j hj hj' => ?_
  rw [maxAll_get b 0 z hl j (by omega) (by omega) hj]
  have e1 := hz j hj'; have e2 := h j (by omega) hj'
  unfold Ex.ok at e1; unfold Ex.le at e2
  refine Ex.same ?_ ?_ ?_ ?_ ?_ <;> simp only [Ex.max2] <;> omega
end Go.Proofs.Ytohglcbakepejaa
