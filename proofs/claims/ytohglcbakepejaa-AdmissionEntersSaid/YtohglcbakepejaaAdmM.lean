/- The law AdmissionEnters: the program's Enter as equations of lists. -/
import Derived.Test.YtohglcbakepejaaAdmH
import Derived.Test.YtohglcbakepejaaAdmI
import Derived.Test.YtohglcbakepejaaAdmL
set_option linter.unusedSimpArgs false
set_option linter.unusedVariables false
namespace Go.Proofs.Ytohglcbakepejaa
open Go.RowKit
theorem enter_val (u v : Value) (a l : List Ex) (w : World) (hu : ExRow w (All w) u a) (hl : ExRow w (All w) v l) (ha : chkE a = 0) (hc : chkE l = 0) (he : a.length = l.length) :
    Calls Try.prog 12 #[u, v] w (EnterOk (maxAll 0 a l) w) := by
  obtain ⟨⟨h1, h5⟩, _⟩ := chk_ok ha
  have e1 : regE a l = a := by unfold regE; rw [if_neg (by omega)]
  have e2 : enterE a l = 0 := by unfold enterE; rw [e1]; simp [check2, ha, hc, he]
  have := enter_good u v a l w hu hl e2 (by omega) (by omega)
  rw [e1] at this
  rwa [max_comm he]
theorem enter_none (v : Value) (l : List Ex) (w : World) (hl : ExRow w (All w) v l) (hc : chkE l = 0) :
    Calls Try.prog 12 #[.slice none 0 0, v] w (EnterOk l w) := by
  obtain ⟨⟨h1, h5⟩, _⟩ := chk_ok hc
  have e1 : regE [] l = l := by unfold regE; simp
  have e2 : enterE [] l = 0 := by unfold enterE; rw [e1]; simp [check2, hc]
  have := enter_good (.slice none 0 0) v [] l w (Row.nil w (All w) 5) hl e2 (by simp) (by omega)
  rwa [e1, max_absorb rfl hc (le_refl_all l)] at this
end Go.Proofs.Ytohglcbakepejaa
