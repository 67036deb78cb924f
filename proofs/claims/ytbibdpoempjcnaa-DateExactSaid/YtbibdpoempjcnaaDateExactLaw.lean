/- The law DateExact in the form that the statement's proof takes. -/
import Derived.Test.YtbibdpoempjcnaaDateExactWalk
set_option linter.unusedSimpArgs false
set_option linter.unusedVariables false
namespace Go.Proofs.Ytbibdpoempjcnaa
open Go.RowKit Cal
theorem exact_law (a : Option Addr) (n cap : Nat) (zs : List Int) (ry rm rd ay am ad : Int) (s : ByteArray) (v : Int) (w : World) (hr : IsRow .i64 w a n cap zs)
    (w1 : (Lit.int .i64 ry).wf = true) (w2 : (Lit.int .i64 rm).wf = true) (w3 : (Lit.int .i64 rd).wf = true) (w4 : (Lit.int .i64 ay).wf = true) (w5 : (Lit.int .i64 am).wf = true) (w6 : (Lit.int .i64 ad).wf = true) (hs : s.size ≤ maxLen) (hv : (Lit.int .i64 v).wf = true) :
    Calls Try.prog 8 #[.slice a n cap, .agg #[.int .i64 ry, .int .i64 rm, .int .i64 rd], .agg #[.int .i64 ay, .int .i64 am, .int .i64 ad], .string s, .int .i64 v] w fun e w' => e = .returned (.bool true) ∧ Below w.heap.size w w' :=
  exact_all a n cap zs ry rm rd ay am ad s v w hr (by simpa [Lit.wf, IntKind.min, IntKind.max, IntKind.signed, IntKind.bits] using hv)
end Go.Proofs.Ytbibdpoempjcnaa
