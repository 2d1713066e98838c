/- The reference's class.Of as a plain function. -/
import Derived.Test.YtfmhhjimnhfbaaaDoorClass
import Derived.Test.YtfmhhjimnhfbaaaDoorPx4
namespace Go.Proofs.YtfmhhjimnhfbaaaDoor.P
set_option linter.unusedSimpArgs false
set_option linter.unusedVariables false
open Go.RowKit Go.Proofs.YtfmhhjimnhfbaaaDoor.P Go.Proofs.YtfmhhjimnhfbaaaDoorW.PrintWords Go.Proofs.YtfmhhjimnhfbaaaDoorW.PrintLast Go.Proofs.YtfmhhjimnhfbaaaDoorW.PrintMore
set_option maxRecDepth 100000 in
theorem of_all : ∀ n : Nat, n < 256 → tmesisref02_Of.f 40 (n : Int) = some (classOf (n : Int)) := by decide +kernel
theorem rof_ev {c : Int} (hc : 0 ≤ c ∧ c < 256) : Ev (fun k => tmesisref02_Of.f k c) (classOf c) := Ev.of (fun k => tmesisref02_Of.mono c k) (k := 40) (byte_all (p := fun c => tmesisref02_Of.f 40 c = some (classOf c)) of_all hc)
end Go.Proofs.YtfmhhjimnhfbaaaDoor.P
