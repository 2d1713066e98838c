/- Each byte has one class of the ten that there are; letters, digits and the underscore alone stand in names; letters are of the same kind as their neighbours. No conditions. -/
import Derived.Test.YtihgfoekjelkbaaDoorClassSh
import Derived.Test.YtihgfoekjelkbaaDoorPx3
namespace Go.Proofs.YtihgfoekjelkbaaDoor.Pure
set_option linter.unusedSimpArgs false
set_option linter.unusedVariables false
open Go.RowKit Go.Proofs.YtihgfoekjelkbaaDoor.P Go.Proofs.YtihgfoekjelkbaaDoorW.PrintWords Go.Proofs.YtihgfoekjelkbaaDoorW.PrintLast
set_option maxRecDepth 100000 in
theorem names_all : ∀ n : Nat, n < 256 → tmesislaw02_ClassNames.f 12 (n : Int) = some true := by decide +kernel
theorem ClassNames : tmesislaw02_ClassNames.Pure := by
  intro c hc
  exact ⟨12, byte_all (p := fun c => tmesislaw02_ClassNames.f 12 c = some true) names_all (u8_wf hc)⟩
end Go.Proofs.YtihgfoekjelkbaaDoor.Pure
