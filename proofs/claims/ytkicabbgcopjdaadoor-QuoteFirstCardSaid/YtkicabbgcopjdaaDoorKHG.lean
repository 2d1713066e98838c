/- Part of the proof: what the theorem needs of this text. -/
import Derived.Test.YtkicabbgcopjdaaDoorMW1
import Derived.Test.YtkicabbgcopjdaaDoorProg
import Derived.Below
namespace Go.Proofs.YtkicabbgcopjdaaDoor.P
open Go.RowKit
def Gl (_w : World) : Prop := True
theorem Gl.below {w w' : World} (_h : Gl w) (_hb : Below w.heap.size w w') : Gl w' := trivial
end Go.Proofs.YtkicabbgcopjdaaDoor.P
