/- Part of the proof: what the theorem needs of this text. -/
import Derived.Test.YtkicabbgcopjdaaDoorKHG
import Derived.LaidMore
import Derived.LaidHandle
namespace Go.Proofs.YtkicabbgcopjdaaDoor.P
open Go.RowKit
theorem Gl_of_laid {l : List (String × DataW Unit)} {W : World} (_h : laidMetH Tryd.prog l W) : Gl W := trivial
end Go.Proofs.YtkicabbgcopjdaaDoor.P
