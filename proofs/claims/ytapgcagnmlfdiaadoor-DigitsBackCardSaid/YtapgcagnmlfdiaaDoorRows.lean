/-
  NARROWER THAN 'FOR EVERY INPUT', by the rows' own cells (each row's printed sentence says how): DigitsGoes: laid · DigitsAll: laid · DigitsBack: laid · DigitsOrders: laid.
  DERIVED. THE GIVEN ROWS OF THIS SEAT. 4 by the template 'for every input the law returns true; each argument reads behind the call as it read before'; 0 by the template 'total and deterministic' (their statements: YtapgcagnmlfdiaaDoorTotals.lean).
  GIVEN WITH THE SEED: the statements are not yours to turn. If you find one false, say at which input.
  Laid BY PROGRAM, IN A SANDBOX (cutbox-rows.mjs): the forced cells as the released guide's own fill.sh prints them over the translation 7fd635bfaf4422ac… (all of the seat's roots in one cut). By AI agents, Wed Nov 11 2026. No macro, syntax, notation, axiom, sorry.
-/
import Derived.Test.YtapgcagnmlfdiaaDoorChecked
import GoSem.Claim
import GoSem.ClaimJoined
import GoSem.ClaimMapViews
import Derived.JoinedTies
import Derived.KernelRfl
namespace Go.Proofs.YtapgcagnmlfdiaaDoor
/- THE CELL 'sum', in the pinned program and in every row, IS THE sha256 OF THE DUMP (.gsa) THAT YtapgcagnmlfdiaaDoorProg.lean LOADS. Nothing in Lean hashes anything: it is a label: what it is worth is what the hold of that sum in a sandbox is worth. -/
noncomputable def Tryd.pinned : Pinned := { name := "ytapgcagnmlfdiaadoor", sum := "7fd635bfaf4422acf4267595b28b1adca89cd3c34a008833a1fb3d398900e307", checked := Tryd.checked }
namespace Rows
def none {H : Type} : Left H := { results := [], args := [] }

/- WHAT THE LISTED PACKAGE-LEVEL VARIABLES READ AS WHEN THE CALL BEGINS. Each datum BY PROGRAM (the guide's laid-datum.mjs) off the statement by which the dump's own 'gosem.cut.vars' lays the variable. In a bare row this is a premise. The card (YtapgcagnmlfdiaaDoorCards.lean) ties it to the program's text. -/
def laid_tmesis_class_members {H : Type} : DataW H := .agg [.agg [.lit (.int .i64 1), .lit (.string [9, 10, 13, 32])], .agg [.lit (.int .i64 2), .lit (.string [97, 98, 99, 100, 101, 102, 103, 104, 105, 106, 107, 108, 109, 110, 111, 112, 113, 114, 115, 116, 117, 118, 119, 120, 121, 122])], .agg [.lit (.int .i64 3), .lit (.string [65, 66, 67, 68, 69, 70, 71, 72, 73, 74, 75, 76, 77, 78, 79, 80, 81, 82, 83, 84, 85, 86, 87, 88, 89, 90, 95])], .agg [.lit (.int .i64 4), .lit (.string [48, 49, 50, 51, 52, 53, 54, 55, 56, 57])], .agg [.lit (.int .i64 5), .lit (.string [43, 45, 42, 47, 92, 94, 60, 62, 61, 126, 58, 46, 63, 64, 35, 38, 36, 33])], .agg [.lit (.int .i64 6), .lit (.string [40, 41, 44, 124, 59, 91, 93, 123, 125])], .agg [.lit (.int .i64 7), .lit (.string [39])], .agg [.lit (.int .i64 8), .lit (.string [37])]]

/-- 'tmesislaw03.DigitsGoes': WHATEVER THE INPUT: true; the input reads as it did. -/
def digitsGoesSpec : ChangeSpec := { name := "digitsGoes", fn := fun _ => fun
  | [d1, d2] => { results := [.lit (.bool true)], args := [d1, d2] }
  | _ => none }
def digitsGoesRow : OpenClaim := { program := "ytapgcagnmlfdiaadoor", sum := "7fd635bfaf4422acf4267595b28b1adca89cd3c34a008833a1fb3d398900e307", func := "tmesis/tmesislaw03.DigitsGoes", spec := "digitsGoes", named := ["tmesis/class.members"], apart := false, laid := [("tmesis/class.members", laid_tmesis_class_members)] }
def DigitsGoesSaid : Prop := digitsGoesRow.holds Tryd.pinned (OpenSpec.ofChange digitsGoesSpec)

/-- ITS FALSE NEIGHBOUR: 'it returns false'. Refute it at one input. -/
def digitsGoesWrong : ChangeSpec := { name := "digitsGoes", fn := fun _ => fun
  | [d1, d2] => { results := [.lit (.bool false)], args := [d1, d2] }
  | _ => none }
def DigitsGoesWrongFalsely : Prop := digitsGoesRow.holds Tryd.pinned (OpenSpec.ofChange digitsGoesWrong)

/-- 'tmesislaw03.DigitsAll': WHATEVER THE INPUT: true; the input reads as it did. -/
def digitsAllSpec : ChangeSpec := { name := "digitsAll", fn := fun _ => fun
  | [d1, d2] => { results := [.lit (.bool true)], args := [d1, d2] }
  | _ => none }
def digitsAllRow : OpenClaim := { program := "ytapgcagnmlfdiaadoor", sum := "7fd635bfaf4422acf4267595b28b1adca89cd3c34a008833a1fb3d398900e307", func := "tmesis/tmesislaw03.DigitsAll", spec := "digitsAll", named := ["tmesis/class.members"], apart := false, laid := [("tmesis/class.members", laid_tmesis_class_members)] }
def DigitsAllSaid : Prop := digitsAllRow.holds Tryd.pinned (OpenSpec.ofChange digitsAllSpec)

/-- ITS FALSE NEIGHBOUR: 'it returns false'. Refute it at one input. -/
def digitsAllWrong : ChangeSpec := { name := "digitsAll", fn := fun _ => fun
  | [d1, d2] => { results := [.lit (.bool false)], args := [d1, d2] }
  | _ => none }
def DigitsAllWrongFalsely : Prop := digitsAllRow.holds Tryd.pinned (OpenSpec.ofChange digitsAllWrong)

/-- 'tmesislaw03.DigitsBack': WHATEVER THE INPUT: true; the input reads as it did. -/
def digitsBackSpec : ChangeSpec := { name := "digitsBack", fn := fun _ => fun
  | [d1, d2, d3] => { results := [.lit (.bool true)], args := [d1, d2, d3] }
  | _ => none }
def digitsBackRow : OpenClaim := { program := "ytapgcagnmlfdiaadoor", sum := "7fd635bfaf4422acf4267595b28b1adca89cd3c34a008833a1fb3d398900e307", func := "tmesis/tmesislaw03.DigitsBack", spec := "digitsBack", named := ["tmesis/class.members"], apart := false, laid := [("tmesis/class.members", laid_tmesis_class_members)] }
def DigitsBackSaid : Prop := digitsBackRow.holds Tryd.pinned (OpenSpec.ofChange digitsBackSpec)

/-- ITS FALSE NEIGHBOUR: 'it returns false'. Refute it at one input. -/
def digitsBackWrong : ChangeSpec := { name := "digitsBack", fn := fun _ => fun
  | [d1, d2, d3] => { results := [.lit (.bool false)], args := [d1, d2, d3] }
  | _ => none }
def DigitsBackWrongFalsely : Prop := digitsBackRow.holds Tryd.pinned (OpenSpec.ofChange digitsBackWrong)

/-- 'tmesislaw03.DigitsOrders': WHATEVER THE INPUT: true; the input reads as it did. -/
def digitsOrdersSpec : ChangeSpec := { name := "digitsOrders", fn := fun _ => fun
  | [d1, d2] => { results := [.lit (.bool true)], args := [d1, d2] }
  | _ => none }
def digitsOrdersRow : OpenClaim := { program := "ytapgcagnmlfdiaadoor", sum := "7fd635bfaf4422acf4267595b28b1adca89cd3c34a008833a1fb3d398900e307", func := "tmesis/tmesislaw03.DigitsOrders", spec := "digitsOrders", named := ["tmesis/class.members"], apart := false, laid := [("tmesis/class.members", laid_tmesis_class_members)] }
def DigitsOrdersSaid : Prop := digitsOrdersRow.holds Tryd.pinned (OpenSpec.ofChange digitsOrdersSpec)

/-- ITS FALSE NEIGHBOUR: 'it returns false'. Refute it at one input. -/
def digitsOrdersWrong : ChangeSpec := { name := "digitsOrders", fn := fun _ => fun
  | [d1, d2] => { results := [.lit (.bool false)], args := [d1, d2] }
  | _ => none }
def DigitsOrdersWrongFalsely : Prop := digitsOrdersRow.holds Tryd.pinned (OpenSpec.ofChange digitsOrdersWrong)

/- THE SECOND FORM. 'bulk': how many values and letters a reading holds, each counted each time it is reached (what is shared counts as often as it is met; a slice's spare places count too). A statement '..UptoSaid' is the law's where the arguments, and the package variables that the reading takes, are together of bulk at most 1048576: NARROWER than '..Said'. Prove '..Said' where nothing that the law and all that it calls make is longer than what came in: it says more and counts as full. Else prove '..UptoSaid'. A law counts once. -/
mutual
def uptoBulk {H : Type} : DataW H → Nat
  | .lit (.string bytes) => bytes.length + 1
  | .lit _ => 1
  | .nil => 1
  | .ptr d => uptoBulk d + 1
  | .slice elems spare => uptoBulkAll elems + uptoBulkAll spare + 1
  | .agg parts => uptoBulkAll parts + 1
  | .iface _ d => uptoBulk d + 1
  | .map entries => uptoBulkEntries entries + 1
  | .held _ => 1
def uptoBulkAll {H : Type} : List (DataW H) → Nat
  | [] => 0
  | d :: r => uptoBulk d + uptoBulkAll r
def uptoBulkEntries {H : Type} : List (Lit × DataW H) → Nat
  | [] => 0
  | x :: r => uptoBulkEntry x + uptoBulkEntries r
def uptoBulkEntry {H : Type} : Lit × DataW H → Nat
  | (.string bytes, d) => bytes.length + uptoBulk d + 1
  | (_, d) => uptoBulk d + 1
 end
def uptoSmall : (H : Type) → List (DataW H) → Bool := fun _ ds => decide (uptoBulkAll ds ≤ 1048576)
def OpenSpec.upto (s : _root_.Go.ChangeSpec) : _root_.Go.OpenSpec := { _root_.Go.OpenSpec.ofChange s with cond := some uptoSmall }

/-- 'tmesislaw03.DigitsGoes', WHERE WHAT IT READS IS OF BULK AT MOST 1048576: true; the input reads as it did. -/
def digitsGoesUptoRow : OpenClaim := { program := "ytapgcagnmlfdiaadoor", sum := "7fd635bfaf4422acf4267595b28b1adca89cd3c34a008833a1fb3d398900e307", func := "tmesis/tmesislaw03.DigitsGoes", spec := "digitsGoes", named := ["tmesis/class.members"], apart := false, laid := [("tmesis/class.members", laid_tmesis_class_members)], narrowed := true }
def DigitsGoesUptoSaid : Prop := digitsGoesUptoRow.holds Tryd.pinned (OpenSpec.upto digitsGoesSpec)

/-- 'tmesislaw03.DigitsAll', WHERE WHAT IT READS IS OF BULK AT MOST 1048576: true; the input reads as it did. -/
def digitsAllUptoRow : OpenClaim := { program := "ytapgcagnmlfdiaadoor", sum := "7fd635bfaf4422acf4267595b28b1adca89cd3c34a008833a1fb3d398900e307", func := "tmesis/tmesislaw03.DigitsAll", spec := "digitsAll", named := ["tmesis/class.members"], apart := false, laid := [("tmesis/class.members", laid_tmesis_class_members)], narrowed := true }
def DigitsAllUptoSaid : Prop := digitsAllUptoRow.holds Tryd.pinned (OpenSpec.upto digitsAllSpec)

/-- 'tmesislaw03.DigitsBack', WHERE WHAT IT READS IS OF BULK AT MOST 1048576: true; the input reads as it did. -/
def digitsBackUptoRow : OpenClaim := { program := "ytapgcagnmlfdiaadoor", sum := "7fd635bfaf4422acf4267595b28b1adca89cd3c34a008833a1fb3d398900e307", func := "tmesis/tmesislaw03.DigitsBack", spec := "digitsBack", named := ["tmesis/class.members"], apart := false, laid := [("tmesis/class.members", laid_tmesis_class_members)], narrowed := true }
def DigitsBackUptoSaid : Prop := digitsBackUptoRow.holds Tryd.pinned (OpenSpec.upto digitsBackSpec)

/-- 'tmesislaw03.DigitsOrders', WHERE WHAT IT READS IS OF BULK AT MOST 1048576: true; the input reads as it did. -/
def digitsOrdersUptoRow : OpenClaim := { program := "ytapgcagnmlfdiaadoor", sum := "7fd635bfaf4422acf4267595b28b1adca89cd3c34a008833a1fb3d398900e307", func := "tmesis/tmesislaw03.DigitsOrders", spec := "digitsOrders", named := ["tmesis/class.members"], apart := false, laid := [("tmesis/class.members", laid_tmesis_class_members)], narrowed := true }
def DigitsOrdersUptoSaid : Prop := digitsOrdersUptoRow.holds Tryd.pinned (OpenSpec.upto digitsOrdersSpec)

end Rows
end Go.Proofs.YtapgcagnmlfdiaaDoor
