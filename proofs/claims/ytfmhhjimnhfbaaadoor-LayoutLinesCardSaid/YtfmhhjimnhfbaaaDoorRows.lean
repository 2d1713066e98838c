/-
  NARROWER THAN 'FOR EVERY INPUT', by the rows' own cells (each row's printed sentence says how): LayoutAll: laid · LayoutEnds: laid · LayoutComments: laid · LayoutLines: laid.
  DERIVED. THE GIVEN ROWS OF THIS SEAT. 4 by the template 'for every input the law returns true; each argument reads behind the call as it read before'; 0 by the template 'total and deterministic' (their statements: YtfmhhjimnhfbaaaDoorTotals.lean).
  GIVEN WITH THE SEED: the statements are not yours to turn. If you find one false, say at which input.
  Laid BY PROGRAM, IN A SANDBOX (cutbox-rows.mjs): the forced cells as the released guide's own fill.sh prints them over the translation 65221c796fce5c47… (all of the seat's roots in one cut). By AI agents, Wed Nov 11 2026. No macro, syntax, notation, axiom, sorry.
-/
import Derived.Test.YtfmhhjimnhfbaaaDoorChecked
import GoSem.Claim
import GoSem.ClaimJoined
import GoSem.ClaimMapViews
import Derived.JoinedTies
import Derived.KernelRfl
namespace Go.Proofs.YtfmhhjimnhfbaaaDoor
/- THE CELL 'sum', in the pinned program and in every row, IS THE sha256 OF THE DUMP (.gsa) THAT YtfmhhjimnhfbaaaDoorProg.lean LOADS. Nothing in Lean hashes anything: it is a label: what it is worth is what the hold of that sum in a sandbox is worth. -/
noncomputable def Tryd.pinned : Pinned := { name := "ytfmhhjimnhfbaaadoor", sum := "65221c796fce5c47559d6f4e0717093d1a8bc9966bff1276068b11623129a3f3", checked := Tryd.checked }
namespace Rows
def none {H : Type} : Left H := { results := [], args := [] }

/- WHAT THE LISTED PACKAGE-LEVEL VARIABLES READ AS WHEN THE CALL BEGINS. Each datum BY PROGRAM (the guide's laid-datum.mjs) off the statement by which the dump's own 'gosem.cut.vars' lays the variable. In a bare row this is a premise. The card (YtfmhhjimnhfbaaaDoorCards.lean) ties it to the program's text. -/
def laid_tmesis_class_members {H : Type} : DataW H := .agg [.agg [.lit (.int .i64 1), .lit (.string [9, 10, 13, 32])], .agg [.lit (.int .i64 2), .lit (.string [97, 98, 99, 100, 101, 102, 103, 104, 105, 106, 107, 108, 109, 110, 111, 112, 113, 114, 115, 116, 117, 118, 119, 120, 121, 122])], .agg [.lit (.int .i64 3), .lit (.string [65, 66, 67, 68, 69, 70, 71, 72, 73, 74, 75, 76, 77, 78, 79, 80, 81, 82, 83, 84, 85, 86, 87, 88, 89, 90, 95])], .agg [.lit (.int .i64 4), .lit (.string [48, 49, 50, 51, 52, 53, 54, 55, 56, 57])], .agg [.lit (.int .i64 5), .lit (.string [43, 45, 42, 47, 92, 94, 60, 62, 61, 126, 58, 46, 63, 64, 35, 38, 36, 33])], .agg [.lit (.int .i64 6), .lit (.string [40, 41, 44, 124, 59, 91, 93, 123, 125])], .agg [.lit (.int .i64 7), .lit (.string [39])], .agg [.lit (.int .i64 8), .lit (.string [37])]]

/-- 'tmesislaw05.LayoutAll': WHATEVER THE INPUT: true; the input reads as it did. -/
def layoutAllSpec : ChangeSpec := { name := "layoutAll", fn := fun _ => fun
  | [d] => { results := [.lit (.bool true)], args := [d] }
  | _ => none }
def layoutAllRow : OpenClaim := { program := "ytfmhhjimnhfbaaadoor", sum := "65221c796fce5c47559d6f4e0717093d1a8bc9966bff1276068b11623129a3f3", func := "tmesis/tmesislaw05.LayoutAll", spec := "layoutAll", inPlace := ["internal/bytealg.IndexByte"], named := ["tmesis/class.members"], apart := false, laid := [("tmesis/class.members", laid_tmesis_class_members)] }
def LayoutAllSaid : Prop := layoutAllRow.holds Tryd.pinned (OpenSpec.ofChange layoutAllSpec)

/-- ITS FALSE NEIGHBOUR: 'it returns false'. Refute it at one input. -/
def layoutAllWrong : ChangeSpec := { name := "layoutAll", fn := fun _ => fun
  | [d] => { results := [.lit (.bool false)], args := [d] }
  | _ => none }
def LayoutAllWrongFalsely : Prop := layoutAllRow.holds Tryd.pinned (OpenSpec.ofChange layoutAllWrong)

/-- 'tmesislaw05.LayoutEnds': WHATEVER THE INPUT: true; the input reads as it did. -/
def layoutEndsSpec : ChangeSpec := { name := "layoutEnds", fn := fun _ => fun
  | [d] => { results := [.lit (.bool true)], args := [d] }
  | _ => none }
def layoutEndsRow : OpenClaim := { program := "ytfmhhjimnhfbaaadoor", sum := "65221c796fce5c47559d6f4e0717093d1a8bc9966bff1276068b11623129a3f3", func := "tmesis/tmesislaw05.LayoutEnds", spec := "layoutEnds", inPlace := ["internal/bytealg.IndexByte"], named := ["tmesis/class.members"], apart := false, laid := [("tmesis/class.members", laid_tmesis_class_members)] }
def LayoutEndsSaid : Prop := layoutEndsRow.holds Tryd.pinned (OpenSpec.ofChange layoutEndsSpec)

/-- ITS FALSE NEIGHBOUR: 'it returns false'. Refute it at one input. -/
def layoutEndsWrong : ChangeSpec := { name := "layoutEnds", fn := fun _ => fun
  | [d] => { results := [.lit (.bool false)], args := [d] }
  | _ => none }
def LayoutEndsWrongFalsely : Prop := layoutEndsRow.holds Tryd.pinned (OpenSpec.ofChange layoutEndsWrong)

/-- 'tmesislaw05.LayoutComments': WHATEVER THE INPUT: true; the input reads as it did. -/
def layoutCommentsSpec : ChangeSpec := { name := "layoutComments", fn := fun _ => fun
  | [d1, d2, d3] => { results := [.lit (.bool true)], args := [d1, d2, d3] }
  | _ => none }
def layoutCommentsRow : OpenClaim := { program := "ytfmhhjimnhfbaaadoor", sum := "65221c796fce5c47559d6f4e0717093d1a8bc9966bff1276068b11623129a3f3", func := "tmesis/tmesislaw05.LayoutComments", spec := "layoutComments", inPlace := ["internal/bytealg.IndexByte"], named := ["tmesis/class.members"], apart := false, laid := [("tmesis/class.members", laid_tmesis_class_members)] }
def LayoutCommentsSaid : Prop := layoutCommentsRow.holds Tryd.pinned (OpenSpec.ofChange layoutCommentsSpec)

/-- ITS FALSE NEIGHBOUR: 'it returns false'. Refute it at one input. -/
def layoutCommentsWrong : ChangeSpec := { name := "layoutComments", fn := fun _ => fun
  | [d1, d2, d3] => { results := [.lit (.bool false)], args := [d1, d2, d3] }
  | _ => none }
def LayoutCommentsWrongFalsely : Prop := layoutCommentsRow.holds Tryd.pinned (OpenSpec.ofChange layoutCommentsWrong)

/-- 'tmesislaw05.LayoutLines': WHATEVER THE INPUT: true; the input reads as it did. -/
def layoutLinesSpec : ChangeSpec := { name := "layoutLines", fn := fun _ => fun
  | [d1, d2, d3] => { results := [.lit (.bool true)], args := [d1, d2, d3] }
  | _ => none }
def layoutLinesRow : OpenClaim := { program := "ytfmhhjimnhfbaaadoor", sum := "65221c796fce5c47559d6f4e0717093d1a8bc9966bff1276068b11623129a3f3", func := "tmesis/tmesislaw05.LayoutLines", spec := "layoutLines", inPlace := ["internal/bytealg.IndexByte"], named := ["tmesis/class.members"], apart := false, laid := [("tmesis/class.members", laid_tmesis_class_members)] }
def LayoutLinesSaid : Prop := layoutLinesRow.holds Tryd.pinned (OpenSpec.ofChange layoutLinesSpec)

/-- ITS FALSE NEIGHBOUR: 'it returns false'. Refute it at one input. -/
def layoutLinesWrong : ChangeSpec := { name := "layoutLines", fn := fun _ => fun
  | [d1, d2, d3] => { results := [.lit (.bool false)], args := [d1, d2, d3] }
  | _ => none }
def LayoutLinesWrongFalsely : Prop := layoutLinesRow.holds Tryd.pinned (OpenSpec.ofChange layoutLinesWrong)

/- THE SECOND FORM. 'bulk': how many values and letters a reading holds, each counted each time it is reached (what is shared counts as often as it is met; a slice's spare places count too). A statement '..UptoSaid' is the law's where the arguments, and the package variables that the reading takes, are together of bulk at most 1048576: NARROWER than '..Said'. Prove '..Said' where nothing that the law and all that it calls make is longer than what came in: it says more and counts as full. Else prove '..UptoSaid'. A law counts once. -/
mutual
def uptoBulk {H : Type} : DataW H → Nat
  | .lit (.string bytes) => bytes.length + 1
  | .lit _ => 1
  | .nil => 1
  | .ptr d => uptoBulk d + 1
  | .slice elems spare => uptoBulkAll elems + uptoBulkAll spare + 1
  | .agg parts => uptoBulkAll parts + 1
  | .iface _ d => uptoBulk d + 1
  | .map entries => uptoBulkEntries entries + 1
  | .held _ => 1
def uptoBulkAll {H : Type} : List (DataW H) → Nat
  | [] => 0
  | d :: r => uptoBulk d + uptoBulkAll r
def uptoBulkEntries {H : Type} : List (Lit × DataW H) → Nat
  | [] => 0
  | x :: r => uptoBulkEntry x + uptoBulkEntries r
def uptoBulkEntry {H : Type} : Lit × DataW H → Nat
  | (.string bytes, d) => bytes.length + uptoBulk d + 1
  | (_, d) => uptoBulk d + 1
 end
def uptoSmall : (H : Type) → List (DataW H) → Bool := fun _ ds => decide (uptoBulkAll ds ≤ 1048576)
def OpenSpec.upto (s : _root_.Go.ChangeSpec) : _root_.Go.OpenSpec := { _root_.Go.OpenSpec.ofChange s with cond := some uptoSmall }

/-- 'tmesislaw05.LayoutAll', WHERE WHAT IT READS IS OF BULK AT MOST 1048576: true; the input reads as it did. -/
def layoutAllUptoRow : OpenClaim := { program := "ytfmhhjimnhfbaaadoor", sum := "65221c796fce5c47559d6f4e0717093d1a8bc9966bff1276068b11623129a3f3", func := "tmesis/tmesislaw05.LayoutAll", spec := "layoutAll", inPlace := ["internal/bytealg.IndexByte"], named := ["tmesis/class.members"], apart := false, laid := [("tmesis/class.members", laid_tmesis_class_members)], narrowed := true }
def LayoutAllUptoSaid : Prop := layoutAllUptoRow.holds Tryd.pinned (OpenSpec.upto layoutAllSpec)

/-- 'tmesislaw05.LayoutEnds', WHERE WHAT IT READS IS OF BULK AT MOST 1048576: true; the input reads as it did. -/
def layoutEndsUptoRow : OpenClaim := { program := "ytfmhhjimnhfbaaadoor", sum := "65221c796fce5c47559d6f4e0717093d1a8bc9966bff1276068b11623129a3f3", func := "tmesis/tmesislaw05.LayoutEnds", spec := "layoutEnds", inPlace := ["internal/bytealg.IndexByte"], named := ["tmesis/class.members"], apart := false, laid := [("tmesis/class.members", laid_tmesis_class_members)], narrowed := true }
def LayoutEndsUptoSaid : Prop := layoutEndsUptoRow.holds Tryd.pinned (OpenSpec.upto layoutEndsSpec)

/-- 'tmesislaw05.LayoutComments', WHERE WHAT IT READS IS OF BULK AT MOST 1048576: true; the input reads as it did. -/
def layoutCommentsUptoRow : OpenClaim := { program := "ytfmhhjimnhfbaaadoor", sum := "65221c796fce5c47559d6f4e0717093d1a8bc9966bff1276068b11623129a3f3", func := "tmesis/tmesislaw05.LayoutComments", spec := "layoutComments", inPlace := ["internal/bytealg.IndexByte"], named := ["tmesis/class.members"], apart := false, laid := [("tmesis/class.members", laid_tmesis_class_members)], narrowed := true }
def LayoutCommentsUptoSaid : Prop := layoutCommentsUptoRow.holds Tryd.pinned (OpenSpec.upto layoutCommentsSpec)

/-- 'tmesislaw05.LayoutLines', WHERE WHAT IT READS IS OF BULK AT MOST 1048576: true; the input reads as it did. -/
def layoutLinesUptoRow : OpenClaim := { program := "ytfmhhjimnhfbaaadoor", sum := "65221c796fce5c47559d6f4e0717093d1a8bc9966bff1276068b11623129a3f3", func := "tmesis/tmesislaw05.LayoutLines", spec := "layoutLines", inPlace := ["internal/bytealg.IndexByte"], named := ["tmesis/class.members"], apart := false, laid := [("tmesis/class.members", laid_tmesis_class_members)], narrowed := true }
def LayoutLinesUptoSaid : Prop := layoutLinesUptoRow.holds Tryd.pinned (OpenSpec.upto layoutLinesSpec)

end Rows
end Go.Proofs.YtfmhhjimnhfbaaaDoor
