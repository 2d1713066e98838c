/-
  NARROWER THAN 'FOR EVERY INPUT', by the rows' own cells (each row's printed sentence says how): SplitAll: laid · SplitWhole: laid · SplitNames: laid · SplitNest: laid · SplitJoins: laid.
  DERIVED. THE GIVEN ROWS OF THIS SEAT. 5 by the template 'for every input the law returns true; each argument reads behind the call as it read before'; 0 by the template 'total and deterministic' (their statements: YtpkklbdclghcfaaDoorTotals.lean).
  GIVEN WITH THE SEED: the statements are not yours to turn. If you find one false, say at which input.
  Laid BY PROGRAM, IN A SANDBOX (cutbox-rows.mjs): the forced cells as the released guide's own fill.sh prints them over the translation 70029677991c68db… (all of the seat's roots in one cut). By AI agents, Wed Nov 11 2026. No macro, syntax, notation, axiom, sorry.
-/
import Derived.Test.YtpkklbdclghcfaaDoorChecked
import GoSem.Claim
import GoSem.ClaimJoined
import GoSem.ClaimMapViews
import Derived.JoinedTies
import Derived.KernelRfl
namespace Go.Proofs.YtpkklbdclghcfaaDoor
/- THE CELL 'sum', in the pinned program and in every row, IS THE sha256 OF THE DUMP (.gsa) THAT YtpkklbdclghcfaaDoorProg.lean LOADS. Nothing in Lean hashes anything: it is a label: what it is worth is what the hold of that sum in a sandbox is worth. -/
noncomputable def Tryd.pinned : Pinned := { name := "ytpkklbdclghcfaadoor", sum := "70029677991c68db3574ce4581bcd04d3e7eaaf0d749f9e0bc8181700e912691", checked := Tryd.checked }
namespace Rows
def none {H : Type} : Left H := { results := [], args := [] }

/- WHAT THE LISTED PACKAGE-LEVEL VARIABLES READ AS WHEN THE CALL BEGINS. Each datum BY PROGRAM (the guide's laid-datum.mjs) off the statement by which the dump's own 'gosem.cut.vars' lays the variable. In a bare row this is a premise. The card (YtpkklbdclghcfaaDoorCards.lean) ties it to the program's text. -/
def laid_tmesis_class_members {H : Type} : DataW H := .agg [.agg [.lit (.int .i64 1), .lit (.string [9, 10, 13, 32])], .agg [.lit (.int .i64 2), .lit (.string [97, 98, 99, 100, 101, 102, 103, 104, 105, 106, 107, 108, 109, 110, 111, 112, 113, 114, 115, 116, 117, 118, 119, 120, 121, 122])], .agg [.lit (.int .i64 3), .lit (.string [65, 66, 67, 68, 69, 70, 71, 72, 73, 74, 75, 76, 77, 78, 79, 80, 81, 82, 83, 84, 85, 86, 87, 88, 89, 90, 95])], .agg [.lit (.int .i64 4), .lit (.string [48, 49, 50, 51, 52, 53, 54, 55, 56, 57])], .agg [.lit (.int .i64 5), .lit (.string [43, 45, 42, 47, 92, 94, 60, 62, 61, 126, 58, 46, 63, 64, 35, 38, 36, 33])], .agg [.lit (.int .i64 6), .lit (.string [40, 41, 44, 124, 59, 91, 93, 123, 125])], .agg [.lit (.int .i64 7), .lit (.string [39])], .agg [.lit (.int .i64 8), .lit (.string [37])]]

/-- 'tmesislaw10.SplitAll': WHATEVER THE INPUT: true; the input reads as it did. -/
def splitAllSpec : ChangeSpec := { name := "splitAll", fn := fun _ => fun
  | [d1, d2] => { results := [.lit (.bool true)], args := [d1, d2] }
  | _ => none }
def splitAllRow : OpenClaim := { program := "ytpkklbdclghcfaadoor", sum := "70029677991c68db3574ce4581bcd04d3e7eaaf0d749f9e0bc8181700e912691", func := "tmesis/tmesislaw10.SplitAll", spec := "splitAll", inPlace := ["internal/bytealg.IndexByte"], unfollowed := true, recurses := true, named := ["tmesis/class.members"], apart := false, laid := [("tmesis/class.members", laid_tmesis_class_members)] }
def SplitAllSaid : Prop := splitAllRow.holds Tryd.pinned (OpenSpec.ofChange splitAllSpec)

/-- ITS FALSE NEIGHBOUR: 'it returns false'. Refute it at one input. -/
def splitAllWrong : ChangeSpec := { name := "splitAll", fn := fun _ => fun
  | [d1, d2] => { results := [.lit (.bool false)], args := [d1, d2] }
  | _ => none }
def SplitAllWrongFalsely : Prop := splitAllRow.holds Tryd.pinned (OpenSpec.ofChange splitAllWrong)

/-- 'tmesislaw10.SplitWhole': WHATEVER THE INPUT: true; the input reads as it did. -/
def splitWholeSpec : ChangeSpec := { name := "splitWhole", fn := fun _ => fun
  | [d] => { results := [.lit (.bool true)], args := [d] }
  | _ => none }
def splitWholeRow : OpenClaim := { program := "ytpkklbdclghcfaadoor", sum := "70029677991c68db3574ce4581bcd04d3e7eaaf0d749f9e0bc8181700e912691", func := "tmesis/tmesislaw10.SplitWhole", spec := "splitWhole", inPlace := ["internal/bytealg.IndexByte"], unfollowed := true, recurses := true, named := ["tmesis/class.members"], apart := false, laid := [("tmesis/class.members", laid_tmesis_class_members)] }
def SplitWholeSaid : Prop := splitWholeRow.holds Tryd.pinned (OpenSpec.ofChange splitWholeSpec)

/-- ITS FALSE NEIGHBOUR: 'it returns false'. Refute it at one input. -/
def splitWholeWrong : ChangeSpec := { name := "splitWhole", fn := fun _ => fun
  | [d] => { results := [.lit (.bool false)], args := [d] }
  | _ => none }
def SplitWholeWrongFalsely : Prop := splitWholeRow.holds Tryd.pinned (OpenSpec.ofChange splitWholeWrong)

/-- 'tmesislaw10.SplitNames': WHATEVER THE INPUT: true; the input reads as it did. -/
def splitNamesSpec : ChangeSpec := { name := "splitNames", fn := fun _ => fun
  | [d] => { results := [.lit (.bool true)], args := [d] }
  | _ => none }
def splitNamesRow : OpenClaim := { program := "ytpkklbdclghcfaadoor", sum := "70029677991c68db3574ce4581bcd04d3e7eaaf0d749f9e0bc8181700e912691", func := "tmesis/tmesislaw10.SplitNames", spec := "splitNames", inPlace := ["internal/bytealg.IndexByte"], unfollowed := true, recurses := true, named := ["tmesis/class.members"], apart := false, laid := [("tmesis/class.members", laid_tmesis_class_members)] }
def SplitNamesSaid : Prop := splitNamesRow.holds Tryd.pinned (OpenSpec.ofChange splitNamesSpec)

/-- ITS FALSE NEIGHBOUR: 'it returns false'. Refute it at one input. -/
def splitNamesWrong : ChangeSpec := { name := "splitNames", fn := fun _ => fun
  | [d] => { results := [.lit (.bool false)], args := [d] }
  | _ => none }
def SplitNamesWrongFalsely : Prop := splitNamesRow.holds Tryd.pinned (OpenSpec.ofChange splitNamesWrong)

/-- 'tmesislaw10.SplitNest': WHATEVER THE INPUT: true; the input reads as it did. -/
def splitNestSpec : ChangeSpec := { name := "splitNest", fn := fun _ => fun
  | [d] => { results := [.lit (.bool true)], args := [d] }
  | _ => none }
def splitNestRow : OpenClaim := { program := "ytpkklbdclghcfaadoor", sum := "70029677991c68db3574ce4581bcd04d3e7eaaf0d749f9e0bc8181700e912691", func := "tmesis/tmesislaw10.SplitNest", spec := "splitNest", inPlace := ["internal/bytealg.IndexByte"], unfollowed := true, recurses := true, named := ["tmesis/class.members"], apart := false, laid := [("tmesis/class.members", laid_tmesis_class_members)] }
def SplitNestSaid : Prop := splitNestRow.holds Tryd.pinned (OpenSpec.ofChange splitNestSpec)

/-- ITS FALSE NEIGHBOUR: 'it returns false'. Refute it at one input. -/
def splitNestWrong : ChangeSpec := { name := "splitNest", fn := fun _ => fun
  | [d] => { results := [.lit (.bool false)], args := [d] }
  | _ => none }
def SplitNestWrongFalsely : Prop := splitNestRow.holds Tryd.pinned (OpenSpec.ofChange splitNestWrong)

/-- 'tmesislaw10.SplitJoins': WHATEVER THE INPUT: true; the input reads as it did. -/
def splitJoinsSpec : ChangeSpec := { name := "splitJoins", fn := fun _ => fun
  | [d1, d2] => { results := [.lit (.bool true)], args := [d1, d2] }
  | _ => none }
def splitJoinsRow : OpenClaim := { program := "ytpkklbdclghcfaadoor", sum := "70029677991c68db3574ce4581bcd04d3e7eaaf0d749f9e0bc8181700e912691", func := "tmesis/tmesislaw10.SplitJoins", spec := "splitJoins", inPlace := ["internal/bytealg.IndexByte"], unfollowed := true, recurses := true, named := ["tmesis/class.members"], apart := false, laid := [("tmesis/class.members", laid_tmesis_class_members)] }
def SplitJoinsSaid : Prop := splitJoinsRow.holds Tryd.pinned (OpenSpec.ofChange splitJoinsSpec)

/-- ITS FALSE NEIGHBOUR: 'it returns false'. Refute it at one input. -/
def splitJoinsWrong : ChangeSpec := { name := "splitJoins", fn := fun _ => fun
  | [d1, d2] => { results := [.lit (.bool false)], args := [d1, d2] }
  | _ => none }
def SplitJoinsWrongFalsely : Prop := splitJoinsRow.holds Tryd.pinned (OpenSpec.ofChange splitJoinsWrong)

/- THE SECOND FORM. 'bulk': how many values and letters a reading holds, each counted each time it is reached (what is shared counts as often as it is met; a slice's spare places count too). A statement '..UptoSaid' is the law's where the arguments, and the package variables that the reading takes, are together of bulk at most 1048576: NARROWER than '..Said'. Prove '..Said' where nothing that the law and all that it calls make is longer than what came in: it says more and counts as full. Else prove '..UptoSaid'. A law counts once. -/
mutual
def uptoBulk {H : Type} : DataW H → Nat
  | .lit (.string bytes) => bytes.length + 1
  | .lit _ => 1
  | .nil => 1
  | .ptr d => uptoBulk d + 1
  | .slice elems spare => uptoBulkAll elems + uptoBulkAll spare + 1
  | .agg parts => uptoBulkAll parts + 1
  | .iface _ d => uptoBulk d + 1
  | .map entries => uptoBulkEntries entries + 1
  | .held _ => 1
def uptoBulkAll {H : Type} : List (DataW H) → Nat
  | [] => 0
  | d :: r => uptoBulk d + uptoBulkAll r
def uptoBulkEntries {H : Type} : List (Lit × DataW H) → Nat
  | [] => 0
  | x :: r => uptoBulkEntry x + uptoBulkEntries r
def uptoBulkEntry {H : Type} : Lit × DataW H → Nat
  | (.string bytes, d) => bytes.length + uptoBulk d + 1
  | (_, d) => uptoBulk d + 1
 end
def uptoSmall : (H : Type) → List (DataW H) → Bool := fun _ ds => decide (uptoBulkAll ds ≤ 1048576)
def OpenSpec.upto (s : _root_.Go.ChangeSpec) : _root_.Go.OpenSpec := { _root_.Go.OpenSpec.ofChange s with cond := some uptoSmall }

/-- 'tmesislaw10.SplitAll', WHERE WHAT IT READS IS OF BULK AT MOST 1048576: true; the input reads as it did. -/
def splitAllUptoRow : OpenClaim := { program := "ytpkklbdclghcfaadoor", sum := "70029677991c68db3574ce4581bcd04d3e7eaaf0d749f9e0bc8181700e912691", func := "tmesis/tmesislaw10.SplitAll", spec := "splitAll", inPlace := ["internal/bytealg.IndexByte"], unfollowed := true, recurses := true, named := ["tmesis/class.members"], apart := false, laid := [("tmesis/class.members", laid_tmesis_class_members)], narrowed := true }
def SplitAllUptoSaid : Prop := splitAllUptoRow.holds Tryd.pinned (OpenSpec.upto splitAllSpec)

/-- 'tmesislaw10.SplitWhole', WHERE WHAT IT READS IS OF BULK AT MOST 1048576: true; the input reads as it did. -/
def splitWholeUptoRow : OpenClaim := { program := "ytpkklbdclghcfaadoor", sum := "70029677991c68db3574ce4581bcd04d3e7eaaf0d749f9e0bc8181700e912691", func := "tmesis/tmesislaw10.SplitWhole", spec := "splitWhole", inPlace := ["internal/bytealg.IndexByte"], unfollowed := true, recurses := true, named := ["tmesis/class.members"], apart := false, laid := [("tmesis/class.members", laid_tmesis_class_members)], narrowed := true }
def SplitWholeUptoSaid : Prop := splitWholeUptoRow.holds Tryd.pinned (OpenSpec.upto splitWholeSpec)

/-- 'tmesislaw10.SplitNames', WHERE WHAT IT READS IS OF BULK AT MOST 1048576: true; the input reads as it did. -/
def splitNamesUptoRow : OpenClaim := { program := "ytpkklbdclghcfaadoor", sum := "70029677991c68db3574ce4581bcd04d3e7eaaf0d749f9e0bc8181700e912691", func := "tmesis/tmesislaw10.SplitNames", spec := "splitNames", inPlace := ["internal/bytealg.IndexByte"], unfollowed := true, recurses := true, named := ["tmesis/class.members"], apart := false, laid := [("tmesis/class.members", laid_tmesis_class_members)], narrowed := true }
def SplitNamesUptoSaid : Prop := splitNamesUptoRow.holds Tryd.pinned (OpenSpec.upto splitNamesSpec)

/-- 'tmesislaw10.SplitNest', WHERE WHAT IT READS IS OF BULK AT MOST 1048576: true; the input reads as it did. -/
def splitNestUptoRow : OpenClaim := { program := "ytpkklbdclghcfaadoor", sum := "70029677991c68db3574ce4581bcd04d3e7eaaf0d749f9e0bc8181700e912691", func := "tmesis/tmesislaw10.SplitNest", spec := "splitNest", inPlace := ["internal/bytealg.IndexByte"], unfollowed := true, recurses := true, named := ["tmesis/class.members"], apart := false, laid := [("tmesis/class.members", laid_tmesis_class_members)], narrowed := true }
def SplitNestUptoSaid : Prop := splitNestUptoRow.holds Tryd.pinned (OpenSpec.upto splitNestSpec)

/-- 'tmesislaw10.SplitJoins', WHERE WHAT IT READS IS OF BULK AT MOST 1048576: true; the input reads as it did. -/
def splitJoinsUptoRow : OpenClaim := { program := "ytpkklbdclghcfaadoor", sum := "70029677991c68db3574ce4581bcd04d3e7eaaf0d749f9e0bc8181700e912691", func := "tmesis/tmesislaw10.SplitJoins", spec := "splitJoins", inPlace := ["internal/bytealg.IndexByte"], unfollowed := true, recurses := true, named := ["tmesis/class.members"], apart := false, laid := [("tmesis/class.members", laid_tmesis_class_members)], narrowed := true }
def SplitJoinsUptoSaid : Prop := splitJoinsUptoRow.holds Tryd.pinned (OpenSpec.upto splitJoinsSpec)

end Rows
end Go.Proofs.YtpkklbdclghcfaaDoor
