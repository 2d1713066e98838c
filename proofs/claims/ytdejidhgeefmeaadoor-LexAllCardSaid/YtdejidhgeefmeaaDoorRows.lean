/-
  NARROWER THAN 'FOR EVERY INPUT', by the rows' own cells (each row's printed sentence says how): LexAll: laid · LexOrders: laid · LexBack: laid · LexParts: laid · LexNone: laid · LexJoins: laid.
  DERIVED. THE GIVEN ROWS OF THIS SEAT. 6 by the template 'for every input the law returns true; each argument reads behind the call as it read before'; 0 by the template 'total and deterministic' (their statements: YtdejidhgeefmeaaDoorTotals.lean).
  GIVEN WITH THE SEED: the statements are not yours to turn. If you find one false, say at which input.
  Laid BY PROGRAM, IN A SANDBOX (cutbox-rows.mjs): the forced cells as the released guide's own fill.sh prints them over the translation 3874c69811b11d04… (all of the seat's roots in one cut). By AI agents, Wed Nov 11 2026. No macro, syntax, notation, axiom, sorry.
-/
import Derived.Test.YtdejidhgeefmeaaDoorChecked
import GoSem.PinnedTables
import GoSem.Claim
import GoSem.ClaimJoined
import GoSem.ClaimMapViews
import Derived.JoinedTies
import Derived.KernelRfl
namespace Go.Proofs.YtdejidhgeefmeaaDoor
/- THE CELL 'sum', in the pinned program and in every row, IS THE sha256 OF THE DUMP (.gsa) THAT YtdejidhgeefmeaaDoorProg.lean LOADS. Nothing in Lean hashes anything: it is a label: what it is worth is what the hold of that sum in a sandbox is worth. -/
noncomputable def Tryd.pinned : Pinned := { name := "ytdejidhgeefmeaadoor", sum := "3874c69811b11d04be7ee1ff593b07abfc74fe5abf792060abe17f674c1b5313", checked := Tryd.checked }
namespace Rows
def none {H : Type} : Left H := { results := [], args := [] }

/- WHAT THE LISTED PACKAGE-LEVEL VARIABLES READ AS WHEN THE CALL BEGINS. Each datum BY PROGRAM (the guide's laid-datum.mjs) off the statement by which the dump's own 'gosem.cut.vars' lays the variable. In a bare row this is a premise. The card (YtdejidhgeefmeaaDoorCards.lean) ties it to the program's text. -/
def laid_tmesis_class_members {H : Type} : DataW H := .agg [.agg [.lit (.int .i64 1), .lit (.string [9, 10, 13, 32])], .agg [.lit (.int .i64 2), .lit (.string [97, 98, 99, 100, 101, 102, 103, 104, 105, 106, 107, 108, 109, 110, 111, 112, 113, 114, 115, 116, 117, 118, 119, 120, 121, 122])], .agg [.lit (.int .i64 3), .lit (.string [65, 66, 67, 68, 69, 70, 71, 72, 73, 74, 75, 76, 77, 78, 79, 80, 81, 82, 83, 84, 85, 86, 87, 88, 89, 90, 95])], .agg [.lit (.int .i64 4), .lit (.string [48, 49, 50, 51, 52, 53, 54, 55, 56, 57])], .agg [.lit (.int .i64 5), .lit (.string [43, 45, 42, 47, 92, 94, 60, 62, 61, 126, 58, 46, 63, 64, 35, 38, 36, 33])], .agg [.lit (.int .i64 6), .lit (.string [40, 41, 44, 124, 59, 91, 93, 123, 125])], .agg [.lit (.int .i64 7), .lit (.string [39])], .agg [.lit (.int .i64 8), .lit (.string [37])]]
def laid_unicode_utf8_acceptRanges {H : Type} : DataW H := .agg [.agg [.lit (.int .u8 128), .lit (.int .u8 191)], .agg [.lit (.int .u8 160), .lit (.int .u8 191)], .agg [.lit (.int .u8 128), .lit (.int .u8 159)], .agg [.lit (.int .u8 144), .lit (.int .u8 191)], .agg [.lit (.int .u8 128), .lit (.int .u8 143)], .agg [.lit (.int .u8 0), .lit (.int .u8 0)], .agg [.lit (.int .u8 0), .lit (.int .u8 0)], .agg [.lit (.int .u8 0), .lit (.int .u8 0)], .agg [.lit (.int .u8 0), .lit (.int .u8 0)], .agg [.lit (.int .u8 0), .lit (.int .u8 0)], .agg [.lit (.int .u8 0), .lit (.int .u8 0)], .agg [.lit (.int .u8 0), .lit (.int .u8 0)], .agg [.lit (.int .u8 0), .lit (.int .u8 0)], .agg [.lit (.int .u8 0), .lit (.int .u8 0)], .agg [.lit (.int .u8 0), .lit (.int .u8 0)], .agg [.lit (.int .u8 0), .lit (.int .u8 0)]]
/-- One of Go's own tables, pinned by name: the form's constant. -/
def laid_unicode_utf8_first : DataW Unit := Go.Pinned.utf8First

/-- 'tmesislaw07.LexAll': WHATEVER THE INPUT: true; the input reads as it did. -/
def lexAllSpec : ChangeSpec := { name := "lexAll", fn := fun _ => fun
  | [d1, d2] => { results := [.lit (.bool true)], args := [d1, d2] }
  | _ => none }
def lexAllRow : OpenClaim := { program := "ytdejidhgeefmeaadoor", sum := "3874c69811b11d04be7ee1ff593b07abfc74fe5abf792060abe17f674c1b5313", func := "tmesis/tmesislaw07.LexAll", spec := "lexAll", inPlace := ["internal/bytealg.IndexByte", "internal/bytealg.Count", "internal/bytealg.Index"], unfollowed := true, recurses := true, named := ["tmesis/class.members", "internal/bytealg.MaxLen", "unicode/utf8.first", "unicode/utf8.acceptRanges"], apart := false, laid := [("tmesis/class.members", laid_tmesis_class_members), ("unicode/utf8.acceptRanges", laid_unicode_utf8_acceptRanges), ("unicode/utf8.first", laid_unicode_utf8_first)] }
def LexAllSaid : Prop := lexAllRow.holds Tryd.pinned (OpenSpec.ofChange lexAllSpec)

/-- ITS FALSE NEIGHBOUR: 'it returns false'. Refute it at one input. -/
def lexAllWrong : ChangeSpec := { name := "lexAll", fn := fun _ => fun
  | [d1, d2] => { results := [.lit (.bool false)], args := [d1, d2] }
  | _ => none }
def LexAllWrongFalsely : Prop := lexAllRow.holds Tryd.pinned (OpenSpec.ofChange lexAllWrong)

/-- 'tmesislaw07.LexOrders': WHATEVER THE INPUT: true; the input reads as it did. -/
def lexOrdersSpec : ChangeSpec := { name := "lexOrders", fn := fun _ => fun
  | [d] => { results := [.lit (.bool true)], args := [d] }
  | _ => none }
def lexOrdersRow : OpenClaim := { program := "ytdejidhgeefmeaadoor", sum := "3874c69811b11d04be7ee1ff593b07abfc74fe5abf792060abe17f674c1b5313", func := "tmesis/tmesislaw07.LexOrders", spec := "lexOrders", inPlace := ["internal/bytealg.IndexByte", "internal/bytealg.Count", "internal/bytealg.Index"], unfollowed := true, recurses := true, named := ["tmesis/class.members", "internal/bytealg.MaxLen", "unicode/utf8.first", "unicode/utf8.acceptRanges"], apart := false, laid := [("tmesis/class.members", laid_tmesis_class_members), ("unicode/utf8.acceptRanges", laid_unicode_utf8_acceptRanges), ("unicode/utf8.first", laid_unicode_utf8_first)] }
def LexOrdersSaid : Prop := lexOrdersRow.holds Tryd.pinned (OpenSpec.ofChange lexOrdersSpec)

/-- ITS FALSE NEIGHBOUR: 'it returns false'. Refute it at one input. -/
def lexOrdersWrong : ChangeSpec := { name := "lexOrders", fn := fun _ => fun
  | [d] => { results := [.lit (.bool false)], args := [d] }
  | _ => none }
def LexOrdersWrongFalsely : Prop := lexOrdersRow.holds Tryd.pinned (OpenSpec.ofChange lexOrdersWrong)

/-- 'tmesislaw07.LexBack': WHATEVER THE INPUT: true; the input reads as it did. -/
def lexBackSpec : ChangeSpec := { name := "lexBack", fn := fun _ => fun
  | [d] => { results := [.lit (.bool true)], args := [d] }
  | _ => none }
def lexBackRow : OpenClaim := { program := "ytdejidhgeefmeaadoor", sum := "3874c69811b11d04be7ee1ff593b07abfc74fe5abf792060abe17f674c1b5313", func := "tmesis/tmesislaw07.LexBack", spec := "lexBack", inPlace := ["internal/bytealg.IndexByte", "internal/bytealg.Count", "internal/bytealg.Index"], unfollowed := true, recurses := true, named := ["tmesis/class.members", "internal/bytealg.MaxLen", "unicode/utf8.first", "unicode/utf8.acceptRanges"], apart := false, laid := [("tmesis/class.members", laid_tmesis_class_members), ("unicode/utf8.acceptRanges", laid_unicode_utf8_acceptRanges), ("unicode/utf8.first", laid_unicode_utf8_first)] }
def LexBackSaid : Prop := lexBackRow.holds Tryd.pinned (OpenSpec.ofChange lexBackSpec)

/-- ITS FALSE NEIGHBOUR: 'it returns false'. Refute it at one input. -/
def lexBackWrong : ChangeSpec := { name := "lexBack", fn := fun _ => fun
  | [d] => { results := [.lit (.bool false)], args := [d] }
  | _ => none }
def LexBackWrongFalsely : Prop := lexBackRow.holds Tryd.pinned (OpenSpec.ofChange lexBackWrong)

/-- 'tmesislaw07.LexParts': WHATEVER THE INPUT: true; the input reads as it did. -/
def lexPartsSpec : ChangeSpec := { name := "lexParts", fn := fun _ => fun
  | [d1, d2] => { results := [.lit (.bool true)], args := [d1, d2] }
  | _ => none }
def lexPartsRow : OpenClaim := { program := "ytdejidhgeefmeaadoor", sum := "3874c69811b11d04be7ee1ff593b07abfc74fe5abf792060abe17f674c1b5313", func := "tmesis/tmesislaw07.LexParts", spec := "lexParts", inPlace := ["internal/bytealg.IndexByte", "internal/bytealg.Count", "internal/bytealg.Index"], unfollowed := true, recurses := true, named := ["tmesis/class.members", "internal/bytealg.MaxLen", "unicode/utf8.first", "unicode/utf8.acceptRanges"], apart := false, laid := [("tmesis/class.members", laid_tmesis_class_members), ("unicode/utf8.acceptRanges", laid_unicode_utf8_acceptRanges), ("unicode/utf8.first", laid_unicode_utf8_first)] }
def LexPartsSaid : Prop := lexPartsRow.holds Tryd.pinned (OpenSpec.ofChange lexPartsSpec)

/-- ITS FALSE NEIGHBOUR: 'it returns false'. Refute it at one input. -/
def lexPartsWrong : ChangeSpec := { name := "lexParts", fn := fun _ => fun
  | [d1, d2] => { results := [.lit (.bool false)], args := [d1, d2] }
  | _ => none }
def LexPartsWrongFalsely : Prop := lexPartsRow.holds Tryd.pinned (OpenSpec.ofChange lexPartsWrong)

/-- 'tmesislaw07.LexNone': WHATEVER THE INPUT: true; the input reads as it did. -/
def lexNoneSpec : ChangeSpec := { name := "lexNone", fn := fun _ => fun
  | [d1, d2] => { results := [.lit (.bool true)], args := [d1, d2] }
  | _ => none }
def lexNoneRow : OpenClaim := { program := "ytdejidhgeefmeaadoor", sum := "3874c69811b11d04be7ee1ff593b07abfc74fe5abf792060abe17f674c1b5313", func := "tmesis/tmesislaw07.LexNone", spec := "lexNone", inPlace := ["internal/bytealg.IndexByte", "internal/bytealg.Count", "internal/bytealg.Index"], unfollowed := true, recurses := true, named := ["tmesis/class.members", "internal/bytealg.MaxLen", "unicode/utf8.first", "unicode/utf8.acceptRanges"], apart := false, laid := [("tmesis/class.members", laid_tmesis_class_members), ("unicode/utf8.acceptRanges", laid_unicode_utf8_acceptRanges), ("unicode/utf8.first", laid_unicode_utf8_first)] }
def LexNoneSaid : Prop := lexNoneRow.holds Tryd.pinned (OpenSpec.ofChange lexNoneSpec)

/-- ITS FALSE NEIGHBOUR: 'it returns false'. Refute it at one input. -/
def lexNoneWrong : ChangeSpec := { name := "lexNone", fn := fun _ => fun
  | [d1, d2] => { results := [.lit (.bool false)], args := [d1, d2] }
  | _ => none }
def LexNoneWrongFalsely : Prop := lexNoneRow.holds Tryd.pinned (OpenSpec.ofChange lexNoneWrong)

/-- 'tmesislaw07.LexJoins': WHATEVER THE INPUT: true; the input reads as it did. -/
def lexJoinsSpec : ChangeSpec := { name := "lexJoins", fn := fun _ => fun
  | [d1, d2] => { results := [.lit (.bool true)], args := [d1, d2] }
  | _ => none }
def lexJoinsRow : OpenClaim := { program := "ytdejidhgeefmeaadoor", sum := "3874c69811b11d04be7ee1ff593b07abfc74fe5abf792060abe17f674c1b5313", func := "tmesis/tmesislaw07.LexJoins", spec := "lexJoins", inPlace := ["internal/bytealg.IndexByte", "internal/bytealg.Count", "internal/bytealg.Index"], unfollowed := true, recurses := true, named := ["tmesis/class.members", "internal/bytealg.MaxLen", "unicode/utf8.first", "unicode/utf8.acceptRanges"], apart := false, laid := [("tmesis/class.members", laid_tmesis_class_members), ("unicode/utf8.acceptRanges", laid_unicode_utf8_acceptRanges), ("unicode/utf8.first", laid_unicode_utf8_first)] }
def LexJoinsSaid : Prop := lexJoinsRow.holds Tryd.pinned (OpenSpec.ofChange lexJoinsSpec)

/-- ITS FALSE NEIGHBOUR: 'it returns false'. Refute it at one input. -/
def lexJoinsWrong : ChangeSpec := { name := "lexJoins", fn := fun _ => fun
  | [d1, d2] => { results := [.lit (.bool false)], args := [d1, d2] }
  | _ => none }
def LexJoinsWrongFalsely : Prop := lexJoinsRow.holds Tryd.pinned (OpenSpec.ofChange lexJoinsWrong)

/- THE SECOND FORM. 'bulk': how many values and letters a reading holds, each counted each time it is reached (what is shared counts as often as it is met; a slice's spare places count too). A statement '..UptoSaid' is the law's where the arguments, and the package variables that the reading takes, are together of bulk at most 1048576: NARROWER than '..Said'. Prove '..Said' where nothing that the law and all that it calls make is longer than what came in: it says more and counts as full. Else prove '..UptoSaid'. A law counts once. -/
mutual
def uptoBulk {H : Type} : DataW H → Nat
  | .lit (.string bytes) => bytes.length + 1
  | .lit _ => 1
  | .nil => 1
  | .ptr d => uptoBulk d + 1
  | .slice elems spare => uptoBulkAll elems + uptoBulkAll spare + 1
  | .agg parts => uptoBulkAll parts + 1
  | .iface _ d => uptoBulk d + 1
  | .map entries => uptoBulkEntries entries + 1
  | .held _ => 1
def uptoBulkAll {H : Type} : List (DataW H) → Nat
  | [] => 0
  | d :: r => uptoBulk d + uptoBulkAll r
def uptoBulkEntries {H : Type} : List (Lit × DataW H) → Nat
  | [] => 0
  | x :: r => uptoBulkEntry x + uptoBulkEntries r
def uptoBulkEntry {H : Type} : Lit × DataW H → Nat
  | (.string bytes, d) => bytes.length + uptoBulk d + 1
  | (_, d) => uptoBulk d + 1
 end
def uptoSmall : (H : Type) → List (DataW H) → Bool := fun _ ds => decide (uptoBulkAll ds ≤ 1048576)
def OpenSpec.upto (s : _root_.Go.ChangeSpec) : _root_.Go.OpenSpec := { _root_.Go.OpenSpec.ofChange s with cond := some uptoSmall }

/-- 'tmesislaw07.LexAll', WHERE WHAT IT READS IS OF BULK AT MOST 1048576: true; the input reads as it did. -/
def lexAllUptoRow : OpenClaim := { program := "ytdejidhgeefmeaadoor", sum := "3874c69811b11d04be7ee1ff593b07abfc74fe5abf792060abe17f674c1b5313", func := "tmesis/tmesislaw07.LexAll", spec := "lexAll", inPlace := ["internal/bytealg.IndexByte", "internal/bytealg.Count", "internal/bytealg.Index"], unfollowed := true, recurses := true, named := ["tmesis/class.members", "internal/bytealg.MaxLen", "unicode/utf8.first", "unicode/utf8.acceptRanges"], apart := false, laid := [("tmesis/class.members", laid_tmesis_class_members), ("unicode/utf8.acceptRanges", laid_unicode_utf8_acceptRanges), ("unicode/utf8.first", laid_unicode_utf8_first)], narrowed := true }
def LexAllUptoSaid : Prop := lexAllUptoRow.holds Tryd.pinned (OpenSpec.upto lexAllSpec)

/-- 'tmesislaw07.LexOrders', WHERE WHAT IT READS IS OF BULK AT MOST 1048576: true; the input reads as it did. -/
def lexOrdersUptoRow : OpenClaim := { program := "ytdejidhgeefmeaadoor", sum := "3874c69811b11d04be7ee1ff593b07abfc74fe5abf792060abe17f674c1b5313", func := "tmesis/tmesislaw07.LexOrders", spec := "lexOrders", inPlace := ["internal/bytealg.IndexByte", "internal/bytealg.Count", "internal/bytealg.Index"], unfollowed := true, recurses := true, named := ["tmesis/class.members", "internal/bytealg.MaxLen", "unicode/utf8.first", "unicode/utf8.acceptRanges"], apart := false, laid := [("tmesis/class.members", laid_tmesis_class_members), ("unicode/utf8.acceptRanges", laid_unicode_utf8_acceptRanges), ("unicode/utf8.first", laid_unicode_utf8_first)], narrowed := true }
def LexOrdersUptoSaid : Prop := lexOrdersUptoRow.holds Tryd.pinned (OpenSpec.upto lexOrdersSpec)

/-- 'tmesislaw07.LexBack', WHERE WHAT IT READS IS OF BULK AT MOST 1048576: true; the input reads as it did. -/
def lexBackUptoRow : OpenClaim := { program := "ytdejidhgeefmeaadoor", sum := "3874c69811b11d04be7ee1ff593b07abfc74fe5abf792060abe17f674c1b5313", func := "tmesis/tmesislaw07.LexBack", spec := "lexBack", inPlace := ["internal/bytealg.IndexByte", "internal/bytealg.Count", "internal/bytealg.Index"], unfollowed := true, recurses := true, named := ["tmesis/class.members", "internal/bytealg.MaxLen", "unicode/utf8.first", "unicode/utf8.acceptRanges"], apart := false, laid := [("tmesis/class.members", laid_tmesis_class_members), ("unicode/utf8.acceptRanges", laid_unicode_utf8_acceptRanges), ("unicode/utf8.first", laid_unicode_utf8_first)], narrowed := true }
def LexBackUptoSaid : Prop := lexBackUptoRow.holds Tryd.pinned (OpenSpec.upto lexBackSpec)

/-- 'tmesislaw07.LexParts', WHERE WHAT IT READS IS OF BULK AT MOST 1048576: true; the input reads as it did. -/
def lexPartsUptoRow : OpenClaim := { program := "ytdejidhgeefmeaadoor", sum := "3874c69811b11d04be7ee1ff593b07abfc74fe5abf792060abe17f674c1b5313", func := "tmesis/tmesislaw07.LexParts", spec := "lexParts", inPlace := ["internal/bytealg.IndexByte", "internal/bytealg.Count", "internal/bytealg.Index"], unfollowed := true, recurses := true, named := ["tmesis/class.members", "internal/bytealg.MaxLen", "unicode/utf8.first", "unicode/utf8.acceptRanges"], apart := false, laid := [("tmesis/class.members", laid_tmesis_class_members), ("unicode/utf8.acceptRanges", laid_unicode_utf8_acceptRanges), ("unicode/utf8.first", laid_unicode_utf8_first)], narrowed := true }
def LexPartsUptoSaid : Prop := lexPartsUptoRow.holds Tryd.pinned (OpenSpec.upto lexPartsSpec)

/-- 'tmesislaw07.LexNone', WHERE WHAT IT READS IS OF BULK AT MOST 1048576: true; the input reads as it did. -/
def lexNoneUptoRow : OpenClaim := { program := "ytdejidhgeefmeaadoor", sum := "3874c69811b11d04be7ee1ff593b07abfc74fe5abf792060abe17f674c1b5313", func := "tmesis/tmesislaw07.LexNone", spec := "lexNone", inPlace := ["internal/bytealg.IndexByte", "internal/bytealg.Count", "internal/bytealg.Index"], unfollowed := true, recurses := true, named := ["tmesis/class.members", "internal/bytealg.MaxLen", "unicode/utf8.first", "unicode/utf8.acceptRanges"], apart := false, laid := [("tmesis/class.members", laid_tmesis_class_members), ("unicode/utf8.acceptRanges", laid_unicode_utf8_acceptRanges), ("unicode/utf8.first", laid_unicode_utf8_first)], narrowed := true }
def LexNoneUptoSaid : Prop := lexNoneUptoRow.holds Tryd.pinned (OpenSpec.upto lexNoneSpec)

/-- 'tmesislaw07.LexJoins', WHERE WHAT IT READS IS OF BULK AT MOST 1048576: true; the input reads as it did. -/
def lexJoinsUptoRow : OpenClaim := { program := "ytdejidhgeefmeaadoor", sum := "3874c69811b11d04be7ee1ff593b07abfc74fe5abf792060abe17f674c1b5313", func := "tmesis/tmesislaw07.LexJoins", spec := "lexJoins", inPlace := ["internal/bytealg.IndexByte", "internal/bytealg.Count", "internal/bytealg.Index"], unfollowed := true, recurses := true, named := ["tmesis/class.members", "internal/bytealg.MaxLen", "unicode/utf8.first", "unicode/utf8.acceptRanges"], apart := false, laid := [("tmesis/class.members", laid_tmesis_class_members), ("unicode/utf8.acceptRanges", laid_unicode_utf8_acceptRanges), ("unicode/utf8.first", laid_unicode_utf8_first)], narrowed := true }
def LexJoinsUptoSaid : Prop := lexJoinsUptoRow.holds Tryd.pinned (OpenSpec.upto lexJoinsSpec)

end Rows
end Go.Proofs.YtdejidhgeefmeaaDoor
