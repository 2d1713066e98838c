/-
  NARROWER THAN 'FOR EVERY INPUT', by the rows' own cells (each row's printed sentence says how): QuoteAll: laid · QuoteCuts: laid · QuotePlain: laid · QuoteFirst: laid · QuoteBack: laid.
  DERIVED. THE GIVEN ROWS OF THIS SEAT. 5 by the template 'for every input the law returns true; each argument reads behind the call as it read before'; 0 by the template 'total and deterministic' (their statements: YtkicabbgcopjdaaDoorTotals.lean).
  GIVEN WITH THE SEED: the statements are not yours to turn. If you find one false, say at which input.
  Laid BY PROGRAM, IN A SANDBOX (cutbox-rows.mjs): the forced cells as the released guide's own fill.sh prints them over the translation 7174cd4b0ba8e375… (all of the seat's roots in one cut). By AI agents, Wed Nov 11 2026. No macro, syntax, notation, axiom, sorry.
-/
import Derived.Test.YtkicabbgcopjdaaDoorChecked
import GoSem.PinnedTables
import GoSem.Claim
import GoSem.ClaimJoined
import GoSem.ClaimMapViews
import Derived.JoinedTies
import Derived.KernelRfl
namespace Go.Proofs.YtkicabbgcopjdaaDoor
/- THE CELL 'sum', in the pinned program and in every row, IS THE sha256 OF THE DUMP (.gsa) THAT YtkicabbgcopjdaaDoorProg.lean LOADS. Nothing in Lean hashes anything: it is a label: what it is worth is what the hold of that sum in a sandbox is worth. -/
noncomputable def Tryd.pinned : Pinned := { name := "ytkicabbgcopjdaadoor", sum := "7174cd4b0ba8e3758cfe0d822dc60767d2dc136b0eb1137408440ffa1d5ea39f", checked := Tryd.checked }
namespace Rows
def none {H : Type} : Left H := { results := [], args := [] }

/- WHAT THE LISTED PACKAGE-LEVEL VARIABLES READ AS WHEN THE CALL BEGINS. Each datum BY PROGRAM (the guide's laid-datum.mjs) off the statement by which the dump's own 'gosem.cut.vars' lays the variable. In a bare row this is a premise. The card (YtkicabbgcopjdaaDoorCards.lean) ties it to the program's text. -/
def laid_unicode_utf8_acceptRanges {H : Type} : DataW H := .agg [.agg [.lit (.int .u8 128), .lit (.int .u8 191)], .agg [.lit (.int .u8 160), .lit (.int .u8 191)], .agg [.lit (.int .u8 128), .lit (.int .u8 159)], .agg [.lit (.int .u8 144), .lit (.int .u8 191)], .agg [.lit (.int .u8 128), .lit (.int .u8 143)], .agg [.lit (.int .u8 0), .lit (.int .u8 0)], .agg [.lit (.int .u8 0), .lit (.int .u8 0)], .agg [.lit (.int .u8 0), .lit (.int .u8 0)], .agg [.lit (.int .u8 0), .lit (.int .u8 0)], .agg [.lit (.int .u8 0), .lit (.int .u8 0)], .agg [.lit (.int .u8 0), .lit (.int .u8 0)], .agg [.lit (.int .u8 0), .lit (.int .u8 0)], .agg [.lit (.int .u8 0), .lit (.int .u8 0)], .agg [.lit (.int .u8 0), .lit (.int .u8 0)], .agg [.lit (.int .u8 0), .lit (.int .u8 0)], .agg [.lit (.int .u8 0), .lit (.int .u8 0)]]
/-- One of Go's own tables, pinned by name: the form's constant. -/
def laid_unicode_utf8_first : DataW Unit := Go.Pinned.utf8First

/-- 'tmesislaw04.QuoteAll': WHATEVER THE INPUT: true; the input reads as it did. -/
def quoteAllSpec : ChangeSpec := { name := "quoteAll", fn := fun _ => fun
  | [d1, d2] => { results := [.lit (.bool true)], args := [d1, d2] }
  | _ => none }
def quoteAllRow : OpenClaim := { program := "ytkicabbgcopjdaadoor", sum := "7174cd4b0ba8e3758cfe0d822dc60767d2dc136b0eb1137408440ffa1d5ea39f", func := "tmesis/tmesislaw04.QuoteAll", spec := "quoteAll", inPlace := ["internal/bytealg.Count", "internal/bytealg.IndexByte", "internal/bytealg.Index"], named := ["internal/bytealg.MaxLen", "unicode/utf8.first", "unicode/utf8.acceptRanges"], apart := false, laid := [("unicode/utf8.acceptRanges", laid_unicode_utf8_acceptRanges), ("unicode/utf8.first", laid_unicode_utf8_first)] }
def QuoteAllSaid : Prop := quoteAllRow.holds Tryd.pinned (OpenSpec.ofChange quoteAllSpec)

/-- ITS FALSE NEIGHBOUR: 'it returns false'. Refute it at one input. -/
def quoteAllWrong : ChangeSpec := { name := "quoteAll", fn := fun _ => fun
  | [d1, d2] => { results := [.lit (.bool false)], args := [d1, d2] }
  | _ => none }
def QuoteAllWrongFalsely : Prop := quoteAllRow.holds Tryd.pinned (OpenSpec.ofChange quoteAllWrong)

/-- 'tmesislaw04.QuoteCuts': WHATEVER THE INPUT: true; the input reads as it did. -/
def quoteCutsSpec : ChangeSpec := { name := "quoteCuts", fn := fun _ => fun
  | [d1, d2] => { results := [.lit (.bool true)], args := [d1, d2] }
  | _ => none }
def quoteCutsRow : OpenClaim := { program := "ytkicabbgcopjdaadoor", sum := "7174cd4b0ba8e3758cfe0d822dc60767d2dc136b0eb1137408440ffa1d5ea39f", func := "tmesis/tmesislaw04.QuoteCuts", spec := "quoteCuts", inPlace := ["internal/bytealg.Count", "internal/bytealg.IndexByte", "internal/bytealg.Index"], named := ["internal/bytealg.MaxLen", "unicode/utf8.first", "unicode/utf8.acceptRanges"], apart := false, laid := [("unicode/utf8.acceptRanges", laid_unicode_utf8_acceptRanges), ("unicode/utf8.first", laid_unicode_utf8_first)] }
def QuoteCutsSaid : Prop := quoteCutsRow.holds Tryd.pinned (OpenSpec.ofChange quoteCutsSpec)

/-- ITS FALSE NEIGHBOUR: 'it returns false'. Refute it at one input. -/
def quoteCutsWrong : ChangeSpec := { name := "quoteCuts", fn := fun _ => fun
  | [d1, d2] => { results := [.lit (.bool false)], args := [d1, d2] }
  | _ => none }
def QuoteCutsWrongFalsely : Prop := quoteCutsRow.holds Tryd.pinned (OpenSpec.ofChange quoteCutsWrong)

/-- 'tmesislaw04.QuotePlain': WHATEVER THE INPUT: true; the input reads as it did. -/
def quotePlainSpec : ChangeSpec := { name := "quotePlain", fn := fun _ => fun
  | [d1, d2] => { results := [.lit (.bool true)], args := [d1, d2] }
  | _ => none }
def quotePlainRow : OpenClaim := { program := "ytkicabbgcopjdaadoor", sum := "7174cd4b0ba8e3758cfe0d822dc60767d2dc136b0eb1137408440ffa1d5ea39f", func := "tmesis/tmesislaw04.QuotePlain", spec := "quotePlain", inPlace := ["internal/bytealg.Count", "internal/bytealg.IndexByte", "internal/bytealg.Index"], named := ["internal/bytealg.MaxLen", "unicode/utf8.first", "unicode/utf8.acceptRanges"], apart := false, laid := [("unicode/utf8.acceptRanges", laid_unicode_utf8_acceptRanges), ("unicode/utf8.first", laid_unicode_utf8_first)] }
def QuotePlainSaid : Prop := quotePlainRow.holds Tryd.pinned (OpenSpec.ofChange quotePlainSpec)

/-- ITS FALSE NEIGHBOUR: 'it returns false'. Refute it at one input. -/
def quotePlainWrong : ChangeSpec := { name := "quotePlain", fn := fun _ => fun
  | [d1, d2] => { results := [.lit (.bool false)], args := [d1, d2] }
  | _ => none }
def QuotePlainWrongFalsely : Prop := quotePlainRow.holds Tryd.pinned (OpenSpec.ofChange quotePlainWrong)

/-- 'tmesislaw04.QuoteFirst': WHATEVER THE INPUT: true; the input reads as it did. -/
def quoteFirstSpec : ChangeSpec := { name := "quoteFirst", fn := fun _ => fun
  | [d1, d2, d3] => { results := [.lit (.bool true)], args := [d1, d2, d3] }
  | _ => none }
def quoteFirstRow : OpenClaim := { program := "ytkicabbgcopjdaadoor", sum := "7174cd4b0ba8e3758cfe0d822dc60767d2dc136b0eb1137408440ffa1d5ea39f", func := "tmesis/tmesislaw04.QuoteFirst", spec := "quoteFirst", inPlace := ["internal/bytealg.Count", "internal/bytealg.IndexByte", "internal/bytealg.Index"], named := ["internal/bytealg.MaxLen", "unicode/utf8.first", "unicode/utf8.acceptRanges"], apart := false, laid := [("unicode/utf8.acceptRanges", laid_unicode_utf8_acceptRanges), ("unicode/utf8.first", laid_unicode_utf8_first)] }
def QuoteFirstSaid : Prop := quoteFirstRow.holds Tryd.pinned (OpenSpec.ofChange quoteFirstSpec)

/-- ITS FALSE NEIGHBOUR: 'it returns false'. Refute it at one input. -/
def quoteFirstWrong : ChangeSpec := { name := "quoteFirst", fn := fun _ => fun
  | [d1, d2, d3] => { results := [.lit (.bool false)], args := [d1, d2, d3] }
  | _ => none }
def QuoteFirstWrongFalsely : Prop := quoteFirstRow.holds Tryd.pinned (OpenSpec.ofChange quoteFirstWrong)

/-- 'tmesislaw04.QuoteBack': WHATEVER THE INPUT: true; the input reads as it did. -/
def quoteBackSpec : ChangeSpec := { name := "quoteBack", fn := fun _ => fun
  | [d1, d2] => { results := [.lit (.bool true)], args := [d1, d2] }
  | _ => none }
def quoteBackRow : OpenClaim := { program := "ytkicabbgcopjdaadoor", sum := "7174cd4b0ba8e3758cfe0d822dc60767d2dc136b0eb1137408440ffa1d5ea39f", func := "tmesis/tmesislaw04.QuoteBack", spec := "quoteBack", inPlace := ["internal/bytealg.Count", "internal/bytealg.IndexByte", "internal/bytealg.Index"], named := ["internal/bytealg.MaxLen", "unicode/utf8.first", "unicode/utf8.acceptRanges"], apart := false, laid := [("unicode/utf8.acceptRanges", laid_unicode_utf8_acceptRanges), ("unicode/utf8.first", laid_unicode_utf8_first)] }
def QuoteBackSaid : Prop := quoteBackRow.holds Tryd.pinned (OpenSpec.ofChange quoteBackSpec)

/-- ITS FALSE NEIGHBOUR: 'it returns false'. Refute it at one input. -/
def quoteBackWrong : ChangeSpec := { name := "quoteBack", fn := fun _ => fun
  | [d1, d2] => { results := [.lit (.bool false)], args := [d1, d2] }
  | _ => none }
def QuoteBackWrongFalsely : Prop := quoteBackRow.holds Tryd.pinned (OpenSpec.ofChange quoteBackWrong)

/- THE SECOND FORM. 'bulk': how many values and letters a reading holds, each counted each time it is reached (what is shared counts as often as it is met; a slice's spare places count too). A statement '..UptoSaid' is the law's where the arguments, and the package variables that the reading takes, are together of bulk at most 1048576: NARROWER than '..Said'. Prove '..Said' where nothing that the law and all that it calls make is longer than what came in: it says more and counts as full. Else prove '..UptoSaid'. A law counts once. -/
mutual
def uptoBulk {H : Type} : DataW H → Nat
  | .lit (.string bytes) => bytes.length + 1
  | .lit _ => 1
  | .nil => 1
  | .ptr d => uptoBulk d + 1
  | .slice elems spare => uptoBulkAll elems + uptoBulkAll spare + 1
  | .agg parts => uptoBulkAll parts + 1
  | .iface _ d => uptoBulk d + 1
  | .map entries => uptoBulkEntries entries + 1
  | .held _ => 1
def uptoBulkAll {H : Type} : List (DataW H) → Nat
  | [] => 0
  | d :: r => uptoBulk d + uptoBulkAll r
def uptoBulkEntries {H : Type} : List (Lit × DataW H) → Nat
  | [] => 0
  | x :: r => uptoBulkEntry x + uptoBulkEntries r
def uptoBulkEntry {H : Type} : Lit × DataW H → Nat
  | (.string bytes, d) => bytes.length + uptoBulk d + 1
  | (_, d) => uptoBulk d + 1
 end
def uptoSmall : (H : Type) → List (DataW H) → Bool := fun _ ds => decide (uptoBulkAll ds ≤ 1048576)
def OpenSpec.upto (s : _root_.Go.ChangeSpec) : _root_.Go.OpenSpec := { _root_.Go.OpenSpec.ofChange s with cond := some uptoSmall }

/-- 'tmesislaw04.QuoteAll', WHERE WHAT IT READS IS OF BULK AT MOST 1048576: true; the input reads as it did. -/
def quoteAllUptoRow : OpenClaim := { program := "ytkicabbgcopjdaadoor", sum := "7174cd4b0ba8e3758cfe0d822dc60767d2dc136b0eb1137408440ffa1d5ea39f", func := "tmesis/tmesislaw04.QuoteAll", spec := "quoteAll", inPlace := ["internal/bytealg.Count", "internal/bytealg.IndexByte", "internal/bytealg.Index"], named := ["internal/bytealg.MaxLen", "unicode/utf8.first", "unicode/utf8.acceptRanges"], apart := false, laid := [("unicode/utf8.acceptRanges", laid_unicode_utf8_acceptRanges), ("unicode/utf8.first", laid_unicode_utf8_first)], narrowed := true }
def QuoteAllUptoSaid : Prop := quoteAllUptoRow.holds Tryd.pinned (OpenSpec.upto quoteAllSpec)

/-- 'tmesislaw04.QuoteCuts', WHERE WHAT IT READS IS OF BULK AT MOST 1048576: true; the input reads as it did. -/
def quoteCutsUptoRow : OpenClaim := { program := "ytkicabbgcopjdaadoor", sum := "7174cd4b0ba8e3758cfe0d822dc60767d2dc136b0eb1137408440ffa1d5ea39f", func := "tmesis/tmesislaw04.QuoteCuts", spec := "quoteCuts", inPlace := ["internal/bytealg.Count", "internal/bytealg.IndexByte", "internal/bytealg.Index"], named := ["internal/bytealg.MaxLen", "unicode/utf8.first", "unicode/utf8.acceptRanges"], apart := false, laid := [("unicode/utf8.acceptRanges", laid_unicode_utf8_acceptRanges), ("unicode/utf8.first", laid_unicode_utf8_first)], narrowed := true }
def QuoteCutsUptoSaid : Prop := quoteCutsUptoRow.holds Tryd.pinned (OpenSpec.upto quoteCutsSpec)

/-- 'tmesislaw04.QuotePlain', WHERE WHAT IT READS IS OF BULK AT MOST 1048576: true; the input reads as it did. -/
def quotePlainUptoRow : OpenClaim := { program := "ytkicabbgcopjdaadoor", sum := "7174cd4b0ba8e3758cfe0d822dc60767d2dc136b0eb1137408440ffa1d5ea39f", func := "tmesis/tmesislaw04.QuotePlain", spec := "quotePlain", inPlace := ["internal/bytealg.Count", "internal/bytealg.IndexByte", "internal/bytealg.Index"], named := ["internal/bytealg.MaxLen", "unicode/utf8.first", "unicode/utf8.acceptRanges"], apart := false, laid := [("unicode/utf8.acceptRanges", laid_unicode_utf8_acceptRanges), ("unicode/utf8.first", laid_unicode_utf8_first)], narrowed := true }
def QuotePlainUptoSaid : Prop := quotePlainUptoRow.holds Tryd.pinned (OpenSpec.upto quotePlainSpec)

/-- 'tmesislaw04.QuoteFirst', WHERE WHAT IT READS IS OF BULK AT MOST 1048576: true; the input reads as it did. -/
def quoteFirstUptoRow : OpenClaim := { program := "ytkicabbgcopjdaadoor", sum := "7174cd4b0ba8e3758cfe0d822dc60767d2dc136b0eb1137408440ffa1d5ea39f", func := "tmesis/tmesislaw04.QuoteFirst", spec := "quoteFirst", inPlace := ["internal/bytealg.Count", "internal/bytealg.IndexByte", "internal/bytealg.Index"], named := ["internal/bytealg.MaxLen", "unicode/utf8.first", "unicode/utf8.acceptRanges"], apart := false, laid := [("unicode/utf8.acceptRanges", laid_unicode_utf8_acceptRanges), ("unicode/utf8.first", laid_unicode_utf8_first)], narrowed := true }
def QuoteFirstUptoSaid : Prop := quoteFirstUptoRow.holds Tryd.pinned (OpenSpec.upto quoteFirstSpec)

/-- 'tmesislaw04.QuoteBack', WHERE WHAT IT READS IS OF BULK AT MOST 1048576: true; the input reads as it did. -/
def quoteBackUptoRow : OpenClaim := { program := "ytkicabbgcopjdaadoor", sum := "7174cd4b0ba8e3758cfe0d822dc60767d2dc136b0eb1137408440ffa1d5ea39f", func := "tmesis/tmesislaw04.QuoteBack", spec := "quoteBack", inPlace := ["internal/bytealg.Count", "internal/bytealg.IndexByte", "internal/bytealg.Index"], named := ["internal/bytealg.MaxLen", "unicode/utf8.first", "unicode/utf8.acceptRanges"], apart := false, laid := [("unicode/utf8.acceptRanges", laid_unicode_utf8_acceptRanges), ("unicode/utf8.first", laid_unicode_utf8_first)], narrowed := true }
def QuoteBackUptoSaid : Prop := quoteBackUptoRow.holds Tryd.pinned (OpenSpec.upto quoteBackSpec)

end Rows
end Go.Proofs.YtkicabbgcopjdaaDoor
