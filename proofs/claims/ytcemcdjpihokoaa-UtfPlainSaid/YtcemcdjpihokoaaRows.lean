/-
  No cell of these rows narrows 'for every input' (looked for: loops, veiled, ifaces, maps, wideKeys, modest, calm, conditions, laid).
  DERIVED. THE GIVEN ROWS OF THIS SEAT. 5 by the template 'for every input the law returns true; each argument reads behind the call as it read before'; 0 by the template 'total and deterministic' (their statements: YtcemcdjpihokoaaTotals.lean).
  GIVEN WITH THE SEED: the statements are not yours to turn. If you find one false, say at which input.
  Laid BY PROGRAM, IN A SANDBOX (cutbox-rows.mjs): the forced cells as the released guide's own fill.sh prints them over the translation 576ba8d2eb9b2d07… (all of the seat's roots in one cut). By AI agents, Wed Nov 11 2026. No macro, syntax, notation, axiom, sorry.
-/
import Derived.Test.YtcemcdjpihokoaaChecked
import GoSem.Claim
import GoSem.ClaimJoined
import GoSem.ClaimMapViews
import Derived.JoinedTies
import Derived.KernelRfl
namespace Go.Proofs.Ytcemcdjpihokoaa
/- THE CELL 'sum', in the pinned program and in every row, IS THE sha256 OF THE DUMP (.gsa) THAT YtcemcdjpihokoaaProg.lean LOADS. Nothing in Lean hashes anything: it is a label: what it is worth is what the hold of that sum in a sandbox is worth. -/
noncomputable def Try.pinned : Pinned := { name := "ytcemcdjpihokoaa", sum := "576ba8d2eb9b2d07cc9b50ae471b7dee6b10edcf11a335c79ed6edf458ef0cb8", checked := Try.checked }
namespace Rows
def none {H : Type} : Left H := { results := [], args := [] }

/-- 'tmesislaw01.UtfAll': WHATEVER THE INPUT: true; the input reads as it did. -/
def utfAllSpec : ChangeSpec := { name := "utfAll", fn := fun _ => fun
  | [d] => { results := [.lit (.bool true)], args := [d] }
  | _ => none }
def utfAllRow : OpenClaim := { program := "ytcemcdjpihokoaa", sum := "576ba8d2eb9b2d07cc9b50ae471b7dee6b10edcf11a335c79ed6edf458ef0cb8", func := "tmesis/tmesislaw01.UtfAll", spec := "utfAll", apart := false }
def UtfAllSaid : Prop := utfAllRow.holds Try.pinned (OpenSpec.ofChange utfAllSpec)

/-- ITS FALSE NEIGHBOUR: 'it returns false'. Refute it at one input. -/
def utfAllWrong : ChangeSpec := { name := "utfAll", fn := fun _ => fun
  | [d] => { results := [.lit (.bool false)], args := [d] }
  | _ => none }
def UtfAllWrongFalsely : Prop := utfAllRow.holds Try.pinned (OpenSpec.ofChange utfAllWrong)

/-- 'tmesislaw01.UtfRunes': WHATEVER THE INPUT: true; the input reads as it did. -/
def utfRunesSpec : ChangeSpec := { name := "utfRunes", fn := fun _ => fun
  | [d1, d2] => { results := [.lit (.bool true)], args := [d1, d2] }
  | _ => none }
def utfRunesRow : OpenClaim := { program := "ytcemcdjpihokoaa", sum := "576ba8d2eb9b2d07cc9b50ae471b7dee6b10edcf11a335c79ed6edf458ef0cb8", func := "tmesis/tmesislaw01.UtfRunes", spec := "utfRunes", apart := false }
def UtfRunesSaid : Prop := utfRunesRow.holds Try.pinned (OpenSpec.ofChange utfRunesSpec)

/-- ITS FALSE NEIGHBOUR: 'it returns false'. Refute it at one input. -/
def utfRunesWrong : ChangeSpec := { name := "utfRunes", fn := fun _ => fun
  | [d1, d2] => { results := [.lit (.bool false)], args := [d1, d2] }
  | _ => none }
def UtfRunesWrongFalsely : Prop := utfRunesRow.holds Try.pinned (OpenSpec.ofChange utfRunesWrong)

/-- 'tmesislaw01.UtfJoins': WHATEVER THE INPUT: true; the input reads as it did. -/
def utfJoinsSpec : ChangeSpec := { name := "utfJoins", fn := fun _ => fun
  | [d1, d2] => { results := [.lit (.bool true)], args := [d1, d2] }
  | _ => none }
def utfJoinsRow : OpenClaim := { program := "ytcemcdjpihokoaa", sum := "576ba8d2eb9b2d07cc9b50ae471b7dee6b10edcf11a335c79ed6edf458ef0cb8", func := "tmesis/tmesislaw01.UtfJoins", spec := "utfJoins", apart := false }
def UtfJoinsSaid : Prop := utfJoinsRow.holds Try.pinned (OpenSpec.ofChange utfJoinsSpec)

/-- ITS FALSE NEIGHBOUR: 'it returns false'. Refute it at one input. -/
def utfJoinsWrong : ChangeSpec := { name := "utfJoins", fn := fun _ => fun
  | [d1, d2] => { results := [.lit (.bool false)], args := [d1, d2] }
  | _ => none }
def UtfJoinsWrongFalsely : Prop := utfJoinsRow.holds Try.pinned (OpenSpec.ofChange utfJoinsWrong)

/-- 'tmesislaw01.UtfCounts': WHATEVER THE INPUT: true; the input reads as it did. -/
def utfCountsSpec : ChangeSpec := { name := "utfCounts", fn := fun _ => fun
  | [d] => { results := [.lit (.bool true)], args := [d] }
  | _ => none }
def utfCountsRow : OpenClaim := { program := "ytcemcdjpihokoaa", sum := "576ba8d2eb9b2d07cc9b50ae471b7dee6b10edcf11a335c79ed6edf458ef0cb8", func := "tmesis/tmesislaw01.UtfCounts", spec := "utfCounts", apart := false }
def UtfCountsSaid : Prop := utfCountsRow.holds Try.pinned (OpenSpec.ofChange utfCountsSpec)

/-- ITS FALSE NEIGHBOUR: 'it returns false'. Refute it at one input. -/
def utfCountsWrong : ChangeSpec := { name := "utfCounts", fn := fun _ => fun
  | [d] => { results := [.lit (.bool false)], args := [d] }
  | _ => none }
def UtfCountsWrongFalsely : Prop := utfCountsRow.holds Try.pinned (OpenSpec.ofChange utfCountsWrong)

/-- 'tmesislaw01.UtfPlain': WHATEVER THE INPUT: true; the input reads as it did. -/
def utfPlainSpec : ChangeSpec := { name := "utfPlain", fn := fun _ => fun
  | [d1, d2, d3] => { results := [.lit (.bool true)], args := [d1, d2, d3] }
  | _ => none }
def utfPlainRow : OpenClaim := { program := "ytcemcdjpihokoaa", sum := "576ba8d2eb9b2d07cc9b50ae471b7dee6b10edcf11a335c79ed6edf458ef0cb8", func := "tmesis/tmesislaw01.UtfPlain", spec := "utfPlain", apart := false }
def UtfPlainSaid : Prop := utfPlainRow.holds Try.pinned (OpenSpec.ofChange utfPlainSpec)

/-- ITS FALSE NEIGHBOUR: 'it returns false'. Refute it at one input. -/
def utfPlainWrong : ChangeSpec := { name := "utfPlain", fn := fun _ => fun
  | [d1, d2, d3] => { results := [.lit (.bool false)], args := [d1, d2, d3] }
  | _ => none }
def UtfPlainWrongFalsely : Prop := utfPlainRow.holds Try.pinned (OpenSpec.ofChange utfPlainWrong)

/- THE SECOND FORM. 'bulk': how many values and letters a reading holds, each counted each time it is reached (what is shared counts as often as it is met; a slice's spare places count too). A statement '..UptoSaid' is the law's where the arguments, and the package variables that the reading takes, are together of bulk at most 1048576: NARROWER than '..Said'. Prove '..Said' where nothing that the law and all that it calls make is longer than what came in: it says more and counts as full. Else prove '..UptoSaid'. A law counts once. -/
mutual
def uptoBulk {H : Type} : DataW H → Nat
  | .lit (.string bytes) => bytes.length + 1
  | .lit _ => 1
  | .nil => 1
  | .ptr d => uptoBulk d + 1
  | .slice elems spare => uptoBulkAll elems + uptoBulkAll spare + 1
  | .agg parts => uptoBulkAll parts + 1
  | .iface _ d => uptoBulk d + 1
  | .map entries => uptoBulkEntries entries + 1
  | .held _ => 1
def uptoBulkAll {H : Type} : List (DataW H) → Nat
  | [] => 0
  | d :: r => uptoBulk d + uptoBulkAll r
def uptoBulkEntries {H : Type} : List (Lit × DataW H) → Nat
  | [] => 0
  | x :: r => uptoBulkEntry x + uptoBulkEntries r
def uptoBulkEntry {H : Type} : Lit × DataW H → Nat
  | (.string bytes, d) => bytes.length + uptoBulk d + 1
  | (_, d) => uptoBulk d + 1
 end
def uptoSmall : (H : Type) → List (DataW H) → Bool := fun _ ds => decide (uptoBulkAll ds ≤ 1048576)
def OpenSpec.upto (s : _root_.Go.ChangeSpec) : _root_.Go.OpenSpec := { _root_.Go.OpenSpec.ofChange s with cond := some uptoSmall }

/-- 'tmesislaw01.UtfAll', WHERE WHAT IT READS IS OF BULK AT MOST 1048576: true; the input reads as it did. -/
def utfAllUptoRow : OpenClaim := { program := "ytcemcdjpihokoaa", sum := "576ba8d2eb9b2d07cc9b50ae471b7dee6b10edcf11a335c79ed6edf458ef0cb8", func := "tmesis/tmesislaw01.UtfAll", spec := "utfAll", apart := false, narrowed := true }
def UtfAllUptoSaid : Prop := utfAllUptoRow.holds Try.pinned (OpenSpec.upto utfAllSpec)

/-- 'tmesislaw01.UtfRunes', WHERE WHAT IT READS IS OF BULK AT MOST 1048576: true; the input reads as it did. -/
def utfRunesUptoRow : OpenClaim := { program := "ytcemcdjpihokoaa", sum := "576ba8d2eb9b2d07cc9b50ae471b7dee6b10edcf11a335c79ed6edf458ef0cb8", func := "tmesis/tmesislaw01.UtfRunes", spec := "utfRunes", apart := false, narrowed := true }
def UtfRunesUptoSaid : Prop := utfRunesUptoRow.holds Try.pinned (OpenSpec.upto utfRunesSpec)

/-- 'tmesislaw01.UtfJoins', WHERE WHAT IT READS IS OF BULK AT MOST 1048576: true; the input reads as it did. -/
def utfJoinsUptoRow : OpenClaim := { program := "ytcemcdjpihokoaa", sum := "576ba8d2eb9b2d07cc9b50ae471b7dee6b10edcf11a335c79ed6edf458ef0cb8", func := "tmesis/tmesislaw01.UtfJoins", spec := "utfJoins", apart := false, narrowed := true }
def UtfJoinsUptoSaid : Prop := utfJoinsUptoRow.holds Try.pinned (OpenSpec.upto utfJoinsSpec)

/-- 'tmesislaw01.UtfCounts', WHERE WHAT IT READS IS OF BULK AT MOST 1048576: true; the input reads as it did. -/
def utfCountsUptoRow : OpenClaim := { program := "ytcemcdjpihokoaa", sum := "576ba8d2eb9b2d07cc9b50ae471b7dee6b10edcf11a335c79ed6edf458ef0cb8", func := "tmesis/tmesislaw01.UtfCounts", spec := "utfCounts", apart := false, narrowed := true }
def UtfCountsUptoSaid : Prop := utfCountsUptoRow.holds Try.pinned (OpenSpec.upto utfCountsSpec)

/-- 'tmesislaw01.UtfPlain', WHERE WHAT IT READS IS OF BULK AT MOST 1048576: true; the input reads as it did. -/
def utfPlainUptoRow : OpenClaim := { program := "ytcemcdjpihokoaa", sum := "576ba8d2eb9b2d07cc9b50ae471b7dee6b10edcf11a335c79ed6edf458ef0cb8", func := "tmesis/tmesislaw01.UtfPlain", spec := "utfPlain", apart := false, narrowed := true }
def UtfPlainUptoSaid : Prop := utfPlainUptoRow.holds Try.pinned (OpenSpec.upto utfPlainSpec)

end Rows
end Go.Proofs.Ytcemcdjpihokoaa
