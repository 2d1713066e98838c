/-
  NARROWER THAN 'FOR EVERY INPUT', by the rows' own cells (each row's printed sentence says how): TokenAll: laid · TokenStands: laid · TokenRuns: laid · TokenMoves: laid · TokenAlone: laid · TokenDots: laid.
  DERIVED. THE GIVEN ROWS OF THIS SEAT. 6 by the template 'for every input the law returns true; each argument reads behind the call as it read before'; 0 by the template 'total and deterministic' (their statements: YtflekegjmjjdmaaDoorTotals.lean).
  GIVEN WITH THE SEED: the statements are not yours to turn. If you find one false, say at which input.
  Laid BY PROGRAM, IN A SANDBOX (cutbox-rows.mjs): the forced cells as the released guide's own fill.sh prints them over the translation 8553bc591f9bcee0… (all of the seat's roots in one cut). By AI agents, Wed Nov 11 2026. No macro, syntax, notation, axiom, sorry.
-/
import Derived.Test.YtflekegjmjjdmaaDoorChecked
import GoSem.Claim
import GoSem.ClaimJoined
import GoSem.ClaimMapViews
import Derived.JoinedTies
import Derived.KernelRfl
namespace Go.Proofs.YtflekegjmjjdmaaDoor
/- THE CELL 'sum', in the pinned program and in every row, IS THE sha256 OF THE DUMP (.gsa) THAT YtflekegjmjjdmaaDoorProg.lean LOADS. Nothing in Lean hashes anything: it is a label: what it is worth is what the hold of that sum in a sandbox is worth. -/
noncomputable def Tryd.pinned : Pinned := { name := "ytflekegjmjjdmaadoor", sum := "8553bc591f9bcee0f635ceccdbae47ddc52c7255063495d02bc669d19fbcbc72", checked := Tryd.checked }
namespace Rows
def none {H : Type} : Left H := { results := [], args := [] }

/- WHAT THE LISTED PACKAGE-LEVEL VARIABLES READ AS WHEN THE CALL BEGINS. Each datum BY PROGRAM (the guide's laid-datum.mjs) off the statement by which the dump's own 'gosem.cut.vars' lays the variable. In a bare row this is a premise. The card (YtflekegjmjjdmaaDoorCards.lean) ties it to the program's text. -/
def laid_tmesis_class_members {H : Type} : DataW H := .agg [.agg [.lit (.int .i64 1), .lit (.string [9, 10, 13, 32])], .agg [.lit (.int .i64 2), .lit (.string [97, 98, 99, 100, 101, 102, 103, 104, 105, 106, 107, 108, 109, 110, 111, 112, 113, 114, 115, 116, 117, 118, 119, 120, 121, 122])], .agg [.lit (.int .i64 3), .lit (.string [65, 66, 67, 68, 69, 70, 71, 72, 73, 74, 75, 76, 77, 78, 79, 80, 81, 82, 83, 84, 85, 86, 87, 88, 89, 90, 95])], .agg [.lit (.int .i64 4), .lit (.string [48, 49, 50, 51, 52, 53, 54, 55, 56, 57])], .agg [.lit (.int .i64 5), .lit (.string [43, 45, 42, 47, 92, 94, 60, 62, 61, 126, 58, 46, 63, 64, 35, 38, 36, 33])], .agg [.lit (.int .i64 6), .lit (.string [40, 41, 44, 124, 59, 91, 93, 123, 125])], .agg [.lit (.int .i64 7), .lit (.string [39])], .agg [.lit (.int .i64 8), .lit (.string [37])]]

/-- 'tmesislaw06.TokenAll': WHATEVER THE INPUT: true; the input reads as it did. -/
def tokenAllSpec : ChangeSpec := { name := "tokenAll", fn := fun _ => fun
  | [d1, d2] => { results := [.lit (.bool true)], args := [d1, d2] }
  | _ => none }
def tokenAllRow : OpenClaim := { program := "ytflekegjmjjdmaadoor", sum := "8553bc591f9bcee0f635ceccdbae47ddc52c7255063495d02bc669d19fbcbc72", func := "tmesis/tmesislaw06.TokenAll", spec := "tokenAll", inPlace := ["internal/bytealg.IndexByte"], unfollowed := true, recurses := true, named := ["tmesis/class.members"], apart := false, laid := [("tmesis/class.members", laid_tmesis_class_members)] }
def TokenAllSaid : Prop := tokenAllRow.holds Tryd.pinned (OpenSpec.ofChange tokenAllSpec)

/-- ITS FALSE NEIGHBOUR: 'it returns false'. Refute it at one input. -/
def tokenAllWrong : ChangeSpec := { name := "tokenAll", fn := fun _ => fun
  | [d1, d2] => { results := [.lit (.bool false)], args := [d1, d2] }
  | _ => none }
def TokenAllWrongFalsely : Prop := tokenAllRow.holds Tryd.pinned (OpenSpec.ofChange tokenAllWrong)

/-- 'tmesislaw06.TokenStands': WHATEVER THE INPUT: true; the input reads as it did. -/
def tokenStandsSpec : ChangeSpec := { name := "tokenStands", fn := fun _ => fun
  | [d1, d2] => { results := [.lit (.bool true)], args := [d1, d2] }
  | _ => none }
def tokenStandsRow : OpenClaim := { program := "ytflekegjmjjdmaadoor", sum := "8553bc591f9bcee0f635ceccdbae47ddc52c7255063495d02bc669d19fbcbc72", func := "tmesis/tmesislaw06.TokenStands", spec := "tokenStands", inPlace := ["internal/bytealg.IndexByte"], unfollowed := true, recurses := true, named := ["tmesis/class.members"], apart := false, laid := [("tmesis/class.members", laid_tmesis_class_members)] }
def TokenStandsSaid : Prop := tokenStandsRow.holds Tryd.pinned (OpenSpec.ofChange tokenStandsSpec)

/-- ITS FALSE NEIGHBOUR: 'it returns false'. Refute it at one input. -/
def tokenStandsWrong : ChangeSpec := { name := "tokenStands", fn := fun _ => fun
  | [d1, d2] => { results := [.lit (.bool false)], args := [d1, d2] }
  | _ => none }
def TokenStandsWrongFalsely : Prop := tokenStandsRow.holds Tryd.pinned (OpenSpec.ofChange tokenStandsWrong)

/-- 'tmesislaw06.TokenRuns': WHATEVER THE INPUT: true; the input reads as it did. -/
def tokenRunsSpec : ChangeSpec := { name := "tokenRuns", fn := fun _ => fun
  | [d1, d2] => { results := [.lit (.bool true)], args := [d1, d2] }
  | _ => none }
def tokenRunsRow : OpenClaim := { program := "ytflekegjmjjdmaadoor", sum := "8553bc591f9bcee0f635ceccdbae47ddc52c7255063495d02bc669d19fbcbc72", func := "tmesis/tmesislaw06.TokenRuns", spec := "tokenRuns", inPlace := ["internal/bytealg.IndexByte"], unfollowed := true, recurses := true, named := ["tmesis/class.members"], apart := false, laid := [("tmesis/class.members", laid_tmesis_class_members)] }
def TokenRunsSaid : Prop := tokenRunsRow.holds Tryd.pinned (OpenSpec.ofChange tokenRunsSpec)

/-- ITS FALSE NEIGHBOUR: 'it returns false'. Refute it at one input. -/
def tokenRunsWrong : ChangeSpec := { name := "tokenRuns", fn := fun _ => fun
  | [d1, d2] => { results := [.lit (.bool false)], args := [d1, d2] }
  | _ => none }
def TokenRunsWrongFalsely : Prop := tokenRunsRow.holds Tryd.pinned (OpenSpec.ofChange tokenRunsWrong)

/-- 'tmesislaw06.TokenMoves': WHATEVER THE INPUT: true; the input reads as it did. -/
def tokenMovesSpec : ChangeSpec := { name := "tokenMoves", fn := fun _ => fun
  | [d1, d2] => { results := [.lit (.bool true)], args := [d1, d2] }
  | _ => none }
def tokenMovesRow : OpenClaim := { program := "ytflekegjmjjdmaadoor", sum := "8553bc591f9bcee0f635ceccdbae47ddc52c7255063495d02bc669d19fbcbc72", func := "tmesis/tmesislaw06.TokenMoves", spec := "tokenMoves", inPlace := ["internal/bytealg.IndexByte"], unfollowed := true, recurses := true, named := ["tmesis/class.members"], apart := false, laid := [("tmesis/class.members", laid_tmesis_class_members)] }
def TokenMovesSaid : Prop := tokenMovesRow.holds Tryd.pinned (OpenSpec.ofChange tokenMovesSpec)

/-- ITS FALSE NEIGHBOUR: 'it returns false'. Refute it at one input. -/
def tokenMovesWrong : ChangeSpec := { name := "tokenMoves", fn := fun _ => fun
  | [d1, d2] => { results := [.lit (.bool false)], args := [d1, d2] }
  | _ => none }
def TokenMovesWrongFalsely : Prop := tokenMovesRow.holds Tryd.pinned (OpenSpec.ofChange tokenMovesWrong)

/-- 'tmesislaw06.TokenAlone': WHATEVER THE INPUT: true; the input reads as it did. -/
def tokenAloneSpec : ChangeSpec := { name := "tokenAlone", fn := fun _ => fun
  | [d1, d2] => { results := [.lit (.bool true)], args := [d1, d2] }
  | _ => none }
def tokenAloneRow : OpenClaim := { program := "ytflekegjmjjdmaadoor", sum := "8553bc591f9bcee0f635ceccdbae47ddc52c7255063495d02bc669d19fbcbc72", func := "tmesis/tmesislaw06.TokenAlone", spec := "tokenAlone", inPlace := ["internal/bytealg.IndexByte"], unfollowed := true, recurses := true, named := ["tmesis/class.members"], apart := false, laid := [("tmesis/class.members", laid_tmesis_class_members)] }
def TokenAloneSaid : Prop := tokenAloneRow.holds Tryd.pinned (OpenSpec.ofChange tokenAloneSpec)

/-- ITS FALSE NEIGHBOUR: 'it returns false'. Refute it at one input. -/
def tokenAloneWrong : ChangeSpec := { name := "tokenAlone", fn := fun _ => fun
  | [d1, d2] => { results := [.lit (.bool false)], args := [d1, d2] }
  | _ => none }
def TokenAloneWrongFalsely : Prop := tokenAloneRow.holds Tryd.pinned (OpenSpec.ofChange tokenAloneWrong)

/-- 'tmesislaw06.TokenDots': WHATEVER THE INPUT: true; the input reads as it did. -/
def tokenDotsSpec : ChangeSpec := { name := "tokenDots", fn := fun _ => fun
  | [d1, d2] => { results := [.lit (.bool true)], args := [d1, d2] }
  | _ => none }
def tokenDotsRow : OpenClaim := { program := "ytflekegjmjjdmaadoor", sum := "8553bc591f9bcee0f635ceccdbae47ddc52c7255063495d02bc669d19fbcbc72", func := "tmesis/tmesislaw06.TokenDots", spec := "tokenDots", inPlace := ["internal/bytealg.IndexByte"], unfollowed := true, recurses := true, named := ["tmesis/class.members"], apart := false, laid := [("tmesis/class.members", laid_tmesis_class_members)] }
def TokenDotsSaid : Prop := tokenDotsRow.holds Tryd.pinned (OpenSpec.ofChange tokenDotsSpec)

/-- ITS FALSE NEIGHBOUR: 'it returns false'. Refute it at one input. -/
def tokenDotsWrong : ChangeSpec := { name := "tokenDots", fn := fun _ => fun
  | [d1, d2] => { results := [.lit (.bool false)], args := [d1, d2] }
  | _ => none }
def TokenDotsWrongFalsely : Prop := tokenDotsRow.holds Tryd.pinned (OpenSpec.ofChange tokenDotsWrong)

/- THE SECOND FORM. 'bulk': how many values and letters a reading holds, each counted each time it is reached (what is shared counts as often as it is met; a slice's spare places count too). A statement '..UptoSaid' is the law's where the arguments, and the package variables that the reading takes, are together of bulk at most 1048576: NARROWER than '..Said'. Prove '..Said' where nothing that the law and all that it calls make is longer than what came in: it says more and counts as full. Else prove '..UptoSaid'. A law counts once. -/
mutual
def uptoBulk {H : Type} : DataW H → Nat
  | .lit (.string bytes) => bytes.length + 1
  | .lit _ => 1
  | .nil => 1
  | .ptr d => uptoBulk d + 1
  | .slice elems spare => uptoBulkAll elems + uptoBulkAll spare + 1
  | .agg parts => uptoBulkAll parts + 1
  | .iface _ d => uptoBulk d + 1
  | .map entries => uptoBulkEntries entries + 1
  | .held _ => 1
def uptoBulkAll {H : Type} : List (DataW H) → Nat
  | [] => 0
  | d :: r => uptoBulk d + uptoBulkAll r
def uptoBulkEntries {H : Type} : List (Lit × DataW H) → Nat
  | [] => 0
  | x :: r => uptoBulkEntry x + uptoBulkEntries r
def uptoBulkEntry {H : Type} : Lit × DataW H → Nat
  | (.string bytes, d) => bytes.length + uptoBulk d + 1
  | (_, d) => uptoBulk d + 1
 end
def uptoSmall : (H : Type) → List (DataW H) → Bool := fun _ ds => decide (uptoBulkAll ds ≤ 1048576)
def OpenSpec.upto (s : _root_.Go.ChangeSpec) : _root_.Go.OpenSpec := { _root_.Go.OpenSpec.ofChange s with cond := some uptoSmall }

/-- 'tmesislaw06.TokenAll', WHERE WHAT IT READS IS OF BULK AT MOST 1048576: true; the input reads as it did. -/
def tokenAllUptoRow : OpenClaim := { program := "ytflekegjmjjdmaadoor", sum := "8553bc591f9bcee0f635ceccdbae47ddc52c7255063495d02bc669d19fbcbc72", func := "tmesis/tmesislaw06.TokenAll", spec := "tokenAll", inPlace := ["internal/bytealg.IndexByte"], unfollowed := true, recurses := true, named := ["tmesis/class.members"], apart := false, laid := [("tmesis/class.members", laid_tmesis_class_members)], narrowed := true }
def TokenAllUptoSaid : Prop := tokenAllUptoRow.holds Tryd.pinned (OpenSpec.upto tokenAllSpec)

/-- 'tmesislaw06.TokenStands', WHERE WHAT IT READS IS OF BULK AT MOST 1048576: true; the input reads as it did. -/
def tokenStandsUptoRow : OpenClaim := { program := "ytflekegjmjjdmaadoor", sum := "8553bc591f9bcee0f635ceccdbae47ddc52c7255063495d02bc669d19fbcbc72", func := "tmesis/tmesislaw06.TokenStands", spec := "tokenStands", inPlace := ["internal/bytealg.IndexByte"], unfollowed := true, recurses := true, named := ["tmesis/class.members"], apart := false, laid := [("tmesis/class.members", laid_tmesis_class_members)], narrowed := true }
def TokenStandsUptoSaid : Prop := tokenStandsUptoRow.holds Tryd.pinned (OpenSpec.upto tokenStandsSpec)

/-- 'tmesislaw06.TokenRuns', WHERE WHAT IT READS IS OF BULK AT MOST 1048576: true; the input reads as it did. -/
def tokenRunsUptoRow : OpenClaim := { program := "ytflekegjmjjdmaadoor", sum := "8553bc591f9bcee0f635ceccdbae47ddc52c7255063495d02bc669d19fbcbc72", func := "tmesis/tmesislaw06.TokenRuns", spec := "tokenRuns", inPlace := ["internal/bytealg.IndexByte"], unfollowed := true, recurses := true, named := ["tmesis/class.members"], apart := false, laid := [("tmesis/class.members", laid_tmesis_class_members)], narrowed := true }
def TokenRunsUptoSaid : Prop := tokenRunsUptoRow.holds Tryd.pinned (OpenSpec.upto tokenRunsSpec)

/-- 'tmesislaw06.TokenMoves', WHERE WHAT IT READS IS OF BULK AT MOST 1048576: true; the input reads as it did. -/
def tokenMovesUptoRow : OpenClaim := { program := "ytflekegjmjjdmaadoor", sum := "8553bc591f9bcee0f635ceccdbae47ddc52c7255063495d02bc669d19fbcbc72", func := "tmesis/tmesislaw06.TokenMoves", spec := "tokenMoves", inPlace := ["internal/bytealg.IndexByte"], unfollowed := true, recurses := true, named := ["tmesis/class.members"], apart := false, laid := [("tmesis/class.members", laid_tmesis_class_members)], narrowed := true }
def TokenMovesUptoSaid : Prop := tokenMovesUptoRow.holds Tryd.pinned (OpenSpec.upto tokenMovesSpec)

/-- 'tmesislaw06.TokenAlone', WHERE WHAT IT READS IS OF BULK AT MOST 1048576: true; the input reads as it did. -/
def tokenAloneUptoRow : OpenClaim := { program := "ytflekegjmjjdmaadoor", sum := "8553bc591f9bcee0f635ceccdbae47ddc52c7255063495d02bc669d19fbcbc72", func := "tmesis/tmesislaw06.TokenAlone", spec := "tokenAlone", inPlace := ["internal/bytealg.IndexByte"], unfollowed := true, recurses := true, named := ["tmesis/class.members"], apart := false, laid := [("tmesis/class.members", laid_tmesis_class_members)], narrowed := true }
def TokenAloneUptoSaid : Prop := tokenAloneUptoRow.holds Tryd.pinned (OpenSpec.upto tokenAloneSpec)

/-- 'tmesislaw06.TokenDots', WHERE WHAT IT READS IS OF BULK AT MOST 1048576: true; the input reads as it did. -/
def tokenDotsUptoRow : OpenClaim := { program := "ytflekegjmjjdmaadoor", sum := "8553bc591f9bcee0f635ceccdbae47ddc52c7255063495d02bc669d19fbcbc72", func := "tmesis/tmesislaw06.TokenDots", spec := "tokenDots", inPlace := ["internal/bytealg.IndexByte"], unfollowed := true, recurses := true, named := ["tmesis/class.members"], apart := false, laid := [("tmesis/class.members", laid_tmesis_class_members)], narrowed := true }
def TokenDotsUptoSaid : Prop := tokenDotsUptoRow.holds Tryd.pinned (OpenSpec.upto tokenDotsSpec)

end Rows
end Go.Proofs.YtflekegjmjjdmaaDoor
