/-
  DERIVED. GIVEN WITH THE SEED: THE CARDS: each row of YtflekegjmjjdmaaDoorRows.lean that lists a variable, with what it lists TIED to the program's text (the seventh form; the later family's looks); each row that meets fmt, with fmt's text TOLD by the authors' own Lean function (tested against real Go, not proved from fmt's source: count such statements apart). THE CARD IS WHAT COUNTS. Prove the row's statement (the work); the ties are given (YtflekegjmjjdmaaDoorTie.lean); close each card by the builder's one call (the guide's Derived/Test/ToyasCard.lean, 'card_holds'). Laid BY PROGRAM, IN A SANDBOX (cutbox-door.mjs). By AI agents, Wed Nov 11 2026. No macro, syntax, notation, axiom, sorry.
-/
import Derived.Test.YtflekegjmjjdmaaDoorRows
import GoSem.ClaimSeven
namespace Go.Proofs.YtflekegjmjjdmaaDoor
namespace Rows

/-- THE TIED CARD OF 'tmesislaw06.TokenAll'. -/
def tokenAllCard : Claim7 := { stood := { row := tokenAllRow, standIns := [], harness := (true, "d644e7d5bb4e3eaf12a52aa2336cf243b641c13af42c86ecee1762d5563dfc96"), looks := false }, kinds := [], alts := [], laidByText := true, laidKinds := [.data], laidTests := true, laidLooks := .later }
def TokenAllCardSaid : Prop := Claim7.holds Tryd.pinned (.plain (OpenSpec.ofChange tokenAllSpec)) tokenAllCard

/-- THE TIED CARD OF 'tmesislaw06.TokenStands'. -/
def tokenStandsCard : Claim7 := { stood := { row := tokenStandsRow, standIns := [], harness := (true, "d644e7d5bb4e3eaf12a52aa2336cf243b641c13af42c86ecee1762d5563dfc96"), looks := false }, kinds := [], alts := [], laidByText := true, laidKinds := [.data], laidTests := true, laidLooks := .later }
def TokenStandsCardSaid : Prop := Claim7.holds Tryd.pinned (.plain (OpenSpec.ofChange tokenStandsSpec)) tokenStandsCard

/-- THE TIED CARD OF 'tmesislaw06.TokenRuns'. -/
def tokenRunsCard : Claim7 := { stood := { row := tokenRunsRow, standIns := [], harness := (true, "d644e7d5bb4e3eaf12a52aa2336cf243b641c13af42c86ecee1762d5563dfc96"), looks := false }, kinds := [], alts := [], laidByText := true, laidKinds := [.data], laidTests := true, laidLooks := .later }
def TokenRunsCardSaid : Prop := Claim7.holds Tryd.pinned (.plain (OpenSpec.ofChange tokenRunsSpec)) tokenRunsCard

/-- THE TIED CARD OF 'tmesislaw06.TokenMoves'. -/
def tokenMovesCard : Claim7 := { stood := { row := tokenMovesRow, standIns := [], harness := (true, "d644e7d5bb4e3eaf12a52aa2336cf243b641c13af42c86ecee1762d5563dfc96"), looks := false }, kinds := [], alts := [], laidByText := true, laidKinds := [.data], laidTests := true, laidLooks := .later }
def TokenMovesCardSaid : Prop := Claim7.holds Tryd.pinned (.plain (OpenSpec.ofChange tokenMovesSpec)) tokenMovesCard

/-- THE TIED CARD OF 'tmesislaw06.TokenAlone'. -/
def tokenAloneCard : Claim7 := { stood := { row := tokenAloneRow, standIns := [], harness := (true, "d644e7d5bb4e3eaf12a52aa2336cf243b641c13af42c86ecee1762d5563dfc96"), looks := false }, kinds := [], alts := [], laidByText := true, laidKinds := [.data], laidTests := true, laidLooks := .later }
def TokenAloneCardSaid : Prop := Claim7.holds Tryd.pinned (.plain (OpenSpec.ofChange tokenAloneSpec)) tokenAloneCard

/-- THE TIED CARD OF 'tmesislaw06.TokenDots'. -/
def tokenDotsCard : Claim7 := { stood := { row := tokenDotsRow, standIns := [], harness := (true, "d644e7d5bb4e3eaf12a52aa2336cf243b641c13af42c86ecee1762d5563dfc96"), looks := false }, kinds := [], alts := [], laidByText := true, laidKinds := [.data], laidTests := true, laidLooks := .later }
def TokenDotsCardSaid : Prop := Claim7.holds Tryd.pinned (.plain (OpenSpec.ofChange tokenDotsSpec)) tokenDotsCard

/-- THE SECOND FORM's CARD OF 'tmesislaw06.TokenAll'. -/
def tokenAllUptoCard : Claim7 := { stood := { row := tokenAllUptoRow, standIns := [], harness := (true, "d644e7d5bb4e3eaf12a52aa2336cf243b641c13af42c86ecee1762d5563dfc96"), looks := false }, kinds := [], alts := [], laidByText := true, laidKinds := [.data], laidTests := true, laidLooks := .later }
def TokenAllUptoCardSaid : Prop := Claim7.holds Tryd.pinned (.plain (OpenSpec.upto tokenAllSpec)) tokenAllUptoCard

/-- THE SECOND FORM's CARD OF 'tmesislaw06.TokenStands'. -/
def tokenStandsUptoCard : Claim7 := { stood := { row := tokenStandsUptoRow, standIns := [], harness := (true, "d644e7d5bb4e3eaf12a52aa2336cf243b641c13af42c86ecee1762d5563dfc96"), looks := false }, kinds := [], alts := [], laidByText := true, laidKinds := [.data], laidTests := true, laidLooks := .later }
def TokenStandsUptoCardSaid : Prop := Claim7.holds Tryd.pinned (.plain (OpenSpec.upto tokenStandsSpec)) tokenStandsUptoCard

/-- THE SECOND FORM's CARD OF 'tmesislaw06.TokenRuns'. -/
def tokenRunsUptoCard : Claim7 := { stood := { row := tokenRunsUptoRow, standIns := [], harness := (true, "d644e7d5bb4e3eaf12a52aa2336cf243b641c13af42c86ecee1762d5563dfc96"), looks := false }, kinds := [], alts := [], laidByText := true, laidKinds := [.data], laidTests := true, laidLooks := .later }
def TokenRunsUptoCardSaid : Prop := Claim7.holds Tryd.pinned (.plain (OpenSpec.upto tokenRunsSpec)) tokenRunsUptoCard

/-- THE SECOND FORM's CARD OF 'tmesislaw06.TokenMoves'. -/
def tokenMovesUptoCard : Claim7 := { stood := { row := tokenMovesUptoRow, standIns := [], harness := (true, "d644e7d5bb4e3eaf12a52aa2336cf243b641c13af42c86ecee1762d5563dfc96"), looks := false }, kinds := [], alts := [], laidByText := true, laidKinds := [.data], laidTests := true, laidLooks := .later }
def TokenMovesUptoCardSaid : Prop := Claim7.holds Tryd.pinned (.plain (OpenSpec.upto tokenMovesSpec)) tokenMovesUptoCard

/-- THE SECOND FORM's CARD OF 'tmesislaw06.TokenAlone'. -/
def tokenAloneUptoCard : Claim7 := { stood := { row := tokenAloneUptoRow, standIns := [], harness := (true, "d644e7d5bb4e3eaf12a52aa2336cf243b641c13af42c86ecee1762d5563dfc96"), looks := false }, kinds := [], alts := [], laidByText := true, laidKinds := [.data], laidTests := true, laidLooks := .later }
def TokenAloneUptoCardSaid : Prop := Claim7.holds Tryd.pinned (.plain (OpenSpec.upto tokenAloneSpec)) tokenAloneUptoCard

/-- THE SECOND FORM's CARD OF 'tmesislaw06.TokenDots'. -/
def tokenDotsUptoCard : Claim7 := { stood := { row := tokenDotsUptoRow, standIns := [], harness := (true, "d644e7d5bb4e3eaf12a52aa2336cf243b641c13af42c86ecee1762d5563dfc96"), looks := false }, kinds := [], alts := [], laidByText := true, laidKinds := [.data], laidTests := true, laidLooks := .later }
def TokenDotsUptoCardSaid : Prop := Claim7.holds Tryd.pinned (.plain (OpenSpec.upto tokenDotsSpec)) tokenDotsUptoCard
end Rows
end Go.Proofs.YtflekegjmjjdmaaDoor
