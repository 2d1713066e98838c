/-
  DERIVED. GIVEN WITH THE SEED: THE CARDS: each row of YtpkklbdclghcfaaDoorRows.lean that lists a variable, with what it lists TIED to the program's text (the seventh form; the later family's looks); each row that meets fmt, with fmt's text TOLD by the authors' own Lean function (tested against real Go, not proved from fmt's source: count such statements apart). THE CARD IS WHAT COUNTS. Prove the row's statement (the work); the ties are given (YtpkklbdclghcfaaDoorTie.lean); close each card by the builder's one call (the guide's Derived/Test/ToyasCard.lean, 'card_holds'). Laid BY PROGRAM, IN A SANDBOX (cutbox-door.mjs). By AI agents, Wed Nov 11 2026. No macro, syntax, notation, axiom, sorry.
-/
import Derived.Test.YtpkklbdclghcfaaDoorRows
import GoSem.ClaimSeven
namespace Go.Proofs.YtpkklbdclghcfaaDoor
namespace Rows

/-- THE TIED CARD OF 'tmesislaw10.SplitAll'. -/
def splitAllCard : Claim7 := { stood := { row := splitAllRow, standIns := [], harness := (true, "7e1cbc1876e139c6474b7c536a8d6fe1ef3f6f7140b70ead42bb9658c23d1be5"), looks := false }, kinds := [], alts := [], laidByText := true, laidKinds := [.data], laidTests := true, laidLooks := .later }
def SplitAllCardSaid : Prop := Claim7.holds Tryd.pinned (.plain (OpenSpec.ofChange splitAllSpec)) splitAllCard

/-- THE TIED CARD OF 'tmesislaw10.SplitWhole'. -/
def splitWholeCard : Claim7 := { stood := { row := splitWholeRow, standIns := [], harness := (true, "7e1cbc1876e139c6474b7c536a8d6fe1ef3f6f7140b70ead42bb9658c23d1be5"), looks := false }, kinds := [], alts := [], laidByText := true, laidKinds := [.data], laidTests := true, laidLooks := .later }
def SplitWholeCardSaid : Prop := Claim7.holds Tryd.pinned (.plain (OpenSpec.ofChange splitWholeSpec)) splitWholeCard

/-- THE TIED CARD OF 'tmesislaw10.SplitNames'. -/
def splitNamesCard : Claim7 := { stood := { row := splitNamesRow, standIns := [], harness := (true, "7e1cbc1876e139c6474b7c536a8d6fe1ef3f6f7140b70ead42bb9658c23d1be5"), looks := false }, kinds := [], alts := [], laidByText := true, laidKinds := [.data], laidTests := true, laidLooks := .later }
def SplitNamesCardSaid : Prop := Claim7.holds Tryd.pinned (.plain (OpenSpec.ofChange splitNamesSpec)) splitNamesCard

/-- THE TIED CARD OF 'tmesislaw10.SplitNest'. -/
def splitNestCard : Claim7 := { stood := { row := splitNestRow, standIns := [], harness := (true, "7e1cbc1876e139c6474b7c536a8d6fe1ef3f6f7140b70ead42bb9658c23d1be5"), looks := false }, kinds := [], alts := [], laidByText := true, laidKinds := [.data], laidTests := true, laidLooks := .later }
def SplitNestCardSaid : Prop := Claim7.holds Tryd.pinned (.plain (OpenSpec.ofChange splitNestSpec)) splitNestCard

/-- THE TIED CARD OF 'tmesislaw10.SplitJoins'. -/
def splitJoinsCard : Claim7 := { stood := { row := splitJoinsRow, standIns := [], harness := (true, "7e1cbc1876e139c6474b7c536a8d6fe1ef3f6f7140b70ead42bb9658c23d1be5"), looks := false }, kinds := [], alts := [], laidByText := true, laidKinds := [.data], laidTests := true, laidLooks := .later }
def SplitJoinsCardSaid : Prop := Claim7.holds Tryd.pinned (.plain (OpenSpec.ofChange splitJoinsSpec)) splitJoinsCard

/-- THE SECOND FORM's CARD OF 'tmesislaw10.SplitAll'. -/
def splitAllUptoCard : Claim7 := { stood := { row := splitAllUptoRow, standIns := [], harness := (true, "7e1cbc1876e139c6474b7c536a8d6fe1ef3f6f7140b70ead42bb9658c23d1be5"), looks := false }, kinds := [], alts := [], laidByText := true, laidKinds := [.data], laidTests := true, laidLooks := .later }
def SplitAllUptoCardSaid : Prop := Claim7.holds Tryd.pinned (.plain (OpenSpec.upto splitAllSpec)) splitAllUptoCard

/-- THE SECOND FORM's CARD OF 'tmesislaw10.SplitWhole'. -/
def splitWholeUptoCard : Claim7 := { stood := { row := splitWholeUptoRow, standIns := [], harness := (true, "7e1cbc1876e139c6474b7c536a8d6fe1ef3f6f7140b70ead42bb9658c23d1be5"), looks := false }, kinds := [], alts := [], laidByText := true, laidKinds := [.data], laidTests := true, laidLooks := .later }
def SplitWholeUptoCardSaid : Prop := Claim7.holds Tryd.pinned (.plain (OpenSpec.upto splitWholeSpec)) splitWholeUptoCard

/-- THE SECOND FORM's CARD OF 'tmesislaw10.SplitNames'. -/
def splitNamesUptoCard : Claim7 := { stood := { row := splitNamesUptoRow, standIns := [], harness := (true, "7e1cbc1876e139c6474b7c536a8d6fe1ef3f6f7140b70ead42bb9658c23d1be5"), looks := false }, kinds := [], alts := [], laidByText := true, laidKinds := [.data], laidTests := true, laidLooks := .later }
def SplitNamesUptoCardSaid : Prop := Claim7.holds Tryd.pinned (.plain (OpenSpec.upto splitNamesSpec)) splitNamesUptoCard

/-- THE SECOND FORM's CARD OF 'tmesislaw10.SplitNest'. -/
def splitNestUptoCard : Claim7 := { stood := { row := splitNestUptoRow, standIns := [], harness := (true, "7e1cbc1876e139c6474b7c536a8d6fe1ef3f6f7140b70ead42bb9658c23d1be5"), looks := false }, kinds := [], alts := [], laidByText := true, laidKinds := [.data], laidTests := true, laidLooks := .later }
def SplitNestUptoCardSaid : Prop := Claim7.holds Tryd.pinned (.plain (OpenSpec.upto splitNestSpec)) splitNestUptoCard

/-- THE SECOND FORM's CARD OF 'tmesislaw10.SplitJoins'. -/
def splitJoinsUptoCard : Claim7 := { stood := { row := splitJoinsUptoRow, standIns := [], harness := (true, "7e1cbc1876e139c6474b7c536a8d6fe1ef3f6f7140b70ead42bb9658c23d1be5"), looks := false }, kinds := [], alts := [], laidByText := true, laidKinds := [.data], laidTests := true, laidLooks := .later }
def SplitJoinsUptoCardSaid : Prop := Claim7.holds Tryd.pinned (.plain (OpenSpec.upto splitJoinsSpec)) splitJoinsUptoCard
end Rows
end Go.Proofs.YtpkklbdclghcfaaDoor
