/-
  DERIVED. GIVEN WITH THE SEED: THE CARDS: each row of YtkicabbgcopjdaaDoorRows.lean that lists a variable, with what it lists TIED to the program's text (the seventh form; the later family's looks); each row that meets fmt, with fmt's text TOLD by the authors' own Lean function (tested against real Go, not proved from fmt's source: count such statements apart). THE CARD IS WHAT COUNTS. Prove the row's statement (the work); the ties are given (YtkicabbgcopjdaaDoorTie.lean); close each card by the builder's one call (the guide's Derived/Test/ToyasCard.lean, 'card_holds'). Laid BY PROGRAM, IN A SANDBOX (cutbox-door.mjs). By AI agents, Wed Nov 11 2026. No macro, syntax, notation, axiom, sorry.
-/
import Derived.Test.YtkicabbgcopjdaaDoorRows
import GoSem.ClaimSeven
namespace Go.Proofs.YtkicabbgcopjdaaDoor
namespace Rows

/-- THE TIED CARD OF 'tmesislaw04.QuoteAll'. -/
def quoteAllCard : Claim7 := { stood := { row := quoteAllRow, standIns := [], harness := (true, "0ec66ed54627d676f7ce7d8c7c7de6103f31110e8533ef5e7829467ea6eb2006"), looks := false }, kinds := [], alts := [], laidByText := true, laidKinds := [.data, .pinned], laidTests := true, laidLooks := .later }
def QuoteAllCardSaid : Prop := Claim7.holds Tryd.pinned (.plain (OpenSpec.ofChange quoteAllSpec)) quoteAllCard

/-- THE TIED CARD OF 'tmesislaw04.QuoteCuts'. -/
def quoteCutsCard : Claim7 := { stood := { row := quoteCutsRow, standIns := [], harness := (true, "0ec66ed54627d676f7ce7d8c7c7de6103f31110e8533ef5e7829467ea6eb2006"), looks := false }, kinds := [], alts := [], laidByText := true, laidKinds := [.data, .pinned], laidTests := true, laidLooks := .later }
def QuoteCutsCardSaid : Prop := Claim7.holds Tryd.pinned (.plain (OpenSpec.ofChange quoteCutsSpec)) quoteCutsCard

/-- THE TIED CARD OF 'tmesislaw04.QuotePlain'. -/
def quotePlainCard : Claim7 := { stood := { row := quotePlainRow, standIns := [], harness := (true, "0ec66ed54627d676f7ce7d8c7c7de6103f31110e8533ef5e7829467ea6eb2006"), looks := false }, kinds := [], alts := [], laidByText := true, laidKinds := [.data, .pinned], laidTests := true, laidLooks := .later }
def QuotePlainCardSaid : Prop := Claim7.holds Tryd.pinned (.plain (OpenSpec.ofChange quotePlainSpec)) quotePlainCard

/-- THE TIED CARD OF 'tmesislaw04.QuoteFirst'. -/
def quoteFirstCard : Claim7 := { stood := { row := quoteFirstRow, standIns := [], harness := (true, "0ec66ed54627d676f7ce7d8c7c7de6103f31110e8533ef5e7829467ea6eb2006"), looks := false }, kinds := [], alts := [], laidByText := true, laidKinds := [.data, .pinned], laidTests := true, laidLooks := .later }
def QuoteFirstCardSaid : Prop := Claim7.holds Tryd.pinned (.plain (OpenSpec.ofChange quoteFirstSpec)) quoteFirstCard

/-- THE TIED CARD OF 'tmesislaw04.QuoteBack'. -/
def quoteBackCard : Claim7 := { stood := { row := quoteBackRow, standIns := [], harness := (true, "0ec66ed54627d676f7ce7d8c7c7de6103f31110e8533ef5e7829467ea6eb2006"), looks := false }, kinds := [], alts := [], laidByText := true, laidKinds := [.data, .pinned], laidTests := true, laidLooks := .later }
def QuoteBackCardSaid : Prop := Claim7.holds Tryd.pinned (.plain (OpenSpec.ofChange quoteBackSpec)) quoteBackCard

/-- THE SECOND FORM's CARD OF 'tmesislaw04.QuoteAll'. -/
def quoteAllUptoCard : Claim7 := { stood := { row := quoteAllUptoRow, standIns := [], harness := (true, "0ec66ed54627d676f7ce7d8c7c7de6103f31110e8533ef5e7829467ea6eb2006"), looks := false }, kinds := [], alts := [], laidByText := true, laidKinds := [.data, .pinned], laidTests := true, laidLooks := .later }
def QuoteAllUptoCardSaid : Prop := Claim7.holds Tryd.pinned (.plain (OpenSpec.upto quoteAllSpec)) quoteAllUptoCard

/-- THE SECOND FORM's CARD OF 'tmesislaw04.QuoteCuts'. -/
def quoteCutsUptoCard : Claim7 := { stood := { row := quoteCutsUptoRow, standIns := [], harness := (true, "0ec66ed54627d676f7ce7d8c7c7de6103f31110e8533ef5e7829467ea6eb2006"), looks := false }, kinds := [], alts := [], laidByText := true, laidKinds := [.data, .pinned], laidTests := true, laidLooks := .later }
def QuoteCutsUptoCardSaid : Prop := Claim7.holds Tryd.pinned (.plain (OpenSpec.upto quoteCutsSpec)) quoteCutsUptoCard

/-- THE SECOND FORM's CARD OF 'tmesislaw04.QuotePlain'. -/
def quotePlainUptoCard : Claim7 := { stood := { row := quotePlainUptoRow, standIns := [], harness := (true, "0ec66ed54627d676f7ce7d8c7c7de6103f31110e8533ef5e7829467ea6eb2006"), looks := false }, kinds := [], alts := [], laidByText := true, laidKinds := [.data, .pinned], laidTests := true, laidLooks := .later }
def QuotePlainUptoCardSaid : Prop := Claim7.holds Tryd.pinned (.plain (OpenSpec.upto quotePlainSpec)) quotePlainUptoCard

/-- THE SECOND FORM's CARD OF 'tmesislaw04.QuoteFirst'. -/
def quoteFirstUptoCard : Claim7 := { stood := { row := quoteFirstUptoRow, standIns := [], harness := (true, "0ec66ed54627d676f7ce7d8c7c7de6103f31110e8533ef5e7829467ea6eb2006"), looks := false }, kinds := [], alts := [], laidByText := true, laidKinds := [.data, .pinned], laidTests := true, laidLooks := .later }
def QuoteFirstUptoCardSaid : Prop := Claim7.holds Tryd.pinned (.plain (OpenSpec.upto quoteFirstSpec)) quoteFirstUptoCard

/-- THE SECOND FORM's CARD OF 'tmesislaw04.QuoteBack'. -/
def quoteBackUptoCard : Claim7 := { stood := { row := quoteBackUptoRow, standIns := [], harness := (true, "0ec66ed54627d676f7ce7d8c7c7de6103f31110e8533ef5e7829467ea6eb2006"), looks := false }, kinds := [], alts := [], laidByText := true, laidKinds := [.data, .pinned], laidTests := true, laidLooks := .later }
def QuoteBackUptoCardSaid : Prop := Claim7.holds Tryd.pinned (.plain (OpenSpec.upto quoteBackSpec)) quoteBackUptoCard
end Rows
end Go.Proofs.YtkicabbgcopjdaaDoor
