/-
  DERIVED. GIVEN WITH THE SEED: THE CARDS: each row of YtdkcdgfjjppidaaDoorRows.lean that lists a variable, with what it lists TIED to the program's text (the seventh form; the later family's looks); each row that meets fmt, with fmt's text TOLD by the authors' own Lean function (tested against real Go, not proved from fmt's source: count such statements apart). THE CARD IS WHAT COUNTS. Prove the row's statement (the work); the ties are given (YtdkcdgfjjppidaaDoorTie.lean); close each card by the builder's one call (the guide's Derived/Test/ToyasCard.lean, 'card_holds'). Laid BY PROGRAM, IN A SANDBOX (cutbox-door.mjs). By AI agents, Wed Nov 11 2026. No macro, syntax, notation, axiom, sorry.
-/
import Derived.Test.YtdkcdgfjjppidaaDoorRows
import GoSem.ClaimSeven
namespace Go.Proofs.YtdkcdgfjjppidaaDoor
namespace Rows

/-- THE TIED CARD OF 'caesuralaw04.QuoteWrites'. -/
def quoteWritesCard : Claim7 := { stood := { row := quoteWritesRow, standIns := [], harness := (true, "2dd63357b8f51fcc219a964c0e772cd7d8a5cdce3eabab0d9e06d4ec6d09b6bc"), looks := true }, kinds := [], alts := [], laidByText := true, laidKinds := [.data, .data, .data, .sentinel, .sentinel], laidTests := true, laidLooks := .later }
def QuoteWritesCardSaid : Prop := Claim7.holds Tryd.pinned (.plain (OpenSpec.ofChange quoteWritesSpec)) quoteWritesCard

/-- THE TIED CARD OF 'caesuralaw04.QuoteReads'. -/
def quoteReadsCard : Claim7 := { stood := { row := quoteReadsRow, standIns := [], harness := (true, "2dd63357b8f51fcc219a964c0e772cd7d8a5cdce3eabab0d9e06d4ec6d09b6bc"), looks := true }, kinds := [], alts := [], laidByText := true, laidKinds := [.data, .data, .data, .sentinel, .sentinel], laidTests := true, laidLooks := .later }
def QuoteReadsCardSaid : Prop := Claim7.holds Tryd.pinned (.plain (OpenSpec.ofChange quoteReadsSpec)) quoteReadsCard

/-- THE TIED CARD OF 'caesuralaw04.QuoteBack'. -/
def quoteBackCard : Claim7 := { stood := { row := quoteBackRow, standIns := [], harness := (true, "2dd63357b8f51fcc219a964c0e772cd7d8a5cdce3eabab0d9e06d4ec6d09b6bc"), looks := true }, kinds := [], alts := [], laidByText := true, laidKinds := [.data, .data, .data, .sentinel, .sentinel], laidTests := true, laidLooks := .later }
def QuoteBackCardSaid : Prop := Claim7.holds Tryd.pinned (.plain (OpenSpec.ofChange quoteBackSpec)) quoteBackCard

/-- THE TIED CARD OF 'caesuralaw04.QuoteJoins'. -/
def quoteJoinsCard : Claim7 := { stood := { row := quoteJoinsRow, standIns := [], harness := (true, "2dd63357b8f51fcc219a964c0e772cd7d8a5cdce3eabab0d9e06d4ec6d09b6bc"), looks := true }, kinds := [], alts := [], laidByText := true, laidKinds := [.data, .data, .data, .sentinel, .sentinel], laidTests := true, laidLooks := .later }
def QuoteJoinsCardSaid : Prop := Claim7.holds Tryd.pinned (.plain (OpenSpec.ofChange quoteJoinsSpec)) quoteJoinsCard

/-- THE TIED CARD OF 'caesuralaw04.QuotePlaces'. -/
def quotePlacesCard : Claim7 := { stood := { row := quotePlacesRow, standIns := [], harness := (true, "2dd63357b8f51fcc219a964c0e772cd7d8a5cdce3eabab0d9e06d4ec6d09b6bc"), looks := true }, kinds := [], alts := [], laidByText := true, laidKinds := [.data, .data, .data, .sentinel, .sentinel], laidTests := true, laidLooks := .later }
def QuotePlacesCardSaid : Prop := Claim7.holds Tryd.pinned (.plain (OpenSpec.ofChange quotePlacesSpec)) quotePlacesCard

/-- THE SECOND FORM's CARD OF 'caesuralaw04.QuoteWrites'. -/
def quoteWritesUptoCard : Claim7 := { stood := { row := quoteWritesUptoRow, standIns := [], harness := (true, "2dd63357b8f51fcc219a964c0e772cd7d8a5cdce3eabab0d9e06d4ec6d09b6bc"), looks := true }, kinds := [], alts := [], laidByText := true, laidKinds := [.data, .data, .data, .sentinel, .sentinel], laidTests := true, laidLooks := .later }
def QuoteWritesUptoCardSaid : Prop := Claim7.holds Tryd.pinned (.plain (OpenSpec.upto quoteWritesSpec)) quoteWritesUptoCard

/-- THE SECOND FORM's CARD OF 'caesuralaw04.QuoteReads'. -/
def quoteReadsUptoCard : Claim7 := { stood := { row := quoteReadsUptoRow, standIns := [], harness := (true, "2dd63357b8f51fcc219a964c0e772cd7d8a5cdce3eabab0d9e06d4ec6d09b6bc"), looks := true }, kinds := [], alts := [], laidByText := true, laidKinds := [.data, .data, .data, .sentinel, .sentinel], laidTests := true, laidLooks := .later }
def QuoteReadsUptoCardSaid : Prop := Claim7.holds Tryd.pinned (.plain (OpenSpec.upto quoteReadsSpec)) quoteReadsUptoCard

/-- THE SECOND FORM's CARD OF 'caesuralaw04.QuoteBack'. -/
def quoteBackUptoCard : Claim7 := { stood := { row := quoteBackUptoRow, standIns := [], harness := (true, "2dd63357b8f51fcc219a964c0e772cd7d8a5cdce3eabab0d9e06d4ec6d09b6bc"), looks := true }, kinds := [], alts := [], laidByText := true, laidKinds := [.data, .data, .data, .sentinel, .sentinel], laidTests := true, laidLooks := .later }
def QuoteBackUptoCardSaid : Prop := Claim7.holds Tryd.pinned (.plain (OpenSpec.upto quoteBackSpec)) quoteBackUptoCard

/-- THE SECOND FORM's CARD OF 'caesuralaw04.QuoteJoins'. -/
def quoteJoinsUptoCard : Claim7 := { stood := { row := quoteJoinsUptoRow, standIns := [], harness := (true, "2dd63357b8f51fcc219a964c0e772cd7d8a5cdce3eabab0d9e06d4ec6d09b6bc"), looks := true }, kinds := [], alts := [], laidByText := true, laidKinds := [.data, .data, .data, .sentinel, .sentinel], laidTests := true, laidLooks := .later }
def QuoteJoinsUptoCardSaid : Prop := Claim7.holds Tryd.pinned (.plain (OpenSpec.upto quoteJoinsSpec)) quoteJoinsUptoCard

/-- THE SECOND FORM's CARD OF 'caesuralaw04.QuotePlaces'. -/
def quotePlacesUptoCard : Claim7 := { stood := { row := quotePlacesUptoRow, standIns := [], harness := (true, "2dd63357b8f51fcc219a964c0e772cd7d8a5cdce3eabab0d9e06d4ec6d09b6bc"), looks := true }, kinds := [], alts := [], laidByText := true, laidKinds := [.data, .data, .data, .sentinel, .sentinel], laidTests := true, laidLooks := .later }
def QuotePlacesUptoCardSaid : Prop := Claim7.holds Tryd.pinned (.plain (OpenSpec.upto quotePlacesSpec)) quotePlacesUptoCard
end Rows
end Go.Proofs.YtdkcdgfjjppidaaDoor
