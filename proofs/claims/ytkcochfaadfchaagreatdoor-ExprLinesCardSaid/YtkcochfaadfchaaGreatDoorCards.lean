/-
  DERIVED. GIVEN WITH THE SEED: THE CARDS: each row of YtkcochfaadfchaaGreatDoorRows.lean that lists a variable, with what it lists TIED to the program's text (the seventh form; the later family's looks); each row that meets fmt, with fmt's text TOLD by the authors' own Lean function (tested against real Go, not proved from fmt's source: count such statements apart). THE CARD IS WHAT COUNTS. Prove the row's statement (the work); the ties are given (YtkcochfaadfchaaGreatDoorTie.lean); close each card by the builder's one call (the guide's Derived/Test/ToyasCard.lean, 'card_holds'). Laid BY PROGRAM, IN A SANDBOX (cutbox-door.mjs). By AI agents, Wed Nov 11 2026. No macro, syntax, notation, axiom, sorry.
-/
import Derived.Test.YtkcochfaadfchaaGreatDoorRows
import GoSem.ClaimSeven
namespace Go.Proofs.YtkcochfaadfchaaGreatDoor
namespace Rows

/-- THE TIED CARD OF 'caesuralaw06.ExprSames'. -/
def exprSamesCard : Claim7 := { stood := { row := exprSamesRow, standIns := [], harness := (true, "4c5d5f281965aa011338e321adb4c58e3828ae770783297fa89eb09cc465fad0"), looks := true }, kinds := [], alts := [], laidByText := true, laidKinds := [.data, .data, .data, .data, .sentinel, .sentinel, .pinned], laidTests := true, laidLooks := .later }
def ExprSamesCardSaid : Prop := Claim7.holds Tryz.pinned (.plain (OpenSpec.ofChange exprSamesSpec)) exprSamesCard

/-- THE TIED CARD OF 'caesuralaw06.ExprLines'. -/
def exprLinesCard : Claim7 := { stood := { row := exprLinesRow, standIns := [], harness := (true, "4c5d5f281965aa011338e321adb4c58e3828ae770783297fa89eb09cc465fad0"), looks := true }, kinds := [], alts := [], laidByText := true, laidKinds := [.data, .data, .data, .data, .sentinel, .sentinel, .pinned], laidTests := true, laidLooks := .later }
def ExprLinesCardSaid : Prop := Claim7.holds Tryz.pinned (.plain (OpenSpec.ofChange exprLinesSpec)) exprLinesCard

/-- THE TIED CARD OF 'caesuralaw06.ExprSizes'. -/
def exprSizesCard : Claim7 := { stood := { row := exprSizesRow, standIns := [], harness := (true, "4c5d5f281965aa011338e321adb4c58e3828ae770783297fa89eb09cc465fad0"), looks := true }, kinds := [], alts := [], laidByText := true, laidKinds := [.data, .data, .data, .data, .sentinel, .sentinel, .pinned], laidTests := true, laidLooks := .later }
def ExprSizesCardSaid : Prop := Claim7.holds Tryz.pinned (.plain (OpenSpec.ofChange exprSizesSpec)) exprSizesCard

/-- THE TIED CARD OF 'caesuralaw06.ExprBrackets'. -/
def exprBracketsCard : Claim7 := { stood := { row := exprBracketsRow, standIns := [], harness := (true, "4c5d5f281965aa011338e321adb4c58e3828ae770783297fa89eb09cc465fad0"), looks := true }, kinds := [], alts := [], laidByText := true, laidKinds := [.data, .data, .data, .data, .sentinel, .sentinel, .pinned], laidTests := true, laidLooks := .later }
def ExprBracketsCardSaid : Prop := Claim7.holds Tryz.pinned (.plain (OpenSpec.ofChange exprBracketsSpec)) exprBracketsCard

/-- THE SECOND FORM's CARD OF 'caesuralaw06.ExprSames'. -/
def exprSamesUptoCard : Claim7 := { stood := { row := exprSamesUptoRow, standIns := [], harness := (true, "4c5d5f281965aa011338e321adb4c58e3828ae770783297fa89eb09cc465fad0"), looks := true }, kinds := [], alts := [], laidByText := true, laidKinds := [.data, .data, .data, .data, .sentinel, .sentinel, .pinned], laidTests := true, laidLooks := .later }
def ExprSamesUptoCardSaid : Prop := Claim7.holds Tryz.pinned (.plain (OpenSpec.upto exprSamesSpec)) exprSamesUptoCard

/-- THE SECOND FORM's CARD OF 'caesuralaw06.ExprLines'. -/
def exprLinesUptoCard : Claim7 := { stood := { row := exprLinesUptoRow, standIns := [], harness := (true, "4c5d5f281965aa011338e321adb4c58e3828ae770783297fa89eb09cc465fad0"), looks := true }, kinds := [], alts := [], laidByText := true, laidKinds := [.data, .data, .data, .data, .sentinel, .sentinel, .pinned], laidTests := true, laidLooks := .later }
def ExprLinesUptoCardSaid : Prop := Claim7.holds Tryz.pinned (.plain (OpenSpec.upto exprLinesSpec)) exprLinesUptoCard

/-- THE SECOND FORM's CARD OF 'caesuralaw06.ExprSizes'. -/
def exprSizesUptoCard : Claim7 := { stood := { row := exprSizesUptoRow, standIns := [], harness := (true, "4c5d5f281965aa011338e321adb4c58e3828ae770783297fa89eb09cc465fad0"), looks := true }, kinds := [], alts := [], laidByText := true, laidKinds := [.data, .data, .data, .data, .sentinel, .sentinel, .pinned], laidTests := true, laidLooks := .later }
def ExprSizesUptoCardSaid : Prop := Claim7.holds Tryz.pinned (.plain (OpenSpec.upto exprSizesSpec)) exprSizesUptoCard

/-- THE SECOND FORM's CARD OF 'caesuralaw06.ExprBrackets'. -/
def exprBracketsUptoCard : Claim7 := { stood := { row := exprBracketsUptoRow, standIns := [], harness := (true, "4c5d5f281965aa011338e321adb4c58e3828ae770783297fa89eb09cc465fad0"), looks := true }, kinds := [], alts := [], laidByText := true, laidKinds := [.data, .data, .data, .data, .sentinel, .sentinel, .pinned], laidTests := true, laidLooks := .later }
def ExprBracketsUptoCardSaid : Prop := Claim7.holds Tryz.pinned (.plain (OpenSpec.upto exprBracketsSpec)) exprBracketsUptoCard
end Rows
end Go.Proofs.YtkcochfaadfchaaGreatDoor
