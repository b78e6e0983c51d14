/-
  DERIVED. GIVEN WITH THE SEED: THE CARDS: each row of YtlenlhnpmblicaaGreatDoorRows.lean that lists a variable, with what it lists TIED to the program's text (the seventh form; the later family's looks); each row that meets fmt, with fmt's text TOLD by the authors' own Lean function (tested against real Go, not proved from fmt's source: count such statements apart). THE CARD IS WHAT COUNTS. Prove the row's statement (the work); the ties are given (YtlenlhnpmblicaaGreatDoorTie.lean); close each card by the builder's one call (the guide's Derived/Test/ToyasCard.lean, 'card_holds'). Laid BY PROGRAM, IN A SANDBOX (cutbox-door.mjs). By AI agents, Wed Nov 11 2026. No macro, syntax, notation, axiom, sorry.
-/
import Derived.Test.YtlenlhnpmblicaaGreatDoorRows
import GoSem.ClaimSeven
namespace Go.Proofs.YtlenlhnpmblicaaGreatDoor
namespace Rows

/-- THE TIED CARD OF 'caesuralaw27.NoteWrites'. -/
def noteWritesCard : Claim7 := { stood := { row := noteWritesRow, standIns := [], harness := (true, "13b6027104772e04eed82228d17cfadc52b96b78685240f9161510aee017d0a9"), looks := true }, kinds := [], alts := [], laidByText := true, laidKinds := [.data, .data, .data, .data, .sentinel, .sentinel, .pinned], laidTests := true, laidLooks := .later }
def NoteWritesCardSaid : Prop := Claim7.holds Tryz.pinned (.plain (OpenSpec.ofChange noteWritesSpec)) noteWritesCard

/-- THE TIED CARD OF 'caesuralaw27.NoteReads'. -/
def noteReadsCard : Claim7 := { stood := { row := noteReadsRow, standIns := [], harness := (true, "13b6027104772e04eed82228d17cfadc52b96b78685240f9161510aee017d0a9"), looks := true }, kinds := [], alts := [], laidByText := true, laidKinds := [.data, .data, .data, .data, .sentinel, .sentinel, .pinned], laidTests := true, laidLooks := .later }
def NoteReadsCardSaid : Prop := Claim7.holds Tryz.pinned (.plain (OpenSpec.ofChange noteReadsSpec)) noteReadsCard

/-- THE TIED CARD OF 'caesuralaw27.NoteBack'. -/
def noteBackCard : Claim7 := { stood := { row := noteBackRow, standIns := [], harness := (true, "13b6027104772e04eed82228d17cfadc52b96b78685240f9161510aee017d0a9"), looks := true }, kinds := [], alts := [], laidByText := true, laidKinds := [.data, .data, .data, .data, .sentinel, .sentinel, .pinned], laidTests := true, laidLooks := .later }
def NoteBackCardSaid : Prop := Claim7.holds Tryz.pinned (.plain (OpenSpec.ofChange noteBackSpec)) noteBackCard

/-- THE TIED CARD OF 'caesuralaw27.NoteSorts'. -/
def noteSortsCard : Claim7 := { stood := { row := noteSortsRow, standIns := [], harness := (true, "13b6027104772e04eed82228d17cfadc52b96b78685240f9161510aee017d0a9"), looks := true }, kinds := [], alts := [], laidByText := true, laidKinds := [.data, .data, .data, .data, .sentinel, .sentinel, .pinned], laidTests := true, laidLooks := .later }
def NoteSortsCardSaid : Prop := Claim7.holds Tryz.pinned (.plain (OpenSpec.ofChange noteSortsSpec)) noteSortsCard

/-- THE TIED CARD OF 'caesuralaw27.NoteLines'. -/
def noteLinesCard : Claim7 := { stood := { row := noteLinesRow, standIns := [], harness := (true, "13b6027104772e04eed82228d17cfadc52b96b78685240f9161510aee017d0a9"), looks := true }, kinds := [], alts := [], laidByText := true, laidKinds := [.data, .data, .data, .data, .sentinel, .sentinel, .pinned], laidTests := true, laidLooks := .later }
def NoteLinesCardSaid : Prop := Claim7.holds Tryz.pinned (.plain (OpenSpec.ofChange noteLinesSpec)) noteLinesCard

/-- THE TIED CARD OF 'caesuralaw27.NoteKinds'. -/
def noteKindsCard : Claim7 := { stood := { row := noteKindsRow, standIns := [], harness := (true, "13b6027104772e04eed82228d17cfadc52b96b78685240f9161510aee017d0a9"), looks := true }, kinds := [], alts := [], laidByText := true, laidKinds := [.data, .data, .data, .data, .sentinel, .sentinel, .pinned], laidTests := true, laidLooks := .later }
def NoteKindsCardSaid : Prop := Claim7.holds Tryz.pinned (.plain (OpenSpec.ofChange noteKindsSpec)) noteKindsCard

/-- THE SECOND FORM's CARD OF 'caesuralaw27.NoteWrites'. -/
def noteWritesUptoCard : Claim7 := { stood := { row := noteWritesUptoRow, standIns := [], harness := (true, "13b6027104772e04eed82228d17cfadc52b96b78685240f9161510aee017d0a9"), looks := true }, kinds := [], alts := [], laidByText := true, laidKinds := [.data, .data, .data, .data, .sentinel, .sentinel, .pinned], laidTests := true, laidLooks := .later }
def NoteWritesUptoCardSaid : Prop := Claim7.holds Tryz.pinned (.plain (OpenSpec.upto noteWritesSpec)) noteWritesUptoCard

/-- THE SECOND FORM's CARD OF 'caesuralaw27.NoteReads'. -/
def noteReadsUptoCard : Claim7 := { stood := { row := noteReadsUptoRow, standIns := [], harness := (true, "13b6027104772e04eed82228d17cfadc52b96b78685240f9161510aee017d0a9"), looks := true }, kinds := [], alts := [], laidByText := true, laidKinds := [.data, .data, .data, .data, .sentinel, .sentinel, .pinned], laidTests := true, laidLooks := .later }
def NoteReadsUptoCardSaid : Prop := Claim7.holds Tryz.pinned (.plain (OpenSpec.upto noteReadsSpec)) noteReadsUptoCard

/-- THE SECOND FORM's CARD OF 'caesuralaw27.NoteBack'. -/
def noteBackUptoCard : Claim7 := { stood := { row := noteBackUptoRow, standIns := [], harness := (true, "13b6027104772e04eed82228d17cfadc52b96b78685240f9161510aee017d0a9"), looks := true }, kinds := [], alts := [], laidByText := true, laidKinds := [.data, .data, .data, .data, .sentinel, .sentinel, .pinned], laidTests := true, laidLooks := .later }
def NoteBackUptoCardSaid : Prop := Claim7.holds Tryz.pinned (.plain (OpenSpec.upto noteBackSpec)) noteBackUptoCard

/-- THE SECOND FORM's CARD OF 'caesuralaw27.NoteSorts'. -/
def noteSortsUptoCard : Claim7 := { stood := { row := noteSortsUptoRow, standIns := [], harness := (true, "13b6027104772e04eed82228d17cfadc52b96b78685240f9161510aee017d0a9"), looks := true }, kinds := [], alts := [], laidByText := true, laidKinds := [.data, .data, .data, .data, .sentinel, .sentinel, .pinned], laidTests := true, laidLooks := .later }
def NoteSortsUptoCardSaid : Prop := Claim7.holds Tryz.pinned (.plain (OpenSpec.upto noteSortsSpec)) noteSortsUptoCard

/-- THE SECOND FORM's CARD OF 'caesuralaw27.NoteLines'. -/
def noteLinesUptoCard : Claim7 := { stood := { row := noteLinesUptoRow, standIns := [], harness := (true, "13b6027104772e04eed82228d17cfadc52b96b78685240f9161510aee017d0a9"), looks := true }, kinds := [], alts := [], laidByText := true, laidKinds := [.data, .data, .data, .data, .sentinel, .sentinel, .pinned], laidTests := true, laidLooks := .later }
def NoteLinesUptoCardSaid : Prop := Claim7.holds Tryz.pinned (.plain (OpenSpec.upto noteLinesSpec)) noteLinesUptoCard

/-- THE SECOND FORM's CARD OF 'caesuralaw27.NoteKinds'. -/
def noteKindsUptoCard : Claim7 := { stood := { row := noteKindsUptoRow, standIns := [], harness := (true, "13b6027104772e04eed82228d17cfadc52b96b78685240f9161510aee017d0a9"), looks := true }, kinds := [], alts := [], laidByText := true, laidKinds := [.data, .data, .data, .data, .sentinel, .sentinel, .pinned], laidTests := true, laidLooks := .later }
def NoteKindsUptoCardSaid : Prop := Claim7.holds Tryz.pinned (.plain (OpenSpec.upto noteKindsSpec)) noteKindsUptoCard
end Rows
end Go.Proofs.YtlenlhnpmblicaaGreatDoor
