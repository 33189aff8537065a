/-
  DERIVED. GIVEN WITH THE SEED: THE CARDS: each row of YtbdoafigggcdpaaGreatDoorRows.lean that lists a variable, with what it lists TIED to the program's text (the seventh form; the later family's looks); each row that meets fmt, with fmt's text TOLD by the authors' own Lean function (tested against real Go, not proved from fmt's source: count such statements apart). THE CARD IS WHAT COUNTS. Prove the row's statement (the work); the ties are given (YtbdoafigggcdpaaGreatDoorTie.lean); close each card by the builder's one call (the guide's Derived/Test/ToyasCard.lean, 'card_holds'). Laid BY PROGRAM, IN A SANDBOX (cutbox-door.mjs). By AI agents, Wed Nov 11 2026. No macro, syntax, notation, axiom, sorry.
-/
import Derived.Test.YtbdoafigggcdpaaGreatDoorRows
import GoSem.ClaimSeven
namespace Go.Proofs.YtbdoafigggcdpaaGreatDoor
namespace Rows

/-- THE TIED CARD OF 'lunettelaw20.ScriptShows'. -/
def scriptShowsCard : Claim7 := { stood := { row := scriptShowsRow, standIns := [], harness := (true, "dde367174976e5e0b8670dd1563f24485fe03c81c008d9bec67db6a33db9fb85"), looks := true }, kinds := [], alts := [], laidByText := true, laidKinds := [.data, .data, .data, .data, .sentinel, .sentinel, .listed, .data, .widerDeep, .pinned], laidTests := true, laidLooks := .later }
def ScriptShowsCardSaid : Prop := Claim7.holds Tryz.pinned (.plain (OpenSpec.ofChange scriptShowsSpec)) scriptShowsCard

/-- THE TIED CARD OF 'lunettelaw20.ScriptReads'. -/
def scriptReadsCard : Claim7 := { stood := { row := scriptReadsRow, standIns := [], harness := (true, "dde367174976e5e0b8670dd1563f24485fe03c81c008d9bec67db6a33db9fb85"), looks := true }, kinds := [], alts := [], laidByText := true, laidKinds := [.data, .data, .data, .data, .sentinel, .sentinel, .listed, .data, .widerDeep, .pinned], laidTests := true, laidLooks := .later }
def ScriptReadsCardSaid : Prop := Claim7.holds Tryz.pinned (.plain (OpenSpec.ofChange scriptReadsSpec)) scriptReadsCard

/-- THE TIED CARD OF 'lunettelaw20.ScriptTells'. -/
def scriptTellsCard : Claim7 := { stood := { row := scriptTellsRow, standIns := [], harness := (true, "dde367174976e5e0b8670dd1563f24485fe03c81c008d9bec67db6a33db9fb85"), looks := true }, kinds := [], alts := [], laidByText := true, laidKinds := [.data, .data, .data, .data, .sentinel, .sentinel, .listed, .data, .widerDeep, .pinned], laidTests := true, laidLooks := .later }
def ScriptTellsCardSaid : Prop := Claim7.holds Tryz.pinned (.plain (OpenSpec.ofChange scriptTellsSpec)) scriptTellsCard

/-- THE TIED CARD OF 'lunettelaw20.ScriptJoins'. -/
def scriptJoinsCard : Claim7 := { stood := { row := scriptJoinsRow, standIns := [], harness := (true, "dde367174976e5e0b8670dd1563f24485fe03c81c008d9bec67db6a33db9fb85"), looks := true }, kinds := [], alts := [], laidByText := true, laidKinds := [.data, .data, .data, .data, .sentinel, .sentinel, .listed, .data, .widerDeep, .pinned], laidTests := true, laidLooks := .later }
def ScriptJoinsCardSaid : Prop := Claim7.holds Tryz.pinned (.plain (OpenSpec.ofChange scriptJoinsSpec)) scriptJoinsCard

/-- THE TIED CARD OF 'lunettelaw20.ScriptWrong'. -/
def scriptWrongCard : Claim7 := { stood := { row := scriptWrongRow, standIns := [], harness := (true, "dde367174976e5e0b8670dd1563f24485fe03c81c008d9bec67db6a33db9fb85"), looks := true }, kinds := [], alts := [], laidByText := true, laidKinds := [.data, .data, .data, .data, .sentinel, .sentinel, .listed, .data, .widerDeep, .pinned], laidTests := true, laidLooks := .later }
def ScriptWrongCardSaid : Prop := Claim7.holds Tryz.pinned (.plain (OpenSpec.ofChange scriptWrongSpec)) scriptWrongCard

/-- THE SECOND FORM's CARD OF 'lunettelaw20.ScriptShows'. -/
def scriptShowsUptoCard : Claim7 := { stood := { row := scriptShowsUptoRow, standIns := [], harness := (true, "dde367174976e5e0b8670dd1563f24485fe03c81c008d9bec67db6a33db9fb85"), looks := true }, kinds := [], alts := [], laidByText := true, laidKinds := [.data, .data, .data, .data, .sentinel, .sentinel, .listed, .data, .widerDeep, .pinned], laidTests := true, laidLooks := .later }
def ScriptShowsUptoCardSaid : Prop := Claim7.holds Tryz.pinned (.plain (OpenSpec.upto scriptShowsSpec)) scriptShowsUptoCard

/-- THE SECOND FORM's CARD OF 'lunettelaw20.ScriptReads'. -/
def scriptReadsUptoCard : Claim7 := { stood := { row := scriptReadsUptoRow, standIns := [], harness := (true, "dde367174976e5e0b8670dd1563f24485fe03c81c008d9bec67db6a33db9fb85"), looks := true }, kinds := [], alts := [], laidByText := true, laidKinds := [.data, .data, .data, .data, .sentinel, .sentinel, .listed, .data, .widerDeep, .pinned], laidTests := true, laidLooks := .later }
def ScriptReadsUptoCardSaid : Prop := Claim7.holds Tryz.pinned (.plain (OpenSpec.upto scriptReadsSpec)) scriptReadsUptoCard

/-- THE SECOND FORM's CARD OF 'lunettelaw20.ScriptTells'. -/
def scriptTellsUptoCard : Claim7 := { stood := { row := scriptTellsUptoRow, standIns := [], harness := (true, "dde367174976e5e0b8670dd1563f24485fe03c81c008d9bec67db6a33db9fb85"), looks := true }, kinds := [], alts := [], laidByText := true, laidKinds := [.data, .data, .data, .data, .sentinel, .sentinel, .listed, .data, .widerDeep, .pinned], laidTests := true, laidLooks := .later }
def ScriptTellsUptoCardSaid : Prop := Claim7.holds Tryz.pinned (.plain (OpenSpec.upto scriptTellsSpec)) scriptTellsUptoCard

/-- THE SECOND FORM's CARD OF 'lunettelaw20.ScriptJoins'. -/
def scriptJoinsUptoCard : Claim7 := { stood := { row := scriptJoinsUptoRow, standIns := [], harness := (true, "dde367174976e5e0b8670dd1563f24485fe03c81c008d9bec67db6a33db9fb85"), looks := true }, kinds := [], alts := [], laidByText := true, laidKinds := [.data, .data, .data, .data, .sentinel, .sentinel, .listed, .data, .widerDeep, .pinned], laidTests := true, laidLooks := .later }
def ScriptJoinsUptoCardSaid : Prop := Claim7.holds Tryz.pinned (.plain (OpenSpec.upto scriptJoinsSpec)) scriptJoinsUptoCard

/-- THE SECOND FORM's CARD OF 'lunettelaw20.ScriptWrong'. -/
def scriptWrongUptoCard : Claim7 := { stood := { row := scriptWrongUptoRow, standIns := [], harness := (true, "dde367174976e5e0b8670dd1563f24485fe03c81c008d9bec67db6a33db9fb85"), looks := true }, kinds := [], alts := [], laidByText := true, laidKinds := [.data, .data, .data, .data, .sentinel, .sentinel, .listed, .data, .widerDeep, .pinned], laidTests := true, laidLooks := .later }
def ScriptWrongUptoCardSaid : Prop := Claim7.holds Tryz.pinned (.plain (OpenSpec.upto scriptWrongSpec)) scriptWrongUptoCard
end Rows
end Go.Proofs.YtbdoafigggcdpaaGreatDoor
