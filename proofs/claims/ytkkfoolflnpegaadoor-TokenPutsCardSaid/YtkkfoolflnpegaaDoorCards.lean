/-
  DERIVED. GIVEN WITH THE SEED: THE CARDS: each row of YtkkfoolflnpegaaDoorRows.lean that lists a variable, with what it lists TIED to the program's text (the seventh form; the later family's looks); each row that meets fmt, with fmt's text TOLD by the authors' own Lean function (tested against real Go, not proved from fmt's source: count such statements apart). THE CARD IS WHAT COUNTS. Prove the row's statement (the work); the ties are given (YtkkfoolflnpegaaDoorTie.lean); close each card by the builder's one call (the guide's Derived/Test/ToyasCard.lean, 'card_holds'). Laid BY PROGRAM, IN A SANDBOX (cutbox-door.mjs). By AI agents, Wed Nov 11 2026. No macro, syntax, notation, axiom, sorry.
-/
import Derived.Test.YtkkfoolflnpegaaDoorRows
import GoSem.ClaimSeven
namespace Go.Proofs.YtkkfoolflnpegaaDoor
namespace Rows

/-- THE TIED CARD OF 'lunettelaw16.TokenPuts'. -/
def tokenPutsCard : Claim7 := { stood := { row := tokenPutsRow, standIns := [], harness := (true, "0d4f183c5d8c88f4959f3d7526ad076905e462adde0a155ae348c8e3278ac368"), looks := true }, kinds := [], alts := [], laidByText := true, laidKinds := [.data, .data, .data, .sentinel, .sentinel], laidTests := true, laidLooks := .later }
def TokenPutsCardSaid : Prop := Claim7.holds Tryd.pinned (.plain (OpenSpec.ofChange tokenPutsSpec)) tokenPutsCard

/-- THE TIED CARD OF 'lunettelaw16.TokenGets'. -/
def tokenGetsCard : Claim7 := { stood := { row := tokenGetsRow, standIns := [], harness := (true, "0d4f183c5d8c88f4959f3d7526ad076905e462adde0a155ae348c8e3278ac368"), looks := true }, kinds := [], alts := [], laidByText := true, laidKinds := [.data, .data, .data, .sentinel, .sentinel], laidTests := true, laidLooks := .later }
def TokenGetsCardSaid : Prop := Claim7.holds Tryd.pinned (.plain (OpenSpec.ofChange tokenGetsSpec)) tokenGetsCard

/-- THE TIED CARD OF 'lunettelaw16.TokenTurned'. -/
def tokenTurnedCard : Claim7 := { stood := { row := tokenTurnedRow, standIns := [], harness := (true, "0d4f183c5d8c88f4959f3d7526ad076905e462adde0a155ae348c8e3278ac368"), looks := true }, kinds := [], alts := [], laidByText := true, laidKinds := [.data, .data, .data, .sentinel, .sentinel], laidTests := true, laidLooks := .later }
def TokenTurnedCardSaid : Prop := Claim7.holds Tryd.pinned (.plain (OpenSpec.ofChange tokenTurnedSpec)) tokenTurnedCard

/-- THE TIED CARD OF 'lunettelaw16.TokenApart'. -/
def tokenApartCard : Claim7 := { stood := { row := tokenApartRow, standIns := [], harness := (true, "0d4f183c5d8c88f4959f3d7526ad076905e462adde0a155ae348c8e3278ac368"), looks := true }, kinds := [], alts := [], laidByText := true, laidKinds := [.data, .data, .data, .sentinel, .sentinel], laidTests := true, laidLooks := .later }
def TokenApartCardSaid : Prop := Claim7.holds Tryd.pinned (.plain (OpenSpec.ofChange tokenApartSpec)) tokenApartCard

/-- THE TIED CARD OF 'lunettelaw16.TokenMarks'. -/
def tokenMarksCard : Claim7 := { stood := { row := tokenMarksRow, standIns := [], harness := (true, "0d4f183c5d8c88f4959f3d7526ad076905e462adde0a155ae348c8e3278ac368"), looks := true }, kinds := [], alts := [], laidByText := true, laidKinds := [.data, .data, .data, .sentinel, .sentinel], laidTests := true, laidLooks := .later }
def TokenMarksCardSaid : Prop := Claim7.holds Tryd.pinned (.plain (OpenSpec.ofChange tokenMarksSpec)) tokenMarksCard

/-- THE SECOND FORM's CARD OF 'lunettelaw16.TokenPuts'. -/
def tokenPutsUptoCard : Claim7 := { stood := { row := tokenPutsUptoRow, standIns := [], harness := (true, "0d4f183c5d8c88f4959f3d7526ad076905e462adde0a155ae348c8e3278ac368"), looks := true }, kinds := [], alts := [], laidByText := true, laidKinds := [.data, .data, .data, .sentinel, .sentinel], laidTests := true, laidLooks := .later }
def TokenPutsUptoCardSaid : Prop := Claim7.holds Tryd.pinned (.plain (OpenSpec.upto tokenPutsSpec)) tokenPutsUptoCard

/-- THE SECOND FORM's CARD OF 'lunettelaw16.TokenGets'. -/
def tokenGetsUptoCard : Claim7 := { stood := { row := tokenGetsUptoRow, standIns := [], harness := (true, "0d4f183c5d8c88f4959f3d7526ad076905e462adde0a155ae348c8e3278ac368"), looks := true }, kinds := [], alts := [], laidByText := true, laidKinds := [.data, .data, .data, .sentinel, .sentinel], laidTests := true, laidLooks := .later }
def TokenGetsUptoCardSaid : Prop := Claim7.holds Tryd.pinned (.plain (OpenSpec.upto tokenGetsSpec)) tokenGetsUptoCard

/-- THE SECOND FORM's CARD OF 'lunettelaw16.TokenTurned'. -/
def tokenTurnedUptoCard : Claim7 := { stood := { row := tokenTurnedUptoRow, standIns := [], harness := (true, "0d4f183c5d8c88f4959f3d7526ad076905e462adde0a155ae348c8e3278ac368"), looks := true }, kinds := [], alts := [], laidByText := true, laidKinds := [.data, .data, .data, .sentinel, .sentinel], laidTests := true, laidLooks := .later }
def TokenTurnedUptoCardSaid : Prop := Claim7.holds Tryd.pinned (.plain (OpenSpec.upto tokenTurnedSpec)) tokenTurnedUptoCard

/-- THE SECOND FORM's CARD OF 'lunettelaw16.TokenApart'. -/
def tokenApartUptoCard : Claim7 := { stood := { row := tokenApartUptoRow, standIns := [], harness := (true, "0d4f183c5d8c88f4959f3d7526ad076905e462adde0a155ae348c8e3278ac368"), looks := true }, kinds := [], alts := [], laidByText := true, laidKinds := [.data, .data, .data, .sentinel, .sentinel], laidTests := true, laidLooks := .later }
def TokenApartUptoCardSaid : Prop := Claim7.holds Tryd.pinned (.plain (OpenSpec.upto tokenApartSpec)) tokenApartUptoCard

/-- THE SECOND FORM's CARD OF 'lunettelaw16.TokenMarks'. -/
def tokenMarksUptoCard : Claim7 := { stood := { row := tokenMarksUptoRow, standIns := [], harness := (true, "0d4f183c5d8c88f4959f3d7526ad076905e462adde0a155ae348c8e3278ac368"), looks := true }, kinds := [], alts := [], laidByText := true, laidKinds := [.data, .data, .data, .sentinel, .sentinel], laidTests := true, laidLooks := .later }
def TokenMarksUptoCardSaid : Prop := Claim7.holds Tryd.pinned (.plain (OpenSpec.upto tokenMarksSpec)) tokenMarksUptoCard
end Rows
end Go.Proofs.YtkkfoolflnpegaaDoor
