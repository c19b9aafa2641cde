/-
  DERIVED. GIVEN WITH THE SEED: THE CARDS: each row of YtcceijpmabdflaaGreatDoorRows.lean that lists a variable, with what it lists TIED to the program's text (the seventh form; the later family's looks); each row that meets fmt, with fmt's text TOLD by the authors' own Lean function (tested against real Go, not proved from fmt's source: count such statements apart). THE CARD IS WHAT COUNTS. Prove the row's statement (the work); the ties are given (YtcceijpmabdflaaGreatDoorTie.lean); close each card by the builder's one call (the guide's Derived/Test/ToyasCard.lean, 'card_holds'). Laid BY PROGRAM, IN A SANDBOX (cutbox-door.mjs). By AI agents, Wed Nov 11 2026. No macro, syntax, notation, axiom, sorry.
-/
import Derived.Test.YtcceijpmabdflaaGreatDoorRows
import GoSem.ClaimSeven
namespace Go.Proofs.YtcceijpmabdflaaGreatDoor
namespace Rows

/-- THE TIED CARD OF 'interleavelaw35.EncodeGoals'. -/
def encodeGoalsCard : Claim7 := { stood := { row := encodeGoalsRow, standIns := [], harness := (true, "284c40e910df694594568acb42841adb05f5858301cbd73a0fcd0312fe1b296b"), looks := false }, kinds := [], alts := [], laidByText := true, laidKinds := [.data], laidTests := true, laidLooks := .later }
def EncodeGoalsCardSaid : Prop := Claim7.holds Tryz.pinned (.plain (OpenSpec.ofChange encodeGoalsSpec)) encodeGoalsCard

/-- THE TIED CARD OF 'interleavelaw35.EncodeBase'. -/
def encodeBaseCard : Claim7 := { stood := { row := encodeBaseRow, standIns := [], harness := (true, "284c40e910df694594568acb42841adb05f5858301cbd73a0fcd0312fe1b296b"), looks := false }, kinds := [], alts := [], laidByText := true, laidKinds := [.data], laidTests := true, laidLooks := .later }
def EncodeBaseCardSaid : Prop := Claim7.holds Tryz.pinned (.plain (OpenSpec.ofChange encodeBaseSpec)) encodeBaseCard

/-- THE TIED CARD OF 'interleavelaw35.EncodeValid'. -/
def encodeValidCard : Claim7 := { stood := { row := encodeValidRow, standIns := [], harness := (true, "284c40e910df694594568acb42841adb05f5858301cbd73a0fcd0312fe1b296b"), looks := false }, kinds := [], alts := [], laidByText := true, laidKinds := [.data], laidTests := true, laidLooks := .later }
def EncodeValidCardSaid : Prop := Claim7.holds Tryz.pinned (.plain (OpenSpec.ofChange encodeValidSpec)) encodeValidCard

/-- THE TIED CARD OF 'interleavelaw35.EncodeRecorded'. -/
def encodeRecordedCard : Claim7 := { stood := { row := encodeRecordedRow, standIns := [], harness := (true, "284c40e910df694594568acb42841adb05f5858301cbd73a0fcd0312fe1b296b"), looks := false }, kinds := [], alts := [], laidByText := true, laidKinds := [.data], laidTests := true, laidLooks := .later }
def EncodeRecordedCardSaid : Prop := Claim7.holds Tryz.pinned (.plain (OpenSpec.ofChange encodeRecordedSpec)) encodeRecordedCard

/-- THE SECOND FORM's CARD OF 'interleavelaw35.EncodeGoals'. -/
def encodeGoalsUptoCard : Claim7 := { stood := { row := encodeGoalsUptoRow, standIns := [], harness := (true, "284c40e910df694594568acb42841adb05f5858301cbd73a0fcd0312fe1b296b"), looks := false }, kinds := [], alts := [], laidByText := true, laidKinds := [.data], laidTests := true, laidLooks := .later }
def EncodeGoalsUptoCardSaid : Prop := Claim7.holds Tryz.pinned (.plain (OpenSpec.upto encodeGoalsSpec)) encodeGoalsUptoCard

/-- THE SECOND FORM's CARD OF 'interleavelaw35.EncodeBase'. -/
def encodeBaseUptoCard : Claim7 := { stood := { row := encodeBaseUptoRow, standIns := [], harness := (true, "284c40e910df694594568acb42841adb05f5858301cbd73a0fcd0312fe1b296b"), looks := false }, kinds := [], alts := [], laidByText := true, laidKinds := [.data], laidTests := true, laidLooks := .later }
def EncodeBaseUptoCardSaid : Prop := Claim7.holds Tryz.pinned (.plain (OpenSpec.upto encodeBaseSpec)) encodeBaseUptoCard

/-- THE SECOND FORM's CARD OF 'interleavelaw35.EncodeValid'. -/
def encodeValidUptoCard : Claim7 := { stood := { row := encodeValidUptoRow, standIns := [], harness := (true, "284c40e910df694594568acb42841adb05f5858301cbd73a0fcd0312fe1b296b"), looks := false }, kinds := [], alts := [], laidByText := true, laidKinds := [.data], laidTests := true, laidLooks := .later }
def EncodeValidUptoCardSaid : Prop := Claim7.holds Tryz.pinned (.plain (OpenSpec.upto encodeValidSpec)) encodeValidUptoCard

/-- THE SECOND FORM's CARD OF 'interleavelaw35.EncodeRecorded'. -/
def encodeRecordedUptoCard : Claim7 := { stood := { row := encodeRecordedUptoRow, standIns := [], harness := (true, "284c40e910df694594568acb42841adb05f5858301cbd73a0fcd0312fe1b296b"), looks := false }, kinds := [], alts := [], laidByText := true, laidKinds := [.data], laidTests := true, laidLooks := .later }
def EncodeRecordedUptoCardSaid : Prop := Claim7.holds Tryz.pinned (.plain (OpenSpec.upto encodeRecordedSpec)) encodeRecordedUptoCard
end Rows
end Go.Proofs.YtcceijpmabdflaaGreatDoor
