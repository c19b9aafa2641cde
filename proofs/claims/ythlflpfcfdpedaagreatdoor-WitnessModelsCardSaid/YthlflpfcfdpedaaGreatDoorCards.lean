/-
  DERIVED. GIVEN WITH THE SEED: THE CARDS: each row of YthlflpfcfdpedaaGreatDoorRows.lean that lists a variable, with what it lists TIED to the program's text (the seventh form; the later family's looks); each row that meets fmt, with fmt's text TOLD by the authors' own Lean function (tested against real Go, not proved from fmt's source: count such statements apart). THE CARD IS WHAT COUNTS. Prove the row's statement (the work); the ties are given (YthlflpfcfdpedaaGreatDoorTie.lean); close each card by the builder's one call (the guide's Derived/Test/ToyasCard.lean, 'card_holds'). Laid BY PROGRAM, IN A SANDBOX (cutbox-door.mjs). By AI agents, Wed Nov 11 2026. No macro, syntax, notation, axiom, sorry.
-/
import Derived.Test.YthlflpfcfdpedaaGreatDoorRows
import GoSem.ClaimSeven
namespace Go.Proofs.YthlflpfcfdpedaaGreatDoor
namespace Rows

/-- THE TIED CARD OF 'interleavelaw36.WitnessValid'. -/
def witnessValidCard : Claim7 := { stood := { row := witnessValidRow, standIns := [], harness := (true, "28ffc7eecbe466f5288ba229cf1087f83a429ea8260283fd2f8ee9d8d3ce3d54"), looks := false }, kinds := [], alts := [], laidByText := true, laidKinds := [.data], laidTests := true, laidLooks := .later }
def WitnessValidCardSaid : Prop := Claim7.holds Tryz.pinned (.plain (OpenSpec.ofChange witnessValidSpec)) witnessValidCard

/-- THE TIED CARD OF 'interleavelaw36.WitnessWalks'. -/
def witnessWalksCard : Claim7 := { stood := { row := witnessWalksRow, standIns := [], harness := (true, "28ffc7eecbe466f5288ba229cf1087f83a429ea8260283fd2f8ee9d8d3ce3d54"), looks := false }, kinds := [], alts := [], laidByText := true, laidKinds := [.data], laidTests := true, laidLooks := .later }
def WitnessWalksCardSaid : Prop := Claim7.holds Tryz.pinned (.plain (OpenSpec.ofChange witnessWalksSpec)) witnessWalksCard

/-- THE TIED CARD OF 'interleavelaw36.WitnessModels'. -/
def witnessModelsCard : Claim7 := { stood := { row := witnessModelsRow, standIns := [], harness := (true, "28ffc7eecbe466f5288ba229cf1087f83a429ea8260283fd2f8ee9d8d3ce3d54"), looks := false }, kinds := [], alts := [], laidByText := true, laidKinds := [.data], laidTests := true, laidLooks := .later }
def WitnessModelsCardSaid : Prop := Claim7.holds Tryz.pinned (.plain (OpenSpec.ofChange witnessModelsSpec)) witnessModelsCard

/-- THE TIED CARD OF 'interleavelaw36.WitnessNone'. -/
def witnessNoneCard : Claim7 := { stood := { row := witnessNoneRow, standIns := [], harness := (true, "28ffc7eecbe466f5288ba229cf1087f83a429ea8260283fd2f8ee9d8d3ce3d54"), looks := false }, kinds := [], alts := [], laidByText := true, laidKinds := [.data], laidTests := true, laidLooks := .later }
def WitnessNoneCardSaid : Prop := Claim7.holds Tryz.pinned (.plain (OpenSpec.ofChange witnessNoneSpec)) witnessNoneCard

/-- THE TIED CARD OF 'interleavelaw36.WitnessShortens'. -/
def witnessShortensCard : Claim7 := { stood := { row := witnessShortensRow, standIns := [], harness := (true, "28ffc7eecbe466f5288ba229cf1087f83a429ea8260283fd2f8ee9d8d3ce3d54"), looks := false }, kinds := [], alts := [], laidByText := true, laidKinds := [.data], laidTests := true, laidLooks := .later }
def WitnessShortensCardSaid : Prop := Claim7.holds Tryz.pinned (.plain (OpenSpec.ofChange witnessShortensSpec)) witnessShortensCard

/-- THE TIED CARD OF 'interleavelaw36.WitnessMinimal'. -/
def witnessMinimalCard : Claim7 := { stood := { row := witnessMinimalRow, standIns := [], harness := (true, "28ffc7eecbe466f5288ba229cf1087f83a429ea8260283fd2f8ee9d8d3ce3d54"), looks := false }, kinds := [], alts := [], laidByText := true, laidKinds := [.data], laidTests := true, laidLooks := .later }
def WitnessMinimalCardSaid : Prop := Claim7.holds Tryz.pinned (.plain (OpenSpec.ofChange witnessMinimalSpec)) witnessMinimalCard

/-- THE SECOND FORM's CARD OF 'interleavelaw36.WitnessValid'. -/
def witnessValidUptoCard : Claim7 := { stood := { row := witnessValidUptoRow, standIns := [], harness := (true, "28ffc7eecbe466f5288ba229cf1087f83a429ea8260283fd2f8ee9d8d3ce3d54"), looks := false }, kinds := [], alts := [], laidByText := true, laidKinds := [.data], laidTests := true, laidLooks := .later }
def WitnessValidUptoCardSaid : Prop := Claim7.holds Tryz.pinned (.plain (OpenSpec.upto witnessValidSpec)) witnessValidUptoCard

/-- THE SECOND FORM's CARD OF 'interleavelaw36.WitnessWalks'. -/
def witnessWalksUptoCard : Claim7 := { stood := { row := witnessWalksUptoRow, standIns := [], harness := (true, "28ffc7eecbe466f5288ba229cf1087f83a429ea8260283fd2f8ee9d8d3ce3d54"), looks := false }, kinds := [], alts := [], laidByText := true, laidKinds := [.data], laidTests := true, laidLooks := .later }
def WitnessWalksUptoCardSaid : Prop := Claim7.holds Tryz.pinned (.plain (OpenSpec.upto witnessWalksSpec)) witnessWalksUptoCard

/-- THE SECOND FORM's CARD OF 'interleavelaw36.WitnessModels'. -/
def witnessModelsUptoCard : Claim7 := { stood := { row := witnessModelsUptoRow, standIns := [], harness := (true, "28ffc7eecbe466f5288ba229cf1087f83a429ea8260283fd2f8ee9d8d3ce3d54"), looks := false }, kinds := [], alts := [], laidByText := true, laidKinds := [.data], laidTests := true, laidLooks := .later }
def WitnessModelsUptoCardSaid : Prop := Claim7.holds Tryz.pinned (.plain (OpenSpec.upto witnessModelsSpec)) witnessModelsUptoCard

/-- THE SECOND FORM's CARD OF 'interleavelaw36.WitnessNone'. -/
def witnessNoneUptoCard : Claim7 := { stood := { row := witnessNoneUptoRow, standIns := [], harness := (true, "28ffc7eecbe466f5288ba229cf1087f83a429ea8260283fd2f8ee9d8d3ce3d54"), looks := false }, kinds := [], alts := [], laidByText := true, laidKinds := [.data], laidTests := true, laidLooks := .later }
def WitnessNoneUptoCardSaid : Prop := Claim7.holds Tryz.pinned (.plain (OpenSpec.upto witnessNoneSpec)) witnessNoneUptoCard

/-- THE SECOND FORM's CARD OF 'interleavelaw36.WitnessShortens'. -/
def witnessShortensUptoCard : Claim7 := { stood := { row := witnessShortensUptoRow, standIns := [], harness := (true, "28ffc7eecbe466f5288ba229cf1087f83a429ea8260283fd2f8ee9d8d3ce3d54"), looks := false }, kinds := [], alts := [], laidByText := true, laidKinds := [.data], laidTests := true, laidLooks := .later }
def WitnessShortensUptoCardSaid : Prop := Claim7.holds Tryz.pinned (.plain (OpenSpec.upto witnessShortensSpec)) witnessShortensUptoCard

/-- THE SECOND FORM's CARD OF 'interleavelaw36.WitnessMinimal'. -/
def witnessMinimalUptoCard : Claim7 := { stood := { row := witnessMinimalUptoRow, standIns := [], harness := (true, "28ffc7eecbe466f5288ba229cf1087f83a429ea8260283fd2f8ee9d8d3ce3d54"), looks := false }, kinds := [], alts := [], laidByText := true, laidKinds := [.data], laidTests := true, laidLooks := .later }
def WitnessMinimalUptoCardSaid : Prop := Claim7.holds Tryz.pinned (.plain (OpenSpec.upto witnessMinimalSpec)) witnessMinimalUptoCard
end Rows
end Go.Proofs.YthlflpfcfdpedaaGreatDoor
