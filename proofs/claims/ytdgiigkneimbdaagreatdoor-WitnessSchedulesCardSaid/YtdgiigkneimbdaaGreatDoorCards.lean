/-
  DERIVED. GIVEN WITH THE SEED: THE CARDS: each row of YtdgiigkneimbdaaGreatDoorRows.lean that lists a variable, with what it lists TIED to the program's text (the seventh form; the later family's looks); each row that meets fmt, with fmt's text TOLD by the authors' own Lean function (tested against real Go, not proved from fmt's source: count such statements apart). THE CARD IS WHAT COUNTS. Prove the row's statement (the work); the ties are given (YtdgiigkneimbdaaGreatDoorTie.lean); close each card by the builder's one call (the guide's Derived/Test/ToyasCard.lean, 'card_holds'). Laid BY PROGRAM, IN A SANDBOX (cutbox-door.mjs). By AI agents, Wed Nov 11 2026. No macro, syntax, notation, axiom, sorry.
-/
import Derived.Test.YtdgiigkneimbdaaGreatDoorRows
import GoSem.ClaimSeven
namespace Go.Proofs.YtdgiigkneimbdaaGreatDoor
namespace Rows

/-- THE TIED CARD OF 'interleavelaw36.WitnessSchedules'. -/
def witnessSchedulesCard : Claim7 := { stood := { row := witnessSchedulesRow, standIns := [], harness := (true, "9e911ce5e48de7ec8dfbecbe70c78e54706d128f5dea5171b8f2781d09a6945c"), looks := false }, kinds := [], alts := [], laidByText := true, laidKinds := [.data], laidTests := true, laidLooks := .later }
def WitnessSchedulesCardSaid : Prop := Claim7.holds Tryz.pinned (.plain (OpenSpec.ofChange witnessSchedulesSpec)) witnessSchedulesCard

/-- THE TIED CARD OF 'interleavelaw36.WitnessRaw'. -/
def witnessRawCard : Claim7 := { stood := { row := witnessRawRow, standIns := [], harness := (true, "9e911ce5e48de7ec8dfbecbe70c78e54706d128f5dea5171b8f2781d09a6945c"), looks := false }, kinds := [], alts := [], laidByText := true, laidKinds := [.data], laidTests := true, laidLooks := .later }
def WitnessRawCardSaid : Prop := Claim7.holds Tryz.pinned (.plain (OpenSpec.ofChange witnessRawSpec)) witnessRawCard

/-- THE SECOND FORM's CARD OF 'interleavelaw36.WitnessSchedules'. -/
def witnessSchedulesUptoCard : Claim7 := { stood := { row := witnessSchedulesUptoRow, standIns := [], harness := (true, "9e911ce5e48de7ec8dfbecbe70c78e54706d128f5dea5171b8f2781d09a6945c"), looks := false }, kinds := [], alts := [], laidByText := true, laidKinds := [.data], laidTests := true, laidLooks := .later }
def WitnessSchedulesUptoCardSaid : Prop := Claim7.holds Tryz.pinned (.plain (OpenSpec.upto witnessSchedulesSpec)) witnessSchedulesUptoCard

/-- THE SECOND FORM's CARD OF 'interleavelaw36.WitnessRaw'. -/
def witnessRawUptoCard : Claim7 := { stood := { row := witnessRawUptoRow, standIns := [], harness := (true, "9e911ce5e48de7ec8dfbecbe70c78e54706d128f5dea5171b8f2781d09a6945c"), looks := false }, kinds := [], alts := [], laidByText := true, laidKinds := [.data], laidTests := true, laidLooks := .later }
def WitnessRawUptoCardSaid : Prop := Claim7.holds Tryz.pinned (.plain (OpenSpec.upto witnessRawSpec)) witnessRawUptoCard
end Rows
end Go.Proofs.YtdgiigkneimbdaaGreatDoor
