/-
  DERIVED. GIVEN WITH THE SEED: THE CARDS: each row of YtokoambdbclaaaaGreatDoorRows.lean that lists a variable, with what it lists TIED to the program's text (the seventh form; the later family's looks); each row that meets fmt, with fmt's text TOLD by the authors' own Lean function (tested against real Go, not proved from fmt's source: count such statements apart). THE CARD IS WHAT COUNTS. Prove the row's statement (the work); the ties are given (YtokoambdbclaaaaGreatDoorTie.lean); close each card by the builder's one call (the guide's Derived/Test/ToyasCard.lean, 'card_holds'). Laid BY PROGRAM, IN A SANDBOX (cutbox-door.mjs). By AI agents, Wed Nov 11 2026. No macro, syntax, notation, axiom, sorry.
-/
import Derived.Test.YtokoambdbclaaaaGreatDoorRows
import GoSem.ClaimSeven
namespace Go.Proofs.YtokoambdbclaaaaGreatDoor
namespace Rows

/-- THE TIED CARD OF 'interleavelaw35.EncodeAny'. -/
def encodeAnyCard : Claim7 := { stood := { row := encodeAnyRow, standIns := [], harness := (true, "3ed5f2d7544208b59097075c8bb4447d9ce433e76d2c78090c7ee004df073d96"), looks := false }, kinds := [], alts := [], laidByText := true, laidKinds := [.data], laidTests := true, laidLooks := .later }
def EncodeAnyCardSaid : Prop := Claim7.holds Tryz.pinned (.plain (OpenSpec.ofChange encodeAnySpec)) encodeAnyCard

/-- THE SECOND FORM's CARD OF 'interleavelaw35.EncodeAny'. -/
def encodeAnyUptoCard : Claim7 := { stood := { row := encodeAnyUptoRow, standIns := [], harness := (true, "3ed5f2d7544208b59097075c8bb4447d9ce433e76d2c78090c7ee004df073d96"), looks := false }, kinds := [], alts := [], laidByText := true, laidKinds := [.data], laidTests := true, laidLooks := .later }
def EncodeAnyUptoCardSaid : Prop := Claim7.holds Tryz.pinned (.plain (OpenSpec.upto encodeAnySpec)) encodeAnyUptoCard
end Rows
end Go.Proofs.YtokoambdbclaaaaGreatDoor
