/-
  DERIVED. GIVEN WITH THE SEED: THE CARDS: each row of YtmilgmjhdfijjaaGreatDoorRows.lean that lists a variable, with what it lists TIED to the program's text (the seventh form; the later family's looks); each row that meets fmt, with fmt's text TOLD by the authors' own Lean function (tested against real Go, not proved from fmt's source: count such statements apart). THE CARD IS WHAT COUNTS. Prove the row's statement (the work); the ties are given (YtmilgmjhdfijjaaGreatDoorTie.lean); close each card by the builder's one call (the guide's Derived/Test/ToyasCard.lean, 'card_holds'). Laid BY PROGRAM, IN A SANDBOX (cutbox-door.mjs). By AI agents, Wed Nov 11 2026. No macro, syntax, notation, axiom, sorry.
-/
import Derived.Test.YtmilgmjhdfijjaaGreatDoorRows
import GoSem.ClaimSeven
namespace Go.Proofs.YtmilgmjhdfijjaaGreatDoor
namespace Rows

/-- THE TIED CARD OF 'interleavelaw35.EncodeNames'. -/
def encodeNamesCard : Claim7 := { stood := { row := encodeNamesRow, standIns := [], harness := (true, "43c190d0380a8584e5d394e07d57aef1b6bd53e3bc6ae71de84331208c346ea3"), looks := false }, kinds := [], alts := [], laidByText := true, laidKinds := [.data], laidTests := true, laidLooks := .later }
def EncodeNamesCardSaid : Prop := Claim7.holds Tryz.pinned (.plain (OpenSpec.ofChange encodeNamesSpec)) encodeNamesCard

/-- THE TIED CARD OF 'interleavelaw35.EncodeIndex'. -/
def encodeIndexCard : Claim7 := { stood := { row := encodeIndexRow, standIns := [], harness := (true, "43c190d0380a8584e5d394e07d57aef1b6bd53e3bc6ae71de84331208c346ea3"), looks := false }, kinds := [], alts := [], laidByText := true, laidKinds := [.data], laidTests := true, laidLooks := .later }
def EncodeIndexCardSaid : Prop := Claim7.holds Tryz.pinned (.plain (OpenSpec.ofChange encodeIndexSpec)) encodeIndexCard

/-- THE SECOND FORM's CARD OF 'interleavelaw35.EncodeNames'. -/
def encodeNamesUptoCard : Claim7 := { stood := { row := encodeNamesUptoRow, standIns := [], harness := (true, "43c190d0380a8584e5d394e07d57aef1b6bd53e3bc6ae71de84331208c346ea3"), looks := false }, kinds := [], alts := [], laidByText := true, laidKinds := [.data], laidTests := true, laidLooks := .later }
def EncodeNamesUptoCardSaid : Prop := Claim7.holds Tryz.pinned (.plain (OpenSpec.upto encodeNamesSpec)) encodeNamesUptoCard

/-- THE SECOND FORM's CARD OF 'interleavelaw35.EncodeIndex'. -/
def encodeIndexUptoCard : Claim7 := { stood := { row := encodeIndexUptoRow, standIns := [], harness := (true, "43c190d0380a8584e5d394e07d57aef1b6bd53e3bc6ae71de84331208c346ea3"), looks := false }, kinds := [], alts := [], laidByText := true, laidKinds := [.data], laidTests := true, laidLooks := .later }
def EncodeIndexUptoCardSaid : Prop := Claim7.holds Tryz.pinned (.plain (OpenSpec.upto encodeIndexSpec)) encodeIndexUptoCard
end Rows
end Go.Proofs.YtmilgmjhdfijjaaGreatDoor
