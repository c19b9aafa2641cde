/-
  No cell of these rows narrows 'for every input' (looked for: loops, veiled, ifaces, maps, wideKeys, modest, calm, conditions, laid).
  DERIVED. THE GIVEN ROWS OF THIS SEAT. 9 by the template 'for every input the law returns true; each argument reads behind the call as it read before'; 0 by the template 'total and deterministic' (their statements: YtdcgebafmceajaaTotals.lean).
  GIVEN WITH THE SEED: the statements are not yours to turn. If you find one false, say at which input.
  Laid BY PROGRAM, IN A SANDBOX (cutbox-rows.mjs): the forced cells as the released guide's own fill.sh prints them over the translation 62c340c73dd3fcee… (all of the seat's roots in one cut). By AI agents, Wed Nov 11 2026. No macro, syntax, notation, axiom, sorry.
-/
import Derived.Test.YtdcgebafmceajaaChecked
import GoSem.Claim
import GoSem.ClaimJoined
import GoSem.ClaimMapViews
import Derived.JoinedTies
import Derived.KernelRfl
namespace Go.Proofs.Ytdcgebafmceajaa
/- THE CELL 'sum', in the pinned program and in every row, IS THE sha256 OF THE DUMP (.gsa) THAT YtdcgebafmceajaaProg.lean LOADS. Nothing in Lean hashes anything: it is a label: what it is worth is what the hold of that sum in a sandbox is worth. -/
noncomputable def Try.pinned : Pinned := { name := "ytdcgebafmceajaa", sum := "62c340c73dd3fcee6a1d6552e627f10855bee955964f157af086272b23faeec3", checked := Try.checked }
namespace Rows
def none {H : Type} : Left H := { results := [], args := [] }

/-- 'interleavelaw32.DiffSolves': WHATEVER THE INPUT: true; the input reads as it did. -/
def diffSolvesSpec : ChangeSpec := { name := "diffSolves", fn := fun _ => fun
  | [d1, d2] => { results := [.lit (.bool true)], args := [d1, d2] }
  | _ => none }
def diffSolvesRow : OpenClaim := { program := "ytdcgebafmceajaa", sum := "62c340c73dd3fcee6a1d6552e627f10855bee955964f157af086272b23faeec3", func := "interleave/interleavelaw32.DiffSolves", spec := "diffSolves", unfollowed := true, recurses := true, apart := false }
def DiffSolvesSaid : Prop := diffSolvesRow.holds Try.pinned (OpenSpec.ofChange diffSolvesSpec)

/-- ITS FALSE NEIGHBOUR: 'it returns false'. Refute it at one input. -/
def diffSolvesWrong : ChangeSpec := { name := "diffSolves", fn := fun _ => fun
  | [d1, d2] => { results := [.lit (.bool false)], args := [d1, d2] }
  | _ => none }
def DiffSolvesWrongFalsely : Prop := diffSolvesRow.holds Try.pinned (OpenSpec.ofChange diffSolvesWrong)

/-- 'interleavelaw32.DiffSystems': WHATEVER THE INPUT: true; the input reads as it did. -/
def diffSystemsSpec : ChangeSpec := { name := "diffSystems", fn := fun _ => fun
  | [d] => { results := [.lit (.bool true)], args := [d] }
  | _ => none }
def diffSystemsRow : OpenClaim := { program := "ytdcgebafmceajaa", sum := "62c340c73dd3fcee6a1d6552e627f10855bee955964f157af086272b23faeec3", func := "interleave/interleavelaw32.DiffSystems", spec := "diffSystems", unfollowed := true, recurses := true, apart := false }
def DiffSystemsSaid : Prop := diffSystemsRow.holds Try.pinned (OpenSpec.ofChange diffSystemsSpec)

/-- ITS FALSE NEIGHBOUR: 'it returns false'. Refute it at one input. -/
def diffSystemsWrong : ChangeSpec := { name := "diffSystems", fn := fun _ => fun
  | [d] => { results := [.lit (.bool false)], args := [d] }
  | _ => none }
def DiffSystemsWrongFalsely : Prop := diffSystemsRow.holds Try.pinned (OpenSpec.ofChange diffSystemsWrong)

/-- 'interleavelaw32.DiffEntails': WHATEVER THE INPUT: true; the input reads as it did. -/
def diffEntailsSpec : ChangeSpec := { name := "diffEntails", fn := fun _ => fun
  | [d1, d2, d3, d4] => { results := [.lit (.bool true)], args := [d1, d2, d3, d4] }
  | _ => none }
def diffEntailsRow : OpenClaim := { program := "ytdcgebafmceajaa", sum := "62c340c73dd3fcee6a1d6552e627f10855bee955964f157af086272b23faeec3", func := "interleave/interleavelaw32.DiffEntails", spec := "diffEntails", unfollowed := true, recurses := true, apart := false }
def DiffEntailsSaid : Prop := diffEntailsRow.holds Try.pinned (OpenSpec.ofChange diffEntailsSpec)

/-- ITS FALSE NEIGHBOUR: 'it returns false'. Refute it at one input. -/
def diffEntailsWrong : ChangeSpec := { name := "diffEntails", fn := fun _ => fun
  | [d1, d2, d3, d4] => { results := [.lit (.bool false)], args := [d1, d2, d3, d4] }
  | _ => none }
def DiffEntailsWrongFalsely : Prop := diffEntailsRow.holds Try.pinned (OpenSpec.ofChange diffEntailsWrong)

/-- 'interleavelaw32.DiffHolds': WHATEVER THE INPUT: true; the input reads as it did. -/
def diffHoldsSpec : ChangeSpec := { name := "diffHolds", fn := fun _ => fun
  | [d1, d2] => { results := [.lit (.bool true)], args := [d1, d2] }
  | _ => none }
def diffHoldsRow : OpenClaim := { program := "ytdcgebafmceajaa", sum := "62c340c73dd3fcee6a1d6552e627f10855bee955964f157af086272b23faeec3", func := "interleave/interleavelaw32.DiffHolds", spec := "diffHolds", unfollowed := true, recurses := true, apart := false }
def DiffHoldsSaid : Prop := diffHoldsRow.holds Try.pinned (OpenSpec.ofChange diffHoldsSpec)

/-- ITS FALSE NEIGHBOUR: 'it returns false'. Refute it at one input. -/
def diffHoldsWrong : ChangeSpec := { name := "diffHolds", fn := fun _ => fun
  | [d1, d2] => { results := [.lit (.bool false)], args := [d1, d2] }
  | _ => none }
def DiffHoldsWrongFalsely : Prop := diffHoldsRow.holds Try.pinned (OpenSpec.ofChange diffHoldsWrong)

/-- 'interleavelaw32.DiffFollows': WHATEVER THE INPUT: true; the input reads as it did. -/
def diffFollowsSpec : ChangeSpec := { name := "diffFollows", fn := fun _ => fun
  | [d1, d2, d3, d4] => { results := [.lit (.bool true)], args := [d1, d2, d3, d4] }
  | _ => none }
def diffFollowsRow : OpenClaim := { program := "ytdcgebafmceajaa", sum := "62c340c73dd3fcee6a1d6552e627f10855bee955964f157af086272b23faeec3", func := "interleave/interleavelaw32.DiffFollows", spec := "diffFollows", unfollowed := true, recurses := true, apart := false }
def DiffFollowsSaid : Prop := diffFollowsRow.holds Try.pinned (OpenSpec.ofChange diffFollowsSpec)

/-- ITS FALSE NEIGHBOUR: 'it returns false'. Refute it at one input. -/
def diffFollowsWrong : ChangeSpec := { name := "diffFollows", fn := fun _ => fun
  | [d1, d2, d3, d4] => { results := [.lit (.bool false)], args := [d1, d2, d3, d4] }
  | _ => none }
def DiffFollowsWrongFalsely : Prop := diffFollowsRow.holds Try.pinned (OpenSpec.ofChange diffFollowsWrong)

/-- 'interleavelaw32.DiffShifts': WHATEVER THE INPUT: true; the input reads as it did. -/
def diffShiftsSpec : ChangeSpec := { name := "diffShifts", fn := fun _ => fun
  | [d1, d2] => { results := [.lit (.bool true)], args := [d1, d2] }
  | _ => none }
def diffShiftsRow : OpenClaim := { program := "ytdcgebafmceajaa", sum := "62c340c73dd3fcee6a1d6552e627f10855bee955964f157af086272b23faeec3", func := "interleave/interleavelaw32.DiffShifts", spec := "diffShifts", unfollowed := true, recurses := true, apart := false }
def DiffShiftsSaid : Prop := diffShiftsRow.holds Try.pinned (OpenSpec.ofChange diffShiftsSpec)

/-- ITS FALSE NEIGHBOUR: 'it returns false'. Refute it at one input. -/
def diffShiftsWrong : ChangeSpec := { name := "diffShifts", fn := fun _ => fun
  | [d1, d2] => { results := [.lit (.bool false)], args := [d1, d2] }
  | _ => none }
def DiffShiftsWrongFalsely : Prop := diffShiftsRow.holds Try.pinned (OpenSpec.ofChange diffShiftsWrong)

/-- 'interleavelaw32.DiffCycles': WHATEVER THE INPUT: true; the input reads as it did. -/
def diffCyclesSpec : ChangeSpec := { name := "diffCycles", fn := fun _ => fun
  | [d1, d2] => { results := [.lit (.bool true)], args := [d1, d2] }
  | _ => none }
def diffCyclesRow : OpenClaim := { program := "ytdcgebafmceajaa", sum := "62c340c73dd3fcee6a1d6552e627f10855bee955964f157af086272b23faeec3", func := "interleave/interleavelaw32.DiffCycles", spec := "diffCycles", unfollowed := true, recurses := true, apart := false }
def DiffCyclesSaid : Prop := diffCyclesRow.holds Try.pinned (OpenSpec.ofChange diffCyclesSpec)

/-- ITS FALSE NEIGHBOUR: 'it returns false'. Refute it at one input. -/
def diffCyclesWrong : ChangeSpec := { name := "diffCycles", fn := fun _ => fun
  | [d1, d2] => { results := [.lit (.bool false)], args := [d1, d2] }
  | _ => none }
def DiffCyclesWrongFalsely : Prop := diffCyclesRow.holds Try.pinned (OpenSpec.ofChange diffCyclesWrong)

/-- 'interleavelaw32.DiffRings': WHATEVER THE INPUT: true; the input reads as it did. -/
def diffRingsSpec : ChangeSpec := { name := "diffRings", fn := fun _ => fun
  | [d1, d2, d3] => { results := [.lit (.bool true)], args := [d1, d2, d3] }
  | _ => none }
def diffRingsRow : OpenClaim := { program := "ytdcgebafmceajaa", sum := "62c340c73dd3fcee6a1d6552e627f10855bee955964f157af086272b23faeec3", func := "interleave/interleavelaw32.DiffRings", spec := "diffRings", unfollowed := true, recurses := true, apart := false }
def DiffRingsSaid : Prop := diffRingsRow.holds Try.pinned (OpenSpec.ofChange diffRingsSpec)

/-- ITS FALSE NEIGHBOUR: 'it returns false'. Refute it at one input. -/
def diffRingsWrong : ChangeSpec := { name := "diffRings", fn := fun _ => fun
  | [d1, d2, d3] => { results := [.lit (.bool false)], args := [d1, d2, d3] }
  | _ => none }
def DiffRingsWrongFalsely : Prop := diffRingsRow.holds Try.pinned (OpenSpec.ofChange diffRingsWrong)

/-- 'interleavelaw32.DiffGreatest': WHATEVER THE INPUT: true; the input reads as it did. -/
def diffGreatestSpec : ChangeSpec := { name := "diffGreatest", fn := fun _ => fun
  | [d1, d2] => { results := [.lit (.bool true)], args := [d1, d2] }
  | _ => none }
def diffGreatestRow : OpenClaim := { program := "ytdcgebafmceajaa", sum := "62c340c73dd3fcee6a1d6552e627f10855bee955964f157af086272b23faeec3", func := "interleave/interleavelaw32.DiffGreatest", spec := "diffGreatest", unfollowed := true, recurses := true, apart := false }
def DiffGreatestSaid : Prop := diffGreatestRow.holds Try.pinned (OpenSpec.ofChange diffGreatestSpec)

/-- ITS FALSE NEIGHBOUR: 'it returns false'. Refute it at one input. -/
def diffGreatestWrong : ChangeSpec := { name := "diffGreatest", fn := fun _ => fun
  | [d1, d2] => { results := [.lit (.bool false)], args := [d1, d2] }
  | _ => none }
def DiffGreatestWrongFalsely : Prop := diffGreatestRow.holds Try.pinned (OpenSpec.ofChange diffGreatestWrong)

/- THE SECOND FORM. 'bulk': how many values and letters a reading holds, each counted each time it is reached (what is shared counts as often as it is met; a slice's spare places count too). A statement '..UptoSaid' is the law's where the arguments, and the package variables that the reading takes, are together of bulk at most 1048576: NARROWER than '..Said'. Prove '..Said' where nothing that the law and all that it calls make is longer than what came in: it says more and counts as full. Else prove '..UptoSaid'. A law counts once. -/
mutual
def uptoBulk {H : Type} : DataW H → Nat
  | .lit (.string bytes) => bytes.length + 1
  | .lit _ => 1
  | .nil => 1
  | .ptr d => uptoBulk d + 1
  | .slice elems spare => uptoBulkAll elems + uptoBulkAll spare + 1
  | .agg parts => uptoBulkAll parts + 1
  | .iface _ d => uptoBulk d + 1
  | .map entries => uptoBulkEntries entries + 1
  | .held _ => 1
def uptoBulkAll {H : Type} : List (DataW H) → Nat
  | [] => 0
  | d :: r => uptoBulk d + uptoBulkAll r
def uptoBulkEntries {H : Type} : List (Lit × DataW H) → Nat
  | [] => 0
  | x :: r => uptoBulkEntry x + uptoBulkEntries r
def uptoBulkEntry {H : Type} : Lit × DataW H → Nat
  | (.string bytes, d) => bytes.length + uptoBulk d + 1
  | (_, d) => uptoBulk d + 1
 end
def uptoSmall : (H : Type) → List (DataW H) → Bool := fun _ ds => decide (uptoBulkAll ds ≤ 1048576)
def OpenSpec.upto (s : _root_.Go.ChangeSpec) : _root_.Go.OpenSpec := { _root_.Go.OpenSpec.ofChange s with cond := some uptoSmall }

/-- 'interleavelaw32.DiffSolves', WHERE WHAT IT READS IS OF BULK AT MOST 1048576: true; the input reads as it did. -/
def diffSolvesUptoRow : OpenClaim := { program := "ytdcgebafmceajaa", sum := "62c340c73dd3fcee6a1d6552e627f10855bee955964f157af086272b23faeec3", func := "interleave/interleavelaw32.DiffSolves", spec := "diffSolves", unfollowed := true, recurses := true, apart := false, narrowed := true }
def DiffSolvesUptoSaid : Prop := diffSolvesUptoRow.holds Try.pinned (OpenSpec.upto diffSolvesSpec)

/-- 'interleavelaw32.DiffSystems', WHERE WHAT IT READS IS OF BULK AT MOST 1048576: true; the input reads as it did. -/
def diffSystemsUptoRow : OpenClaim := { program := "ytdcgebafmceajaa", sum := "62c340c73dd3fcee6a1d6552e627f10855bee955964f157af086272b23faeec3", func := "interleave/interleavelaw32.DiffSystems", spec := "diffSystems", unfollowed := true, recurses := true, apart := false, narrowed := true }
def DiffSystemsUptoSaid : Prop := diffSystemsUptoRow.holds Try.pinned (OpenSpec.upto diffSystemsSpec)

/-- 'interleavelaw32.DiffEntails', WHERE WHAT IT READS IS OF BULK AT MOST 1048576: true; the input reads as it did. -/
def diffEntailsUptoRow : OpenClaim := { program := "ytdcgebafmceajaa", sum := "62c340c73dd3fcee6a1d6552e627f10855bee955964f157af086272b23faeec3", func := "interleave/interleavelaw32.DiffEntails", spec := "diffEntails", unfollowed := true, recurses := true, apart := false, narrowed := true }
def DiffEntailsUptoSaid : Prop := diffEntailsUptoRow.holds Try.pinned (OpenSpec.upto diffEntailsSpec)

/-- 'interleavelaw32.DiffHolds', WHERE WHAT IT READS IS OF BULK AT MOST 1048576: true; the input reads as it did. -/
def diffHoldsUptoRow : OpenClaim := { program := "ytdcgebafmceajaa", sum := "62c340c73dd3fcee6a1d6552e627f10855bee955964f157af086272b23faeec3", func := "interleave/interleavelaw32.DiffHolds", spec := "diffHolds", unfollowed := true, recurses := true, apart := false, narrowed := true }
def DiffHoldsUptoSaid : Prop := diffHoldsUptoRow.holds Try.pinned (OpenSpec.upto diffHoldsSpec)

/-- 'interleavelaw32.DiffFollows', WHERE WHAT IT READS IS OF BULK AT MOST 1048576: true; the input reads as it did. -/
def diffFollowsUptoRow : OpenClaim := { program := "ytdcgebafmceajaa", sum := "62c340c73dd3fcee6a1d6552e627f10855bee955964f157af086272b23faeec3", func := "interleave/interleavelaw32.DiffFollows", spec := "diffFollows", unfollowed := true, recurses := true, apart := false, narrowed := true }
def DiffFollowsUptoSaid : Prop := diffFollowsUptoRow.holds Try.pinned (OpenSpec.upto diffFollowsSpec)

/-- 'interleavelaw32.DiffShifts', WHERE WHAT IT READS IS OF BULK AT MOST 1048576: true; the input reads as it did. -/
def diffShiftsUptoRow : OpenClaim := { program := "ytdcgebafmceajaa", sum := "62c340c73dd3fcee6a1d6552e627f10855bee955964f157af086272b23faeec3", func := "interleave/interleavelaw32.DiffShifts", spec := "diffShifts", unfollowed := true, recurses := true, apart := false, narrowed := true }
def DiffShiftsUptoSaid : Prop := diffShiftsUptoRow.holds Try.pinned (OpenSpec.upto diffShiftsSpec)

/-- 'interleavelaw32.DiffCycles', WHERE WHAT IT READS IS OF BULK AT MOST 1048576: true; the input reads as it did. -/
def diffCyclesUptoRow : OpenClaim := { program := "ytdcgebafmceajaa", sum := "62c340c73dd3fcee6a1d6552e627f10855bee955964f157af086272b23faeec3", func := "interleave/interleavelaw32.DiffCycles", spec := "diffCycles", unfollowed := true, recurses := true, apart := false, narrowed := true }
def DiffCyclesUptoSaid : Prop := diffCyclesUptoRow.holds Try.pinned (OpenSpec.upto diffCyclesSpec)

/-- 'interleavelaw32.DiffRings', WHERE WHAT IT READS IS OF BULK AT MOST 1048576: true; the input reads as it did. -/
def diffRingsUptoRow : OpenClaim := { program := "ytdcgebafmceajaa", sum := "62c340c73dd3fcee6a1d6552e627f10855bee955964f157af086272b23faeec3", func := "interleave/interleavelaw32.DiffRings", spec := "diffRings", unfollowed := true, recurses := true, apart := false, narrowed := true }
def DiffRingsUptoSaid : Prop := diffRingsUptoRow.holds Try.pinned (OpenSpec.upto diffRingsSpec)

/-- 'interleavelaw32.DiffGreatest', WHERE WHAT IT READS IS OF BULK AT MOST 1048576: true; the input reads as it did. -/
def diffGreatestUptoRow : OpenClaim := { program := "ytdcgebafmceajaa", sum := "62c340c73dd3fcee6a1d6552e627f10855bee955964f157af086272b23faeec3", func := "interleave/interleavelaw32.DiffGreatest", spec := "diffGreatest", unfollowed := true, recurses := true, apart := false, narrowed := true }
def DiffGreatestUptoSaid : Prop := diffGreatestUptoRow.holds Try.pinned (OpenSpec.upto diffGreatestSpec)

end Rows
end Go.Proofs.Ytdcgebafmceajaa
