/- EncodeGoals (its card) is proved: for every input the law returns true and its arguments read as they did. There is no condition. -/
import Derived.Test.YtcceijpmabdflaaGreatDoorK
set_option linter.all false
open Bool renaming false->I,true->U
open Go.Proofs.Tryz renaming prog->aS
open List renaming length->L
open Option renaming some->V,some.inj->xu
namespace Go.Proofs.YtcceijpmabdflaaGreatDoor
open Go Go.Ab Go.RowKit Go.ChangeShapes Go.WideShapes Go.ChangeAt Go.Deep
def jl:I=aS.looks []:=by kernel_rfl
def jg:I=Rows.encodeGoalsRow.goesBy Tryz.pinned.checked.prog:=by kernel_rfl
theorem jw:Rows.encodeGoalsRow.wfByText (OpenSpec.ofChange Rows.encodeGoalsSpec)=U:=by kernel_rfl
theorem encodeGoals_holds:Rows.EncodeGoalsCardSaid:=
 Claim7.holds_tied_plain_at .later [] [.data] U (U, "284c40e910df694594568acb42841adb05f5858301cbd73a0fcd0312fe1b296b") I
  bvq (λ_ h=>by cases h) jw (λ_ h=>by cases h) encodeGoals_row_tie rfl ⟨rfl,rfl⟩ (by kernel_rfl) rfl
  (λf fn d b=>by
   obtain rfl:f=3:=xu ((show aS.funcNamed "interleave/interleavelaw35.EncodeGoals" =V 3 by kernel_rfl).symm.trans d)|>.symm
   obtain rfl:fn=Tryz.f3:=(xu<|Tryz.func3.symm.trans b).symm
   exact⟨jl,λj t c=>by
    rw[Tryz.params3] at c
    have e:t∈[24,5]:=by simpa using Array.mem_of_getElem? c
    have a:([24,5].all λu=>!aS.wantsStandIn u)=U:=by kernel_rfl
    exact(show aS.wantsStandIn t=I by simpa using List.all_eq_true.1 a t e)⟩)
  jg
#print axioms encodeGoals_holds
end Go.Proofs.YtcceijpmabdflaaGreatDoor
