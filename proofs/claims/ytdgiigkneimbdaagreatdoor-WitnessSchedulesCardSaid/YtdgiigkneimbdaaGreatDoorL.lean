/- WitnessSchedules (its card) is proved: for every input the law returns true and its arguments read as they did. There is no condition. -/
import Derived.Test.YtdgiigkneimbdaaGreatDoorK
set_option linter.all false
open Bool renaming false->I,true->U
open Go.Proofs.Tryz renaming prog->aS
open List renaming length->L
open Option renaming some->V,some.inj->xu
namespace Go.Proofs.YtdgiigkneimbdaaGreatDoor
open Go Go.Ab Go.RowKit Go.ChangeShapes Go.WideShapes Go.ChangeAt Go.Deep
def jl:I=aS.looks []:=by kernel_rfl
def jg:I=Rows.witnessSchedulesRow.goesBy Tryz.pinned.checked.prog:=by kernel_rfl
theorem jw:Rows.witnessSchedulesRow.wfByText (OpenSpec.ofChange Rows.witnessSchedulesSpec)=U:=by kernel_rfl
theorem witnessSchedules_holds:Rows.WitnessSchedulesCardSaid:=
 Claim7.holds_tied_plain_at .later [] [.data] U (U, "9e911ce5e48de7ec8dfbecbe70c78e54706d128f5dea5171b8f2781d09a6945c") I
  bF1 (λ_ h=>by cases h) jw (λ_ h=>by cases h) witnessSchedules_row_tie rfl ⟨rfl,rfl⟩ (by kernel_rfl) rfl
  (λf fn d b=>by
   obtain rfl:f=3:=xu ((show aS.funcNamed "interleave/interleavelaw36.WitnessSchedules" =V 3 by kernel_rfl).symm.trans d)|>.symm
   obtain rfl:fn=Tryz.f3:=(xu<|Tryz.func3.symm.trans b).symm
   exact⟨jl,λj t c=>by
    rw[Tryz.params3] at c
    have e:t∈[24,25,5,26,22]:=by simpa using Array.mem_of_getElem? c
    have a:([24,25,5,26,22].all λu=>!aS.wantsStandIn u)=U:=by kernel_rfl
    exact(show aS.wantsStandIn t=I by simpa using List.all_eq_true.1 a t e)⟩)
  jg
#print axioms witnessSchedules_holds
end Go.Proofs.YtdgiigkneimbdaaGreatDoor
