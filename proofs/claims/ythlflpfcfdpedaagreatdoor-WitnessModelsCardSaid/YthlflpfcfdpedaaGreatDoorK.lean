/- WitnessModels (its card) is proved: for every input the law returns true and its arguments read as they did. There is no condition. -/
import Derived.Test.YthlflpfcfdpedaaGreatDoorJ
set_option linter.all false
open Bool renaming false->I,true->U
open Go.Proofs.Tryz renaming prog->aS
open List renaming length->L
open Option renaming some->V,some.inj->xu
namespace Go.Proofs.YthlflpfcfdpedaaGreatDoor
open Go Go.Ab Go.RowKit Go.ChangeShapes Go.WideShapes Go.ChangeAt Go.Deep
def jl:I=aS.looks []:=by kernel_rfl
def jg:I=Rows.witnessModelsRow.goesBy Tryz.pinned.checked.prog:=by kernel_rfl
theorem jw:Rows.witnessModelsRow.wfByText (OpenSpec.ofChange Rows.witnessModelsSpec)=U:=by kernel_rfl
theorem witnessModels_holds:Rows.WitnessModelsCardSaid:=
 Claim7.holds_tied_plain_at .later [] [.data] U (U, "28ffc7eecbe466f5288ba229cf1087f83a429ea8260283fd2f8ee9d8d3ce3d54") I
  bBq (λ_ h=>by cases h) jw (λ_ h=>by cases h) witnessModels_row_tie rfl ⟨rfl,rfl⟩ (by kernel_rfl) rfl
  (λf fn d b=>by
   obtain rfl:f=5:=xu ((show aS.funcNamed "interleave/interleavelaw36.WitnessModels" =V 5 by kernel_rfl).symm.trans d)|>.symm
   obtain rfl:fn=Tryz.f5:=(xu<|Tryz.func5.symm.trans b).symm
   exact⟨jl,λj t c=>by
    rw[Tryz.params5] at c
    have e:t∈[24,38,5]:=by simpa using Array.mem_of_getElem? c
    have a:([24,38,5].all λu=>!aS.wantsStandIn u)=U:=by kernel_rfl
    exact(show aS.wantsStandIn t=I by simpa using List.all_eq_true.1 a t e)⟩)
  jg
#print axioms witnessModels_holds
end Go.Proofs.YthlflpfcfdpedaaGreatDoor
