/- Part of the proof of WitnessModels. -/
import Derived.Test.YthlflpfcfdpedaaGreatDoorI
set_option linter.all false
open Bool renaming true->U
open List renaming length->L
namespace Go.Proofs.YthlflpfcfdpedaaGreatDoor
open Go Go.Ab Go.RowKit Go.ChangeShapes Go.WideShapes Go.ChangeAt Go.Deep
def jf1:(Rows.witnessModelsRow.inPlace==Tryz.pinned.checked.prog.inPlace 5)=U:=by kernel_rfl
def jf2:(Rows.witnessModelsRow.unfollowed==Tryz.pinned.checked.prog.unfollowed 5)=U:=by kernel_rfl
def jf3:(Rows.witnessModelsRow.recurses==Tryz.pinned.checked.prog.recurses 5)=U:=by rw[Program.recurses,<-beq_iff_eq.1 jf2];rfl
def jf4:(Rows.witnessModelsRow.named==Tryz.pinned.checked.prog.varsNamed 5)=U:=by kernel_rfl
def jf:joinedFacts Tryz.pinned.checked.prog 5 Tryz.f5 Rows.witnessModelsSpec Rows.witnessModelsRow=U:=by unfold joinedFacts;rw[jf1,jf2,jf3,jf4];kernel_rfl
theorem bBq:Rows.WitnessModelsSaid:=OpenClaim.holds_of_wide 5 Tryz.f5 rfl rfl rfl rfl rfl rfl rfl ⟨rfl,rfl,rfl,rfl,rfl⟩ rfl rfl rfl rfl rfl (by kernel_rfl) Tryz.func5 jf (aNK<|by kernel_rfl) (by unfold Func.isWrapper;first|(rw[J9<|by decide+kernel];kernel_rfl)|(rw[J7<|by decide+kernel];exact⟨rfl,rfl⟩)) (λos a H enc _=>aDa os a H enc)
end Go.Proofs.YthlflpfcfdpedaaGreatDoor
