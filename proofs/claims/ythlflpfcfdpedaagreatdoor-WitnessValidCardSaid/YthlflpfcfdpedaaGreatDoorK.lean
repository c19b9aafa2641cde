/- Part of the proof of WitnessValid. -/
import Derived.Test.YthlflpfcfdpedaaGreatDoorJ
set_option linter.all false
open Bool renaming true->U
open Go.Proofs.Tryz renaming f3->vI
open List renaming length->L
namespace Go.Proofs.YthlflpfcfdpedaaGreatDoor
open Go Go.Ab Go.RowKit Go.ChangeShapes Go.WideShapes Go.ChangeAt Go.Deep
def jf1:(Rows.witnessValidRow.inPlace==Tryz.pinned.checked.prog.inPlace 3)=U:=by kernel_rfl
def jf2:(Rows.witnessValidRow.unfollowed==Tryz.pinned.checked.prog.unfollowed 3)=U:=by kernel_rfl
def jf3:(Rows.witnessValidRow.recurses==Tryz.pinned.checked.prog.recurses 3)=U:=by rw[Program.recurses,<-beq_iff_eq.1 jf2];rfl
def jf4:(Rows.witnessValidRow.named==Tryz.pinned.checked.prog.varsNamed 3)=U:=by kernel_rfl
def jf:joinedFacts Tryz.pinned.checked.prog 3 vI Rows.witnessValidSpec Rows.witnessValidRow=U:=by unfold joinedFacts;rw[jf1,jf2,jf3,jf4];kernel_rfl
theorem brC:Rows.WitnessValidSaid:=OpenClaim.holds_of_wide 3 vI rfl rfl rfl rfl rfl rfl rfl ⟨rfl,rfl,rfl,rfl,rfl⟩ rfl rfl rfl rfl rfl (by kernel_rfl) Tryz.func3 jf (u4<|by kernel_rfl) (by unfold Func.isWrapper;first|(rw[bR<|by decide+kernel];kernel_rfl)|(rw[bA<|by decide+kernel];exact⟨rfl,rfl⟩)) (λos a H enc _=>aDa os a H enc)
end Go.Proofs.YthlflpfcfdpedaaGreatDoor
