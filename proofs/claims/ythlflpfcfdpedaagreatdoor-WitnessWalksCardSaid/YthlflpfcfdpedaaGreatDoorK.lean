/- Part of the proof of WitnessWalks. -/
import Derived.Test.YthlflpfcfdpedaaGreatDoorJ
set_option linter.all false
open Bool renaming true->U
open List renaming length->L
namespace Go.Proofs.YthlflpfcfdpedaaGreatDoor
open Go Go.Ab Go.RowKit Go.ChangeShapes Go.WideShapes Go.ChangeAt Go.Deep
def jf1:(Rows.witnessWalksRow.inPlace==Tryz.pinned.checked.prog.inPlace 4)=U:=by kernel_rfl
def jf2:(Rows.witnessWalksRow.unfollowed==Tryz.pinned.checked.prog.unfollowed 4)=U:=by kernel_rfl
def jf3:(Rows.witnessWalksRow.recurses==Tryz.pinned.checked.prog.recurses 4)=U:=by rw[Program.recurses,<-beq_iff_eq.1 jf2];rfl
def jf4:(Rows.witnessWalksRow.named==Tryz.pinned.checked.prog.varsNamed 4)=U:=by kernel_rfl
def jf:joinedFacts Tryz.pinned.checked.prog 4 Tryz.f4 Rows.witnessWalksSpec Rows.witnessWalksRow=U:=by unfold joinedFacts;rw[jf1,jf2,jf3,jf4];kernel_rfl
theorem bqo:Rows.WitnessWalksSaid:=OpenClaim.holds_of_wide 4 Tryz.f4 rfl rfl rfl rfl rfl rfl rfl ⟨rfl,rfl,rfl,rfl,rfl⟩ rfl rfl rfl rfl rfl (by kernel_rfl) Tryz.func4 jf (u4<|by kernel_rfl) (by unfold Func.isWrapper;first|(rw[d7<|by decide+kernel];kernel_rfl)|(rw[bA<|by decide+kernel];exact⟨rfl,rfl⟩)) (λos a H enc _=>aDa os a H enc)
end Go.Proofs.YthlflpfcfdpedaaGreatDoor
