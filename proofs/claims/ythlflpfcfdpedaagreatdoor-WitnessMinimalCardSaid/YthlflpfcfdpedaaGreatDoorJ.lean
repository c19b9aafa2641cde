/- Part of the proof of WitnessMinimal. -/
import Derived.Test.YthlflpfcfdpedaaGreatDoorI
set_option linter.all false
open Bool renaming true->U
open List renaming length->L
namespace Go.Proofs.YthlflpfcfdpedaaGreatDoor
open Go Go.Ab Go.RowKit Go.ChangeShapes Go.WideShapes Go.ChangeAt Go.Deep
def jf1:(Rows.witnessMinimalRow.inPlace==Tryz.pinned.checked.prog.inPlace 8)=U:=by kernel_rfl
def jf2:(Rows.witnessMinimalRow.unfollowed==Tryz.pinned.checked.prog.unfollowed 8)=U:=by kernel_rfl
def jf3:(Rows.witnessMinimalRow.recurses==Tryz.pinned.checked.prog.recurses 8)=U:=by rw[Program.recurses,<-beq_iff_eq.1 jf2];rfl
def jf4:(Rows.witnessMinimalRow.named==Tryz.pinned.checked.prog.varsNamed 8)=U:=by kernel_rfl
def jf:joinedFacts Tryz.pinned.checked.prog 8 Tryz.f8 Rows.witnessMinimalSpec Rows.witnessMinimalRow=U:=by unfold joinedFacts;rw[jf1,jf2,jf3,jf4];kernel_rfl
theorem bwy:Rows.WitnessMinimalSaid:=OpenClaim.holds_of_wide 8 Tryz.f8 rfl rfl rfl rfl rfl rfl rfl ⟨rfl,rfl,rfl,rfl,rfl⟩ rfl rfl rfl rfl rfl (by kernel_rfl) Tryz.func8 jf (awG<|by kernel_rfl) (by unfold Func.isWrapper;first|(rw[hH<|by decide+kernel];kernel_rfl)|(rw[j1<|by decide+kernel];exact⟨rfl,rfl⟩)) (λos a H enc _=>aDa os a H enc)
end Go.Proofs.YthlflpfcfdpedaaGreatDoor
