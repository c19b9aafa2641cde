/- Part of the proof of WitnessShortens. -/
import Derived.Test.YthlflpfcfdpedaaGreatDoorI
set_option linter.all false
open Bool renaming true->U
open List renaming length->L
namespace Go.Proofs.YthlflpfcfdpedaaGreatDoor
open Go Go.Ab Go.RowKit Go.ChangeShapes Go.WideShapes Go.ChangeAt Go.Deep
def jf1:(Rows.witnessShortensRow.inPlace==Tryz.pinned.checked.prog.inPlace 7)=U:=by kernel_rfl
def jf2:(Rows.witnessShortensRow.unfollowed==Tryz.pinned.checked.prog.unfollowed 7)=U:=by kernel_rfl
def jf3:(Rows.witnessShortensRow.recurses==Tryz.pinned.checked.prog.recurses 7)=U:=by rw[Program.recurses,<-beq_iff_eq.1 jf2];rfl
def jf4:(Rows.witnessShortensRow.named==Tryz.pinned.checked.prog.varsNamed 7)=U:=by kernel_rfl
def jf:joinedFacts Tryz.pinned.checked.prog 7 Tryz.f7 Rows.witnessShortensSpec Rows.witnessShortensRow=U:=by unfold joinedFacts;rw[jf1,jf2,jf3,jf4];kernel_rfl
theorem bwg:Rows.WitnessShortensSaid:=OpenClaim.holds_of_wide 7 Tryz.f7 rfl rfl rfl rfl rfl rfl rfl ⟨rfl,rfl,rfl,rfl,rfl⟩ rfl rfl rfl rfl rfl (by kernel_rfl) Tryz.func7 jf (amt<|by kernel_rfl) (by unfold Func.isWrapper;first|(rw[f8<|by decide+kernel];kernel_rfl)|(rw[hH<|by decide+kernel];exact⟨rfl,rfl⟩)) (λos a H enc _=>aDa os a H enc)
end Go.Proofs.YthlflpfcfdpedaaGreatDoor
