/- Part of the proof of EncodeBase. -/
import Derived.Test.YtcceijpmabdflaaGreatDoorJ
set_option linter.all false
open Bool renaming true->U
open List renaming length->L
namespace Go.Proofs.YtcceijpmabdflaaGreatDoor
open Go Go.Ab Go.RowKit Go.ChangeShapes Go.WideShapes Go.ChangeAt Go.Deep
def jf1:(Rows.encodeBaseRow.inPlace==Tryz.pinned.checked.prog.inPlace 4)=U:=by kernel_rfl
def jf2:(Rows.encodeBaseRow.unfollowed==Tryz.pinned.checked.prog.unfollowed 4)=U:=by kernel_rfl
def jf3:(Rows.encodeBaseRow.recurses==Tryz.pinned.checked.prog.recurses 4)=U:=by rw[Program.recurses,<-beq_iff_eq.1 jf2];rfl
def jf4:(Rows.encodeBaseRow.named==Tryz.pinned.checked.prog.varsNamed 4)=U:=by kernel_rfl
def jf:joinedFacts Tryz.pinned.checked.prog 4 Tryz.f4 Rows.encodeBaseSpec Rows.encodeBaseRow=U:=by unfold joinedFacts;rw[jf1,jf2,jf3,jf4];kernel_rfl
theorem bvs:Rows.EncodeBaseSaid:=OpenClaim.holds_of_wide 4 Tryz.f4 rfl rfl rfl rfl rfl rfl rfl ⟨rfl,rfl,rfl,rfl,rfl⟩ rfl rfl rfl rfl rfl (by kernel_rfl) Tryz.func4 jf (qc<|by kernel_rfl) (by unfold Func.isWrapper;first|(rw[f8<|by decide+kernel];kernel_rfl)|(rw[dB<|by decide+kernel];exact⟨rfl,rfl⟩)) (λos a H enc _=>aDa os a H enc)
end Go.Proofs.YtcceijpmabdflaaGreatDoor
