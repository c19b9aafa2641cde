/- Part of the proof of EncodeRecorded. -/
import Derived.Test.YtcceijpmabdflaaGreatDoorJ
set_option linter.all false
open Bool renaming true->U
open List renaming length->L
namespace Go.Proofs.YtcceijpmabdflaaGreatDoor
open Go Go.Ab Go.RowKit Go.ChangeShapes Go.WideShapes Go.ChangeAt Go.Deep
def jf1:(Rows.encodeRecordedRow.inPlace==Tryz.pinned.checked.prog.inPlace 6)=U:=by kernel_rfl
def jf2:(Rows.encodeRecordedRow.unfollowed==Tryz.pinned.checked.prog.unfollowed 6)=U:=by kernel_rfl
def jf3:(Rows.encodeRecordedRow.recurses==Tryz.pinned.checked.prog.recurses 6)=U:=by rw[Program.recurses,<-beq_iff_eq.1 jf2];rfl
def jf4:(Rows.encodeRecordedRow.named==Tryz.pinned.checked.prog.varsNamed 6)=U:=by kernel_rfl
def jf:joinedFacts Tryz.pinned.checked.prog 6 Tryz.f6 Rows.encodeRecordedSpec Rows.encodeRecordedRow=U:=by unfold joinedFacts;rw[jf1,jf2,jf3,jf4];kernel_rfl
theorem bAI:Rows.EncodeRecordedSaid:=OpenClaim.holds_of_wide 6 Tryz.f6 rfl rfl rfl rfl rfl rfl rfl ⟨rfl,rfl,rfl,rfl,rfl⟩ rfl rfl rfl rfl rfl (by kernel_rfl) Tryz.func6 jf (aNR<|by kernel_rfl) (by unfold Func.isWrapper;first|(rw[lC<|by decide+kernel];kernel_rfl)|(rw[j5<|by decide+kernel];exact⟨rfl,rfl⟩)) (λos a H enc _=>aDa os a H enc)
end Go.Proofs.YtcceijpmabdflaaGreatDoor
