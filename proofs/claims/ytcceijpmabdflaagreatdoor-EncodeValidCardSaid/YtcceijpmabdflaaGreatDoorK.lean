/- Part of the proof of EncodeValid. -/
import Derived.Test.YtcceijpmabdflaaGreatDoorJ
set_option linter.all false
open Bool renaming true->U
open List renaming length->L
namespace Go.Proofs.YtcceijpmabdflaaGreatDoor
open Go Go.Ab Go.RowKit Go.ChangeShapes Go.WideShapes Go.ChangeAt Go.Deep
def jf1:(Rows.encodeValidRow.inPlace==Tryz.pinned.checked.prog.inPlace 5)=U:=by kernel_rfl
def jf2:(Rows.encodeValidRow.unfollowed==Tryz.pinned.checked.prog.unfollowed 5)=U:=by kernel_rfl
def jf3:(Rows.encodeValidRow.recurses==Tryz.pinned.checked.prog.recurses 5)=U:=by rw[Program.recurses,<-beq_iff_eq.1 jf2];rfl
def jf4:(Rows.encodeValidRow.named==Tryz.pinned.checked.prog.varsNamed 5)=U:=by kernel_rfl
def jf:joinedFacts Tryz.pinned.checked.prog 5 Tryz.f5 Rows.encodeValidSpec Rows.encodeValidRow=U:=by unfold joinedFacts;rw[jf1,jf2,jf3,jf4];kernel_rfl
theorem byb:Rows.EncodeValidSaid:=OpenClaim.holds_of_wide 5 Tryz.f5 rfl rfl rfl rfl rfl rfl rfl ⟨rfl,rfl,rfl,rfl,rfl⟩ rfl rfl rfl rfl rfl (by kernel_rfl) Tryz.func5 jf (asq<|by kernel_rfl) (by unfold Func.isWrapper;first|(rw[lD<|by decide+kernel];kernel_rfl)|(rw[lC<|by decide+kernel];exact⟨rfl,rfl⟩)) (λos a H enc _=>aDa os a H enc)
end Go.Proofs.YtcceijpmabdflaaGreatDoor
