/- Part of the proof of EncodeGoals. -/
import Derived.Test.YtcceijpmabdflaaGreatDoorJ
set_option linter.all false
open Bool renaming true->U
open Go.Proofs.Tryz renaming f3->vI
open List renaming length->L
namespace Go.Proofs.YtcceijpmabdflaaGreatDoor
open Go Go.Ab Go.RowKit Go.ChangeShapes Go.WideShapes Go.ChangeAt Go.Deep
def jf1:(Rows.encodeGoalsRow.inPlace==Tryz.pinned.checked.prog.inPlace 3)=U:=by kernel_rfl
def jf2:(Rows.encodeGoalsRow.unfollowed==Tryz.pinned.checked.prog.unfollowed 3)=U:=by kernel_rfl
def jf3:(Rows.encodeGoalsRow.recurses==Tryz.pinned.checked.prog.recurses 3)=U:=by rw[Program.recurses,<-beq_iff_eq.1 jf2];rfl
def jf4:(Rows.encodeGoalsRow.named==Tryz.pinned.checked.prog.varsNamed 3)=U:=by kernel_rfl
def jf:joinedFacts Tryz.pinned.checked.prog 3 vI Rows.encodeGoalsSpec Rows.encodeGoalsRow=U:=by unfold joinedFacts;rw[jf1,jf2,jf3,jf4];kernel_rfl
theorem bvq:Rows.EncodeGoalsSaid:=OpenClaim.holds_of_wide 3 vI rfl rfl rfl rfl rfl rfl rfl ⟨rfl,rfl,rfl,rfl,rfl⟩ rfl rfl rfl rfl rfl (by kernel_rfl) Tryz.func3 jf (aNQ<|by kernel_rfl) (by unfold Func.isWrapper;first|(rw[sz<|by decide+kernel];kernel_rfl)|(rw[r9<|by decide+kernel];exact⟨rfl,rfl⟩)) (λos a H enc _=>aDa os a H enc)
end Go.Proofs.YtcceijpmabdflaaGreatDoor
