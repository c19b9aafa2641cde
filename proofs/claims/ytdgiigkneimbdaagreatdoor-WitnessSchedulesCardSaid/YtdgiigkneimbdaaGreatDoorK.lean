/- Part of the proof of WitnessSchedules. -/
import Derived.Test.YtdgiigkneimbdaaGreatDoorJ
set_option linter.all false
open Bool renaming true->U
open Go.Proofs.Tryz renaming f3->vI
open List renaming length->L
namespace Go.Proofs.YtdgiigkneimbdaaGreatDoor
open Go Go.Ab Go.RowKit Go.ChangeShapes Go.WideShapes Go.ChangeAt Go.Deep
def jf1:(Rows.witnessSchedulesRow.inPlace==Tryz.pinned.checked.prog.inPlace 3)=U:=by kernel_rfl
def jf2:(Rows.witnessSchedulesRow.unfollowed==Tryz.pinned.checked.prog.unfollowed 3)=U:=by kernel_rfl
def jf3:(Rows.witnessSchedulesRow.recurses==Tryz.pinned.checked.prog.recurses 3)=U:=by rw[Program.recurses,<-beq_iff_eq.1 jf2];rfl
def jf4:(Rows.witnessSchedulesRow.named==Tryz.pinned.checked.prog.varsNamed 3)=U:=by kernel_rfl
def jf:joinedFacts Tryz.pinned.checked.prog 3 vI Rows.witnessSchedulesSpec Rows.witnessSchedulesRow=U:=by unfold joinedFacts;rw[jf1,jf2,jf3,jf4];kernel_rfl
theorem bF1:Rows.WitnessSchedulesSaid:=OpenClaim.holds_of_wide 3 vI rfl rfl rfl rfl rfl rfl rfl ⟨rfl,rfl,rfl,rfl,rfl⟩ rfl rfl rfl rfl rfl (by kernel_rfl) Tryz.func3 jf (aNQ<|by kernel_rfl) (by unfold Func.isWrapper;first|(rw[zg<|by decide+kernel];kernel_rfl)|(rw[za<|by decide+kernel];exact⟨rfl,rfl⟩)) (λos b a enc _=>aDa os b a enc)
end Go.Proofs.YtdgiigkneimbdaaGreatDoor
