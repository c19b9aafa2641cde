/- Part of the proof of WitnessRaw. -/
import Derived.Test.YtdgiigkneimbdaaGreatDoorJ
set_option linter.all false
open Bool renaming true->U
open List renaming length->L
namespace Go.Proofs.YtdgiigkneimbdaaGreatDoor
open Go Go.Ab Go.RowKit Go.ChangeShapes Go.WideShapes Go.ChangeAt Go.Deep
def jf1:(Rows.witnessRawRow.inPlace==Tryz.pinned.checked.prog.inPlace 4)=U:=by kernel_rfl
def jf2:(Rows.witnessRawRow.unfollowed==Tryz.pinned.checked.prog.unfollowed 4)=U:=by kernel_rfl
def jf3:(Rows.witnessRawRow.recurses==Tryz.pinned.checked.prog.recurses 4)=U:=by rw[Program.recurses,<-beq_iff_eq.1 jf2];rfl
def jf4:(Rows.witnessRawRow.named==Tryz.pinned.checked.prog.varsNamed 4)=U:=by kernel_rfl
def jf:joinedFacts Tryz.pinned.checked.prog 4 Tryz.f4 Rows.witnessRawSpec Rows.witnessRawRow=U:=by unfold joinedFacts;rw[jf1,jf2,jf3,jf4];kernel_rfl
theorem bAq:Rows.WitnessRawSaid:=OpenClaim.holds_of_wide 4 Tryz.f4 rfl rfl rfl rfl rfl rfl rfl ⟨rfl,rfl,rfl,rfl,rfl⟩ rfl rfl rfl rfl rfl (by kernel_rfl) Tryz.func4 jf (w6<|by kernel_rfl) (by unfold Func.isWrapper;first|(rw[hY<|by decide+kernel];kernel_rfl)|(rw[gq<|by decide+kernel];exact⟨rfl,rfl⟩)) (λos b a enc _=>aDa os b a enc)
end Go.Proofs.YtdgiigkneimbdaaGreatDoor
