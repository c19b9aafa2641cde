/- Part of the proof of EncodeIndex, made short by a program. -/
import Derived.Test.YtmilgmjhdfijjaaGreatDoorF
set_option linter.all false
set_option maxRecDepth 100000
open Bool renaming false->I,true->U
open Decidable renaming decide->Q
open List renaming drop_zero->ip,length->L
open Option renaming some->V
namespace Go.Ab
open Go Go.RowKit Go.Proofs
def baj{v:aOA}{Y:ae}:dG Y (.a v.cs)= .a v.cs:=rfl
def be6(v:aOA)(n:ap)(Z:aSr v):Ct 4 [.a v.cs, .a n.c] (·=bv U):=by refine bhW rfl rfl λs4 A M N h0=>?_;have r5:aN (V 5) v.cs=V (.a v.cs):=rfl;simp only[a5D,u0,u1,M,r5,ip,jM,kU,jt,baj,ar,a6v,↓uL];refine⟨⟨Z,by decide,by decide⟩,?_⟩;rintro _ ⟨w,rfl,m,i⟩;refine⟨.inl (by simp[nA,eB,iR,aOA.cs,sl]),?_⟩;refine so A λv7 s8 r N8 O=>?_;refine qr O rfl rfl λd s h=>?_;obtain⟨X,ac⟩:=aYk m i;have u:=s.kq (r.kq N);simp only[a5X,u0,u1,h,aYl,ip,jM,kU,jt,sH,ar,a6v,X,vg,↓uL];intro t;refine⟨.inl rfl,?_⟩;have g:box d (3,1)=V ⟨51,3,U,U,[n.c]⟩:=u;have p:∀{n:ap},aN (V 3) n.c=V (.a n.c):=rfl;have B:L d=4096:=s.len.trans (r.len.trans A);refine yV (L (cw w)) (λk _ y=>Fx d y []) (Fx.refl _ _) ?_;rintro k _ y hk F;have S:=F.kq g;have T:=F.kq h;have C:=F.len.trans B;have z:∀{x:ae} {j:Int} {K:d7},rV (cz 3 x (.l ((cw w).map ap.c) t U) (iv j)) K=(aF (L (cw w)) j/\K (.q (ap.c (gd (cw w) j.toNat)))):=aBz (f:=ap.c) (Y:=y) λ_=>rfl;rcases o:Q ((k:Int)<(L (cw w):Int)) with _|_;simp only[aV5,aI,au,u0,u1,o,T,S,aYl,p,ip,jM,kU,jt,sH,ar,a6v,m,i,vg,bt,↓uL];rfl;have b:k<L (cw w):=Int.ofNat_lt.1 (nt o);simp only[aV5,aI,au,av4,aY,o,↓iC,z,aC6,p,Int.toNat_natCast,↓uL];refine⟨dJ b,?_⟩;refine so C λv y1 E H P=>?_;refine qr P rfl rfl λy2 G R=>?_;have e:Fx d y2 []:=((F.trans E).trans G).mono λq D=>(by simp at D;subst D;exact .inr (H.old F).no);have W:=e.kq h;simp only[a5M,au,u1,R,W,p,aYl,aY,ip,jM,kU,jt,sH,ar,a6v,m,i,vg,bfo aEm b,↓uL];rw[show Q ((k:Int)≠(k:Int))=I by simp,iB];exact yU b e
end Go.Ab
