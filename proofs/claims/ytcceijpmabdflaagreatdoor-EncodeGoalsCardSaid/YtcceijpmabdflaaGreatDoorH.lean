/- Part of the proof of EncodeGoals. -/
import Derived.Test.YtcceijpmabdflaaGreatDoorG
set_option linter.all false
set_option maxRecDepth 100000
open Bool renaming false->I,true->U
open Decidable renaming decide->Q
open Go.IntKind renaming i64->dq
open Go.Proofs.Tryz renaming prog->aS
open List renaming drop_zero->ip,length->L,length_append->a6G,length_cons->bZ,length_filter_le->fZ,length_map->bJ,length_nil->aO6,mem_cons->eW,not_mem_nil->ql,range->aH
open Option renaming some->V
namespace Go.Ab
open Go Go.RowKit Go.Proofs
def yL(k:Nat):d0:=(aH 4).map λi=>if i<k then 1 else 0
def uY(k:Nat):List aoC:=(aH 4).map λi=>⟨if i<k then 2 else if i=0 then 1 else 0,0,I⟩
def ku:am:=⟨aNE,4,⟨⟨List.replicate 3 ⟨-1,[]⟩,-1,[I],uY 4⟩,[0,1,0,0,0],[0],yL 4⟩,[⟨0,4,0,1,0,[],[]⟩,⟨1,4,0,2,6,[],[]⟩]⟩
def aoM:bdZ ku=U:=by kernel_rfl
def aoL:hU ku:=by refine⟨by decide,?_,?_,by decide⟩;intro l b;have:=List.eq_of_mem_replicate b;subst this;decide;intro e a;have:e=⟨0,4,0,1,0,[],[]⟩\/e=⟨1,4,0,2,6,[],[]⟩:=(by simpa[ku] using a);rcases this with rfl|rfl<;>exact⟨by decide,by decide⟩
def a6e{fn ys r}(h:Ct fn ys (·=r)):zm aS GG fn ys (·=r):=by obtain⟨a,rfl,_,h⟩:=h;exact h
def aS5{fn:Nat}{e}{z:Nat}(h:∀bA,(∀r∈bA,L r=z)->L bA<1000000->∃r a,bc a e z r bA/\cZ aS GG fn [.l bA I I] eK r a/\(bA=[]->r= .l [] U U))(bA)(f:∀r∈bA,L r=z)(i:L bA<1000000):∃r a,cZ aS GG fn [.l bA I I] eK r a/\(bA=[]->r= .l [] U U)/\(bA≠[]->∃b,r= .m b (L bA)/\box a b=V ⟨e,z,U,I,bA⟩):=by obtain⟨r,a,g,j,d⟩:=h bA f i;refine⟨r,a,j,d,λc=>?_⟩;rcases g with⟨e,_⟩|g;exact aRI e c;exact g
def knT:aPP:=⟨[(30,[.a ku.c],bv U),(28,[.a ku.c],bv U)],[(94,3,1),(251,4,1),(252,138,3),(214,2,1)]⟩
def bdF:aSn aS GG knT:=by refine⟨λ_=>rfl,λp c=>?_,λp c=>?_⟩;simp only[knT,eW,ql,bmK] at c;rcases c with rfl|rfl;exact a6e<|PW ku ⟨aoM,aoL⟩;have h:=O8 ku aoL;rw[aoM] at h;exact a6e h;simp only[knT,eW,ql,bmK] at c;rcases c with rfl|rfl|rfl|rfl;exact aS5 λbA a b=>aCM a b;exact aS5 λbA a b=>aCL a b;exact aS5 λbA a b=>aCK a b;exact aS5 λbA a b=>aCN a b
noncomputable def aX0(f:Func)(x:AV):Bool:=match f.body with
 |some c=>match ev aS GG knT 3000 c (start f []) (ly f) with
  |some p=>aQ0 p.1&&(match bsC aS f p.2.1 p.2.2 with|some r=>xqA 9 r x|none=>I)
  |none=>I
 |none=>I
def be9{fn f x}(j:aS.funcs[fn]?=V f)(k:(f.name== "runtime.NumGoroutine")=I)(d:kG x=U)(h:aX0 f x=U):Ct fn [] (·=x):=by unfold aX0 at h;split at h;rename_i c i;split at h;rename_i p l;obtain⟨e,m,Y⟩:=p;simp only[Bool.and_eq_true] at h;obtain⟨g,a⟩:=h;split at a;rename_i r b;obtain rfl:=aYn a;refine aBg ready j i k (Nat.zero_le _)<|bbl ready bdF 3000 c _ _ e m Y l _ ?_;rcases aWD g with rfl|rfl;exact⟨_,b,d,rfl⟩;exact⟨_,b,d,rfl⟩;(cases a);(cases h);cases h
set_option maxRecDepth 100000 in
def bal:aX0 Tryz.f9 (bv U)=U:=by kernel_rfl
def Oj:Ct 9 [] (·=bv U):=by exact be9 Tryz.func9 (by kernel_rfl) rfl bal
def BS:FT:=BJ Oj
def ayk:=al2 BS Oj
def buY:dO:=(9,BS)::buX
def bv6:eJ buY:=vl (apM Oj)<|bv5
def btp:=And.intro @ayk<|@bvu
def bv8{c0 a1}:=y1 24 5 2 bv6 Tryz.func3 a9j c0 [.a c0,a1]
def BdC(l:List<|d0):Prop:=∀c∈l,L c<=5000
theorem BdC.nil:BdC []:=λc h=>by cases h
def BdC.cons{c l}(h:L c<=5000)(b:BdC l):BdC (c::l):=λx a=>by
 rcases eW.1 a with rfl|a
 ·exact h
 ·exact b x a
def BdC.app{l l'}(h:BdC l)(a:BdC l'):BdC (l++l'):=λx b=>(List.mem_append.1 b).elim (h x)<|a x
def BdC.flat{f}{l:eP}(h:∀x,BdC<|f x):BdC (l.flatMap f):=λx a=>by
 obtain⟨y,_,b⟩:=List.mem_flatMap.1 a
 exact h y x b
section
variable{ns:List aH8}{w:am}
def alt{a b c}:BdC (jI ns a b c):=by unfold jI;repeat first|exact BdC.nil|refine BdC.cons (by simp) ?_|split
def awf:BdC (bqI ns w):=by unfold bqI jy my kY mA;repeat first|exact BdC.nil|refine BdC.cons (by simp) ?_|refine BdC.app ?_ ?_|refine BdC.flat λx=>?_|split
def awc:BdC (oH ns w):=by unfold oH pE rL mw iA;repeat first|exact BdC.nil|exact BdC.app alt alt|refine BdC.cons (by simp) ?_|refine BdC.flat λx=>?_|split
def awd{l}(f:L l<=320):BdC (sN ns w l):=by have a:∀p:aH8->Bool,L (l.filter p)<=L l:=λp=>fZ _ _;have d:∀x,L (kZ ns w l x)<=400:=λx=>(by have e:L (jd ns x)<=3:=(by unfold jd;split<;>simp);have:=a<|j8 w x;simp only[kZ,a6G,bJ];omega);unfold sN;refine BdC.app ?_<|BdC.app ?_<|BdC.app ?_<|BdC.app ?_ ?_;(focus refine BdC.flat λx=>?_;unfold iW;repeat first|exact BdC.nil|refine BdC.cons (by simp) ?_|refine BdC.app ?_ ?_|split);(focus refine BdC.flat λx=>?_;unfold lP ju;repeat first|exact BdC.nil|refine BdC.cons (by simp) ?_|refine BdC.flat λx=>?_|split);(focus refine BdC.flat λx=>?_;unfold lQ jk;repeat first|exact BdC.nil|refine BdC.cons (by simp) ?_|refine BdC.flat λx=>?_|split);refine BdC.flat λk=>?_;unfold nT;refine BdC.cons ?_ (BdC.flat λj=>BdC.cons ?_ BdC.nil);have c:=d<|gd l k;have e:=a<|eZ<|gd l k;simp only[a6G,bJ];omega;have c:=d<|gd l k;simp only[a6G,bZ,aO6];omega;(focus refine BdC.flat λk=>?_;unfold ng;split;(focus refine BdC.cons ?_ (BdC.flat λj=>?_);have c:=a λv=>Q<|v.b=(be7 w k).1;simp only[gO,bZ,bJ];omega;(focus unfold iO;repeat first|exact BdC.nil|refine BdC.cons (by simp) ?_|split));exact BdC.nil)
def awe(a:L w.ac<=16):BdC (rJ ns w):=by unfold rJ;refine BdC.app (BdC.flat λr=>?_) (BdC.flat λi=>?_);(focus unfold gW;split;(focus refine BdC.app (BdC.cons (by simp)<|BdC.cons ?_ BdC.nil) (BdC.flat λj=>?_);have:=vU w r;simp only[bZ,bJ];omega;(focus unfold iP kD pD bpL;repeat first|exact BdC.nil|refine BdC.cons (by simp) ?_|refine BdC.app ?_ ?_|refine BdC.flat λx=>?_|split));exact BdC.nil);(focus unfold kX qv;repeat first|exact BdC.nil|refine BdC.cons (by simp) ?_|refine BdC.flat λx=>?_)
def awa(a:L (aR ns 5)<=320)(b:L w.ac<=16):BdC (brE ns w):=BdC.app (BdC.app (BdC.app awf awc)<|awd a)<|awe b
def Km{x}:BdC (jK ns w x):=by unfold jK jc pC;repeat first|exact BdC.nil|refine BdC.cons (by simp) ?_|refine BdC.app ?_ ?_|refine BdC.flat λx=>?_|split
def awb{g}(c:L (aR ns 5)<=320):BdC (jx ns w g):=by unfold jx;split;exact BdC.app Km Km;split;(focus refine BdC.flat λk=>?_;unfold bpF jc;have d:=fZ (λv:aH8=>Q (v.b=(be7 w<|gd g.cW k).1)&&Q (v.a≠-1))<|aR ns 5;repeat first|exact BdC.nil|refine BdC.cons (by simp) ?_|refine BdC.cons (by simp only[nG,bJ];omega) ?_|refine BdC.app ?_ ?_|split);split;(focus unfold jJ kF;repeat first|exact BdC.nil|refine BdC.cons (by simp) ?_|refine BdC.app ?_ ?_|refine BdC.flat λx=>?_|split);split;exact BdC.app (BdC.cons (by simp)<|BdC.cons (by simp)<|BdC.cons (by simp) BdC.nil) Km;exact BdC.nil
end
def axj{ns w g}(a:VW w)(G:buf w g)(l:L (aR ns 5)<=320):L (jx ns w g)<=100000:=by
 have d:∀{x:Int},aF (L w.ac) x->L (jK ns w x)<=10010:=λi=>zW a.wv (yc w) i
 have m:=a.wv.ok.ev
 unfold jx
 split
 ·rename_i h
  have b:=d (G.h1 h).1
  have e:=d (G.h1 h).2
  rw[a6G];omega
 split
 ·rename_i h
  have:=a6X (f:=λk=>bpF ns w<|gd g.cW k) (c:=3) (λk=>by
   have:L (jc ns w<|gd g.cW k)<=2:=by unfold jc;split<;>simp
   unfold bpF
   split<;>simp<;>omega) (L g.cW)
  have:=(G.h2 h).2
  omega
 split
 ·have b:=a6X (f:=jJ ns g.eb) (c:=1) (λk=>by unfold jJ;split<;>simp)<|L w.ac
  have e:=a6X (f:=λj=>kF ns g.ea<|gd (aR ns 5) j) (c:=1) (λk=>by unfold kF;split<;>simp)<|L<|aR ns 5
  simp only[a6G,bZ,aO6];omega
 split
 ·rename_i h
  have b:=d (G.h4 h).2.1
  simp only[a6G,bZ,aO6];omega
 ·simp
def baj{v:aOA}{Y}:dG Y (.a v.cs)= .a v.cs:=rfl
abbrev u8v(n:Int):AV:= .s<|.int .u8 n
def bvp{w}(e:bdZ w=U)(f:hU w):VW w/\fN w.aQ w.init=U/\L (brE (cw w) w)<=4000000/\(∀c∈brE (cw w) w,L c<4611686018427387904)/\L (lL<|cw w)<4611686018427387904:=by have a:=vw f e;have d:=awa (ns:=cw w) (w:=w) a.l5 a.wv.ok.ev;refine⟨a,?_,?_,λc h=>by have:=d c h;omega,?_⟩;have b:=(aQA e).1;simp only[oh,Bool.or_eq_false_iff,Bool.not_eq_false'] at b;exact b.1.1.1.1.2;have:=Kv (ns:=cw w) a a.l5;omega;have g:=a.ln;unfold lL;rw[bJ];have:=fZ (λx:aH8=>Q<|x.kind=1)<|cw w;unfold aR;omega
def bvL(v)(n)(F:aSr v/\0<=n/\n<256):Ct 3 [.a v.cs,u8v n] (·=bv U):=by obtain⟨G,p,W⟩:=F;refine bv8 rfl λs2 m z h0=>?_;have M:aN (V 5) v.cs=V (.a v.cs):=rfl;simp only[qy 4,eQ,z,M,ip,jM,kU,jt,baj,ar,btp];refine⟨⟨G,by decide,by decide⟩,?_⟩;rintro _ ⟨w,rfl,s,k,O⟩;refine⟨.inl (by simp[nA,eB,iR,aOA.cs,sl]),?_⟩;refine anu m λv4 s6 x Z e=>?_;obtain⟨b,X,P,S,j⟩:=bvp s k;have o:=x.len.trans m;simp only[qz 6,qy 8,eQ,e,aYl,ip,jM,kU,jt,sH,ar,btp];refine⟨b.wv.ok,?_⟩;rintro _ ⟨d,rfl,C,T⟩;have t:∀{Y:ae},fS Y (sl cJ.c d)=V (iv<|L d):=cT;have B:dq.wrap n=n:=eM (by omega) (by omega);have u:∀{g:cJ},aN (V 6) g.c=V (.a g.c):=λ{g}=>rfl;refine⟨.inl rfl,?_⟩;simp only[t,aY,eQ,aS6,B];refine⟨λ_=>trivial,λh=>?_⟩;have N:0<L d:=(by have:=bqL h;omega);have q:=Int.tmod_nonneg (L d:Int) p;have r:=Int.tmod_lt_of_pos n (show(0:Int)<L d by omega);simp only[aPR,aP1,ix];have E:=C _ (dB<|show(n.tmod (L d:Int)).toNat<L d by omega);refine⟨by omega,⟨q,r⟩,?_⟩;generalize gd d (n.tmod (L d:Int)).toNat=g at*;obtain⟨l,R⟩:=E;simp only[aC6,u,aY];refine anu o λv7 s8 y N8 A=>?_;have f:=y.kq e;simp only[qz 10,eQ,f,A,aYl,u,ip,jM,kU,jt,sH,Kl,ar,btp,s,k,l,aPe];rintro r3 ⟨d3,rfl,H⟩;refine⟨.inl rfl,?_⟩;rintro r4 ⟨d4,rfl,K⟩;refine⟨.inl rfl,?_⟩;simp only[H.arg,K.arg,btp,eQ];have D:=axj (ns:=cw w) b (Lj l) b.l5;have i:=BdC.app (awa (ns:=cw w) (w:=w) b.l5 b.wv.ok.ev)<|awb (w:=w) (g:=g) b.l5;exact⟨⟨trivial,j,by show L (brE (cw w) w++jx (cw w) w g)<_;rw[a6G];omega,λc h=>by have:=i c h;omega⟩, .inr rfl,trivial⟩
end Go.Ab
