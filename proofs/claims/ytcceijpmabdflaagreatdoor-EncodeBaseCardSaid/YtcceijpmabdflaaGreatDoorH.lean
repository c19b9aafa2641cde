/- Part of the proof of EncodeBase. -/
import Derived.Test.YtcceijpmabdflaaGreatDoorG
set_option linter.all false
set_option maxRecDepth 100000
open Bool renaming false->I,true->U
open Decidable renaming decide->Q
open Go.Proofs.Tryz renaming prog->aS
open List renaming drop_zero->iy,length->L,length_append->a6G,length_cons->bZ,length_filter_le->fZ,length_map->bJ,mem_cons->eW,not_mem_nil->ql,range->aH
open Option renaming some->V
namespace Go.Ab
open Go Go.RowKit Go.Proofs
def yL(k:Nat):List Int:=(aH 4).map λi=>if i<k then 1 else 0
def uY(k:Nat):List aoC:=(aH 4).map λi=>⟨if i<k then 2 else if i=0 then 1 else 0,0,I⟩
def ku:am:=⟨aNE,4,⟨⟨List.replicate 3 ⟨-1,[]⟩,-1,[I],uY 4⟩,[0,1,0,0,0],[0],yL 4⟩,[⟨0,4,0,1,0,[],[]⟩,⟨1,4,0,2,6,[],[]⟩]⟩
def aoM:bcV ku=U:=by kernel_rfl
def aoL:hU ku:=by refine⟨by decide,?_,?_,by decide⟩;intro l b;have:l=⟨-1,[]⟩:=List.eq_of_mem_replicate b;subst this;decide;intro e a;have:e=⟨0,4,0,1,0,[],[]⟩\/e=⟨1,4,0,2,6,[],[]⟩:=(by simpa[ku] using a);rcases this with rfl|rfl<;>exact⟨by decide,by decide⟩
def a6e{fn:Nat}{ys:List AV}{r:AV}(h:Ct fn ys (·=r)):zm aS GG fn ys (·=r):=by obtain⟨a,rfl,_,h⟩:=h;exact h
def aS5{fn:Nat}{e:TypeId}{z:Nat}(h:∀bA:List<|List AV,(∀r∈bA,L r=z)->L bA<1000000->∃r a,bc a e z r bA/\cZ aS GG fn [.l bA I I] eK r a/\(bA=[]->r= .l [] U U))(bA:List<|List AV)(f:∀r∈bA,L r=z)(i:L bA<1000000):∃r a,cZ aS GG fn [.l bA I I] eK r a/\(bA=[]->r= .l [] U U)/\(bA≠[]->∃b,r= .m b (L bA)/\box a b=V ⟨e,z,U,I,bA⟩):=by obtain⟨r,a,g,j,d⟩:=h bA f i;refine⟨r,a,j,d,λc=>?_⟩;rcases g with⟨e,_⟩|g;exact aNK e c;exact g
def knT:aPP:=⟨[(30,[.a ku.c],bv U),(28,[.a ku.c],bv U)],[(94,3,1),(251,4,1),(252,138,3),(214,2,1)]⟩
def bdF:aSn aS GG knT:=by refine⟨λ_=>rfl,λp c=>?_,λp c=>?_⟩;simp only[knT,eW,ql,bie] at c;rcases c with rfl|rfl;exact a6e<|PW ku ⟨aoM,aoL⟩;have h:=O8 ku aoL;rw[aoM] at h;exact a6e h;simp only[knT,eW,ql,bie] at c;rcases c with rfl|rfl|rfl|rfl;exact aS5 λbA a b=>aCM a b;exact aS5 λbA a b=>aCL a b;exact aS5 λbA a b=>aCK a b;exact aS5 λbA a b=>aCN a b
noncomputable def aX0(f:Func)(x:AV):Bool:=match f.body with
 |some c=>match ev aS GG knT 3000 c (start f []) (ly f) with
  |some p=>aQ0 p.1&&(match yB aS f p.2.1 p.2.2 with|some r=>xqA 9 r x|none=>I)
  |none=>I
 |none=>I
def be9{fn:Nat}{f:Func}{x:AV}(j:aS.funcs[fn]?=V f)(k:(f.name== "runtime.NumGoroutine")=I)(d:kG x=U)(h:aX0 f x=U):Ct fn [] (·=x):=by unfold aX0 at h;split at h;rename_i c i;split at h;rename_i p l;obtain⟨e,m,Y⟩:=p;simp only[Bool.and_eq_true] at h;obtain⟨g,a⟩:=h;split at a;rename_i r b;obtain rfl:=aYn a;refine aBg ready j i k (Nat.zero_le _)<|bbl ready bdF 3000 c _ _ e m Y l _ ?_;rcases aWD g with rfl|rfl;exact⟨_,b,d,rfl⟩;exact⟨_,b,d,rfl⟩;(cases a);(cases h);cases h
set_option maxRecDepth 100000 in
def bal:aX0 Tryz.f9 (bv U)=U:=by kernel_rfl
def Oj:Ct 9 [] (·=bv U):=by exact be9 Tryz.func9 (by kernel_rfl) rfl bal
def BS:FT:=BJ Oj
def ayk{Lw K}:=al2 BS Oj Lw K
def buR:dO:=(9,BS)::buQ
def bxK:eJ buR:=sz (apM Oj)<|bxJ
def btC:=And.intro @ayk<|@bwD
def buh a b R:=(.mk _:NR buR a8I Tryz.f4 [.u] [a] b R).p
def bxM{c0:List AV}{R:cC}(l0:L c0=5)(h:H1 24 5 1 c0 λia b=>buh ia b R):Ct 4 [.a c0] R:=z1 a8I bxK Tryz.func4 l0 h
def pp(l:List<|List Int):Prop:=∀c∈l,L c<=5000
theorem pp.nil:pp []:=λc h=>by cases h
def pp.cons{c:List Int}{l:List (List Int)}(h:L c<=5000)(b:pp l):pp (c::l):=λx a=>by
 rcases eW.1 a with rfl|a
 ·exact h
 ·exact b x a
def pp.app{l l':List (List Int)}(h:pp l)(a:pp l'):pp (l++l'):=λx b=>(List.mem_append.1 b).elim (h x)<|a x
def pp.flat{f:Nat->List (List Int)}{l:List Nat}(h:∀x,pp<|f x):pp (l.flatMap f):=λx a=>by
 obtain⟨y,_,b⟩:=List.mem_flatMap.1 a
 exact h y x b
section
variable{ns:List aH8}{w:am}
def alt{a b c:Int}:pp (jI ns a b c):=by unfold jI;repeat first|exact pp.nil|refine pp.cons (by simp) ?_|split
def awf:pp (bqD ns w):=by unfold bqD jy my kY mA;repeat first|exact pp.nil|refine pp.cons (by simp) ?_|refine pp.app ?_ ?_|refine pp.flat λx=>?_|split
def awc:pp (oH ns w):=by unfold oH pE rL mw iA;repeat first|exact pp.nil|exact pp.app alt alt|refine pp.cons (by simp) ?_|refine pp.flat λx=>?_|split
def awd{l:List aH8}(f:L l<=320):pp (sN ns w l):=by have a:∀p:aH8->Bool,L (l.filter p)<=L l:=λp=>fZ _ _;have d:∀x,L (kZ ns w l x)<=400:=λx=>(by have e:L (jd ns x)<=3:=(by unfold jd;split<;>simp);have:=a<|j8 w x;simp only[kZ,a6G,bJ];omega);unfold sN;refine pp.app ?_<|pp.app ?_<|pp.app ?_<|pp.app ?_ ?_;(focus refine pp.flat λx=>?_;unfold iW;repeat first|exact pp.nil|refine pp.cons (by simp) ?_|refine pp.app ?_ ?_|split);(focus refine pp.flat λx=>?_;unfold lP ju;repeat first|exact pp.nil|refine pp.cons (by simp) ?_|refine pp.flat λx=>?_|split);(focus refine pp.flat λx=>?_;unfold lQ jk;repeat first|exact pp.nil|refine pp.cons (by simp) ?_|refine pp.flat λx=>?_|split);refine pp.flat λk=>?_;unfold nT;refine pp.cons ?_ (pp.flat λj=>pp.cons ?_ pp.nil);have c:=d<|gd l k;have e:=a<|eZ<|gd l k;simp only[a6G,bJ];omega;have c:=d<|gd l k;simp only[a6G,bZ,List.length_nil];omega;(focus refine pp.flat λk=>?_;unfold ng;split;(focus refine pp.cons ?_ (pp.flat λj=>?_);have c:=a λv=>Q<|v.b=(bh0 w k).1;simp only[gO,bZ,bJ];omega;(focus unfold iO;repeat first|exact pp.nil|refine pp.cons (by simp) ?_|split));exact pp.nil)
def awe(a:L w.ac<=16):pp (rJ ns w):=by unfold rJ;refine pp.app (pp.flat λr=>?_) (pp.flat λi=>?_);(focus unfold gW;split;(focus refine pp.app (pp.cons (by simp)<|pp.cons ?_ pp.nil) (pp.flat λj=>?_);have:=vU w r;simp only[bZ,bJ];omega;(focus unfold iP kD pD bpl;repeat first|exact pp.nil|refine pp.cons (by simp) ?_|refine pp.app ?_ ?_|refine pp.flat λx=>?_|split));exact pp.nil);(focus unfold kX qv;repeat first|exact pp.nil|refine pp.cons (by simp) ?_|refine pp.flat λx=>?_)
def awa(a:L (aR ns 5)<=320)(b:L w.ac<=16):pp (brQ ns w):=pp.app (pp.app (pp.app awf awc)<|awd a)<|awe b
end
def baj{v:aOA}{Y:ae}:dG Y (.a v.cs)= .a v.cs:=rfl
def bvr{w:am}(e:bcV w=U)(f:hU w):VW w/\fN w.aQ w.init=U/\L (brQ (cw w) w)<=4000000/\(∀c∈brQ (cw w) w,L c<4611686018427387904)/\L (lL<|cw w)<4611686018427387904:=by have a:=vw f e;have d:=awa (ns:=cw w) (w:=w) a.l5 a.wv.ok.ev;refine⟨a,?_,?_,λc h=>by have:=d c h;omega,?_⟩;have b:=(aQA e).1;simp only[oh,Bool.or_eq_false_iff,Bool.not_eq_false'] at b;exact b.1.1.1.1.2;have:=Kv (ns:=cw w) a a.l5;omega;have g:=a.ln;unfold lL;rw[bJ];have:=fZ (λx:aH8=>Q<|x.kind=1)<|cw w;unfold aR;omega
def bw1(v:aOA)(j:aSr v):Ct 4 [.a v.cs] (·=bv U):=by refine bxM rfl λz i g u=>?_;have m:aN (V 5) v.cs=V (.a v.cs):=rfl;simp only[buh,qy 4,u0,u1,g,m,iy,jM,kU,jt,baj,ar,btC,↓uL];refine⟨⟨j,by decide,by decide⟩,?_⟩;rintro _ ⟨w,rfl,f,e,n⟩;refine⟨.inl (by simp[nA,eB,iR,aOA.cs,sl]),?_⟩;refine anu i λB A q r h=>?_;obtain⟨b,p,o,d,c⟩:=bvr f e;simp only[qz 6,u0,u1,h,aYl,iy,jM,kU,jt,sH,ar,btC,f,e,asq,ip,↓uL];rintro x ⟨s,rfl,k⟩;refine⟨.inl rfl,?_⟩;rintro y ⟨t,rfl,l⟩;refine⟨.inl rfl,?_⟩;simp only[k.arg,l.arg,btC,u0,u1,↓uL];exact⟨⟨trivial,c,by show L (brQ (cw w) w)<_;omega,d⟩, .inr rfl,trivial⟩
end Go.Ab
