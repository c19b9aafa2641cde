/- Part of the proof of EncodeRecorded. -/
import Derived.Test.YtcceijpmabdflaaGreatDoorG
set_option linter.all false
set_option maxRecDepth 100000
open Bool renaming false->I,true->U
open Decidable renaming decide->Q
open Go.Proofs.Tryz renaming prog->aS
open List renaming drop_zero->J3,getElem_map->bt5,length->L,length_append->a6G,length_cons->bZ,length_map->bJ,mem_cons->eW,mem_flatMap->iI,mem_map->dN,not_mem_nil->ql,range->aH
open Option renaming some->V
namespace Go.Ab
open Go Go.RowKit Go.Proofs
def yL(k:Nat):List Int:=(aH 4).map λi=>if i<k then 1 else 0
def uY(k:Nat):List aoC:=(aH 4).map λi=>⟨if i<k then 2 else if i=0 then 1 else 0,0,I⟩
def ku:gz:=⟨aNE,4,⟨⟨List.replicate 3 ⟨-1,[]⟩,-1,[I],uY 4⟩,[0,1,0,0,0],[0],yL 4⟩,[⟨0,4,0,1,0,[],[]⟩,⟨1,4,0,2,6,[],[]⟩]⟩
def aoM:bcV ku=U:=by kernel_rfl
def aoL:hU ku:=by refine⟨by decide,?_,?_,by decide⟩;intro l b;have:l=⟨-1,[]⟩:=List.eq_of_mem_replicate b;subst this;decide;intro e a;have:e=⟨0,4,0,1,0,[],[]⟩\/e=⟨1,4,0,2,6,[],[]⟩:=(by simpa[ku] using a);rcases this with rfl|rfl<;>exact⟨by decide,by decide⟩
def a6e{fn:Nat}{ys:List AV}{r:AV}(h:Ct fn ys (·=r)):zm aS GG fn ys (·=r):=by obtain⟨a,rfl,_,h⟩:=h;exact h
def aS5{fn:Nat}{e:TypeId}{z:Nat}(h:∀bA:List<|List AV,(∀r∈bA,L r=z)->L bA<1000000->∃r a,bc a e z r bA/\cZ aS GG fn [.l bA I I] eK r a/\(bA=[]->r= .l [] U U))(bA:List<|List AV)(f:∀r∈bA,L r=z)(i:L bA<1000000):∃r a,cZ aS GG fn [.l bA I I] eK r a/\(bA=[]->r= .l [] U U)/\(bA≠[]->∃b,r= .m b (L bA)/\box a b=V ⟨e,z,U,I,bA⟩):=by obtain⟨r,a,g,j,d⟩:=h bA f i;refine⟨r,a,j,d,λc=>?_⟩;rcases g with⟨e,_⟩|g;exact aPo e c;exact g
def knT:aPP:=⟨[(30,[.a ku.c],bv U),(28,[.a ku.c],bv U)],[(94,3,1),(251,4,1),(252,138,3),(214,2,1)]⟩
def bdF:aSn aS GG knT:=by refine⟨λ_=>rfl,λp c=>?_,λp c=>?_⟩;simp only[knT,eW,ql,bjz] at c;rcases c with rfl|rfl;exact a6e<|PW ku ⟨aoM,aoL⟩;have h:=O8 ku aoL;rw[aoM] at h;exact a6e h;simp only[knT,eW,ql,bjz] at c;rcases c with rfl|rfl|rfl|rfl;exact aS5 λbA a b=>aCM a b;exact aS5 λbA a b=>aCL a b;exact aS5 λbA a b=>aCK a b;exact aS5 λbA a b=>aCN a b
noncomputable def aX0(f:Func)(x:AV):Bool:=match f.body with
 |some c=>match ev aS GG knT 3000 c (start f []) (ly f) with
  |some p=>aQ0 p.1&&(match yB aS f p.2.1 p.2.2 with|some r=>xqA 9 r x|none=>I)
  |none=>I
 |none=>I
def be9{fn:Nat}{f:Func}{x:AV}(j:aS.funcs[fn]?=V f)(k:(f.name== "runtime.NumGoroutine")=I)(d:kG x=U)(h:aX0 f x=U):Ct fn [] (·=x):=by unfold aX0 at h;split at h;rename_i c i;split at h;rename_i p l;obtain⟨e,m,Y⟩:=p;simp only[Bool.and_eq_true] at h;obtain⟨g,a⟩:=h;split at a;rename_i r b;obtain rfl:=aYn a;refine aBg ready j i k (Nat.zero_le _)<|bbl ready bdF 3000 c _ _ e m Y l _ ?_;rcases aWD g with rfl|rfl;exact⟨_,b,d,rfl⟩;exact⟨_,b,d,rfl⟩;(cases a);(cases h);cases h
set_option maxRecDepth 100000 in
def bal:aX0 Tryz.f9 (bv U)=U:=by kernel_rfl
def Oj:Ct 9 [] (·=bv U):=by exact be9 Tryz.func9 (by kernel_rfl) rfl bal
def BS:FT:=BJ Oj
def ayk{Lw K}:=al2 BS Oj Lw K
def bAq:dO:=(9,BS)::bAp
def bBW:eJ bAq:=ve (apM Oj)<|bBV
def bu4:=And.intro @ayk<|@bAX
def bzB:=lA 13 [(4,([13],[3,11,12]))]
def bzp a b R:=(.mk _:NR bAq bzB Tryz.f6 [.u] [a] b R).p
def bB3{c0:List AV}{R:j4}(l0:L c0=5)(h:H1 24 5 1 c0 λia b=>bzp ia b R):Ct 6 [.a c0] R:=z1 bzB bBW Tryz.func6 l0 h
def pp(l:List<|List Int):Prop:=∀c∈l,L c<=5000
theorem pp.nil:pp []:=λc h=>by cases h
theorem pp.cons{c:List Int}{l:List (List Int)}(h:L c<=5000)(b:pp l):pp (c::l):=λx a=>by
 rcases eW.1 a with rfl|a
 ·exact h
 ·exact b x a
theorem pp.app{l l':List (List Int)}(h:pp l)(a:pp l'):pp (l++l'):=λx b=>(List.mem_append.1 b).elim (h x)<|a x
def pp.flat{f:Nat->List (List Int)}{l:List Nat}(h:∀x,pp<|f x):pp (l.flatMap f):=λx a=>by
 obtain⟨y,_,b⟩:=iI.1 a
 exact h y x b
section
variable{ns:List aH8}{w:gz}
def alt{a b c:Int}:pp (jI ns a b c):=by unfold jI;repeat first|exact pp.nil|refine pp.cons (by simp) ?_|split
def awf:pp (bqD ns w):=by unfold bqD jy my kY mA;repeat first|exact pp.nil|refine pp.cons (by simp) ?_|refine pp.app ?_ ?_|refine pp.flat λx=>?_|split
def awc:pp (oH ns w):=by unfold oH pE rL mw iA;repeat first|exact pp.nil|exact pp.app alt alt|refine pp.cons (by simp) ?_|refine pp.flat λx=>?_|split
def awd{l:List aH8}(f:L l<=320):pp (sN ns w l):=by have a:∀p:aH8->Bool,L (l.filter p)<=L l:=λp=>List.length_filter_le _ _;have d:∀x,L (kZ ns w l x)<=400:=λx=>(by have e:L (jd ns x)<=3:=(by unfold jd;split<;>simp);have:=a<|j8 w x;simp only[kZ,a6G,bJ];omega);unfold sN;refine pp.app ?_<|pp.app ?_<|pp.app ?_<|pp.app ?_ ?_;(focus refine pp.flat λx=>?_;unfold iW;repeat first|exact pp.nil|refine pp.cons (by simp) ?_|refine pp.app ?_ ?_|split);(focus refine pp.flat λx=>?_;unfold lP ju;repeat first|exact pp.nil|refine pp.cons (by simp) ?_|refine pp.flat λx=>?_|split);(focus refine pp.flat λx=>?_;unfold lQ jk;repeat first|exact pp.nil|refine pp.cons (by simp) ?_|refine pp.flat λx=>?_|split);refine pp.flat λk=>?_;unfold nT;refine pp.cons ?_ (pp.flat λj=>pp.cons ?_ pp.nil);have c:=d<|gd l k;have e:=a<|eZ<|gd l k;simp only[a6G,bJ];omega;have c:=d<|gd l k;simp only[a6G,bZ,List.length_nil];omega;(focus refine pp.flat λk=>?_;unfold ng;split;(focus refine pp.cons ?_ (pp.flat λj=>?_);have c:=a λv=>Q<|v.b=(bh0 w k).1;simp only[gO,bZ,bJ];omega;(focus unfold iO;repeat first|exact pp.nil|refine pp.cons (by simp) ?_|split));exact pp.nil)
def awe(a:L w.ac<=16):pp (rJ ns w):=by unfold rJ;refine pp.app (pp.flat λr=>?_) (pp.flat λi=>?_);(focus unfold bqN;split;(focus refine pp.app (pp.cons (by simp)<|pp.cons ?_ pp.nil) (pp.flat λj=>?_);have:=vU w r;simp only[bZ,bJ];omega;(focus unfold iP kD pD bpl;repeat first|exact pp.nil|refine pp.cons (by simp) ?_|refine pp.app ?_ ?_|refine pp.flat λx=>?_|split));exact pp.nil);(focus unfold kX qv;repeat first|exact pp.nil|refine pp.cons (by simp) ?_|refine pp.flat λx=>?_)
def awa(a:L (aR ns 5)<=320)(b:L w.ac<=16):pp (brQ ns w):=pp.app (pp.app (pp.app awf awc)<|awd a)<|awe b
end
def baj{v:aOA}{Y:ae}:dG Y (.a v.cs)= .a v.cs:=rfl
def bBG{w:gz}(p:hU w)(q:bcV w=U)(D:∀i,i<L w.ac->pN (gd w.ac i)=I):bzh (vZ w<|brQ (cw w) w) ((cw w).map<|bdZ w) (bdT<|L w.ac):=by obtain⟨_,_,_,E,G,u⟩:=byY p q;have g:L (bdT<|L w.ac)=L w.ac:=(by simp[bdT]);have y:∀x∈lr (L w.ac) (L w.ac),x.kind=1:=λx h=>(by simp only[lr,nB,iI,dN] at h;obtain⟨_,_,_,_,rfl⟩:=h;rfl);have n:aR (cw w) 1=lr (L w.ac) (L w.ac):=(by have m:∀{l:List aH8},(∀x∈l,x.kind≠1)->l.filter (λx=>Q<|x.kind=1)=[]:=λh=>List.filter_eq_nil_iff.2 λx e=>(by simpa using h x e);unfold aR cw;simp only[List.filter_append];rw[List.filter_eq_self.2 λx e=>by simpa using y x e,m,m,m,m];simp;intro x e;simp only[jp,pR,iI] at e;obtain⟨a,_,h⟩:=e;split at h;obtain⟨b,_,rfl⟩:=dN.1 h;simp;(cases h);intro x e;simp only[ki,iI,dN] at e;obtain⟨_,_,_,_,rfl⟩:=e;simp;intro x e;simp only[kh,dN] at e;obtain⟨_,_,rfl⟩:=e;simp;intro x e;simp only[mK,dN] at e;obtain⟨_,_,rfl⟩:=e;simp);have s:L (lL<|cw w)=L (lr (L w.ac)<|L w.ac):=(by unfold lL;rw[bJ,n]);have F:L (lr (L w.ac)<|L w.ac)<=L (cw w):=(by simp only[cw,a6G];omega);have d:=vw p q;have r:=awa (ns:=cw w) (w:=w) d.l5 d.wv.ok.ev;refine⟨by simp[vZ],by rw[g];rfl,by show(L (lL<|cw w):Int)<=(L (cw w):Int);omega,⟨by rw[bJ];omega,by show L (brQ (cw w) w)<_;have:=Kv (ns:=cw w) d d.l5;omega,λx e=>?_,λc t=>⟨by have:=r c t;omega,λx e=>?_⟩⟩,λi B=>?_,bBF p q D⟩;simp only[bdT,dN,List.mem_range] at e;obtain⟨j,K,rfl⟩:=e;omega;obtain⟨_,k,H⟩:=u c t x e;omega;have f:i<L (lL<|cw w):=B;rw[s] at f;have z:gd (vZ w<|brQ (cw w) w).lL i=⟨(gd (lr (L w.ac)<|L w.ac) i).a,(gd (lr (L w.ac)<|L w.ac) i).b,-1⟩:=(by show gd (lL<|cw w) i=_;unfold lL;rw[n,bT (by simpa using f),bt5,bT f]);have A:gd ((cw w).map<|bdZ w) i=bdZ w (gd (lr (L w.ac)<|L w.ac) i):=(by rw[bT (by rw[bJ];omega),bt5,bT f];congr 1;simp only[cw,List.append_assoc];rw[List.getElem_append_left f]);have v:=asq f;have C:=y _ v;obtain⟨o,k,_⟩:=byL v;rw[z,A];generalize gd (lr (L w.ac)<|L w.ac) i=x at*;have M:=o.1;have N:=o.2;have O:=k.1;have P:=k.2;refine⟨by rw[g];exact o,by rw[g];exact k,?_⟩;simp only[bdZ,C,brp,bie,bum (show x.a.toNat<L w.ac by omega),bum<|show x.b.toNat<L w.ac by omega];rw[decide_eq_decide];omega
def bBe(v:aOA)(M:aSr v):Ct 6 [.a v.cs] (·=bv U):=by refine bB3 rfl λs2 s E h0=>?_;have P:aN (V 5) v.cs=V (.a v.cs):=rfl;simp only[bzp,qy 4,u0,u1,E,P,J3,jM,kU,jt,baj,ar,bu4];refine⟨⟨M,by decide,by decide⟩,?_⟩;rintro _ ⟨w,rfl,e,f,T⟩;refine⟨.inl (by simp[nA,eB,iR,aOA.cs,sl]),?_⟩;refine anu s λv3 S y X o=>?_;have u:=y.len.trans s;have d:=vw f e;have W:=d.wv.ok.ev;simp only[qz 6,u0,u1,o,rk,Nat.zero_add];refine yV (L w.ac) (λk _ z=>Fx S z []/\∀j,j<k->pN (gd w.ac j)=I) ⟨Fx.refl _ _,by simp⟩ ?_;rintro k _ z K ⟨m,n⟩;have g:=m.kq o;have l:=m.len.trans u;simp only[qz 25,qy 8,qy 12,au,aI,u0,u1,ix,rk,Int.toNat_natCast];refine⟨λh=>?_,λh=>?_⟩;have i:=aL h;refine⟨dJ i,?_⟩;refine anu l λv5 s7 A Z F=>?_;have R:aN (V 7) (gd w.ac k).c=V (.a (gd w.ac k).c):=rfl;simp only[qz 10,au,u0,u1,F,R,J3,jM,kU,jt,CU,ar,bu4];exact⟨λ_=>trivial,λH=>yU i ⟨m.trans A,aRN n H⟩⟩;have r:k=L w.ac:=Nat.le_antisymm K<|bw h;subst r;simp only[u0,u1,g,aYl,jM,kU,jt,sH,ar,bu4,e,f];have x:fN w.aQ w.init=U:=(by have q:=(aQA e).1;simp only[oh,Bool.or_eq_false_iff,Bool.not_eq_false'] at q;exact q.1.1.1.1.2);refine⟨⟨d.wv.ok,d.wv.ts,x⟩,λt=>⟨.inl rfl,by omega, .inl rfl,n, .inl rfl,?_⟩⟩;simp only[oJ,pG,aY];refine anu l λv6 s8 B N8 G=>?_;have p:=B.kq g;simp only[qz 14];refine dT (by simp[eL,lb,Qh,List.flatMap_cons,m8,dC,dK,sl,gz.c]) ?_;have O:∀{a b:AV},aN (V 2) [a,b]=V (.a [a,b]):=λ{a b}=>rfl;have D:∀{Y:ae},dG Y (.a [sl cb<|(cw w).map<|bdZ w,sl ci<|bdT<|L w.ac])= .a [sl cb<|(cw w).map<|bdZ w,sl ci<|bdT<|L w.ac]:=λ{Y}=>rfl;simp only[jA,u0,u1,p,aYl,J3,jM,kU,jt,sH,ar,bu4,e,f,aOe,G,O];rintro r9 ⟨d9,rfl,N⟩;refine⟨.inl rfl,?_⟩;have C:=bBG f e n;simp only[N.arg,D,bu4,C,GL,u0,u1,uO,bie];exact⟨.inr rfl,trivial⟩
end Go.Ab
