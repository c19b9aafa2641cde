/- Part of the proof of EncodeValid. -/
import Derived.Test.YtcceijpmabdflaaGreatDoorG
set_option linter.all false
set_option maxRecDepth 100000
open And renaming intro->ai
open Bool renaming and_eq_true->bN,false->I,false_eq_true->eE,not_eq_false'->fK,not_eq_true'->eH,not_false->kN,or_eq_false_iff->cP,or_eq_true->fH,true->U
open Decidable renaming decide->Q
open Go.IntKind renaming i64->dq
open Go.Proofs.Tryz renaming prog->aS
open Int renaming toNat_natCast->bh
open List renaming append_nil->cL,drop_zero->J3,flatMap_append->GC,flatMap_cons->Cz,flatMap_nil->RN,getD_eq_getElem?_getD->eI,getElem?_drop->mf,length->L,length_append->a6G,length_cons->bZ,length_drop->oz,length_filter_le->fZ,length_map->bJ,length_nil->aO1,length_range->bnJ,mem_append->dF,mem_cons->eW,mem_filter->jW,mem_flatMap->iI,mem_map->dN,mem_range->fq,not_mem_nil->ql,range->aH,range_succ->qn
open Nat renaming add_mul->aYA,le_refl->dA,mul_comm->vD,reduceAdd->dc,zero_add->aj,zero_le->mh
open Option renaming none->J,some->V
namespace Go.Ab
open Go Go.RowKit Go.Proofs
def yL(k:Nat):List Int:=(aH 4).map λi=>if i<k then 1 else 0
def uY(k:Nat):List aoC:=(aH 4).map λi=>⟨if i<k then 2 else if i=0 then 1 else 0,0,I⟩
def ku:am:=⟨aNE,4,⟨⟨List.replicate 3 ⟨-1,[]⟩,-1,[I],uY 4⟩,[0,1,0,0,0],[0],yL 4⟩,[⟨0,4,0,1,0,[],[]⟩,⟨1,4,0,2,6,[],[]⟩]⟩
def aoM:bcV ku=U:=by kernel_rfl
def aoL:hU ku:=by refine⟨by decide,?_,?_,by decide⟩;intro l b;have:l=⟨-1,[]⟩:=List.eq_of_mem_replicate b;subst this;decide;intro e a;have:e=⟨0,4,0,1,0,[],[]⟩\/e=⟨1,4,0,2,6,[],[]⟩:=(by simpa[ku] using a);rcases this with rfl|rfl<;>exact⟨by decide,by decide⟩
def a6e{fn:Nat}{ys:List AV}{r:AV}(h:Ct fn ys (·=r)):zm aS GG fn ys (·=r):=by obtain⟨a,rfl,_,h⟩:=h;exact h
def aS5{fn:Nat}{e:TypeId}{z:Nat}(h:∀bA:List<|List AV,(∀r∈bA,L r=z)->L bA<1000000->∃r a,bc a e z r bA/\cZ aS GG fn [.l bA I I] eK r a/\(bA=[]->r= .l [] U U))(bA:List<|List AV)(f:∀r∈bA,L r=z)(i:L bA<1000000):∃r a,cZ aS GG fn [.l bA I I] eK r a/\(bA=[]->r= .l [] U U)/\(bA≠[]->∃b,r= .m b (L bA)/\box a b=V ⟨e,z,U,I,bA⟩):=by obtain⟨r,a,g,j,d⟩:=h bA f i;refine⟨r,a,j,d,λc=>?_⟩;rcases g with⟨e,_⟩|g;exact aPo e c;exact g
def knT:aPP:=⟨[(30,[.a ku.c],bv U),(28,[.a ku.c],bv U)],[(94,3,1),(251,4,1),(252,138,3),(214,2,1)]⟩
def bdF:aSn aS GG knT:=by refine⟨λ_=>rfl,λp c=>?_,λp c=>?_⟩;simp only[knT,eW,ql,bjf] at c;rcases c with rfl|rfl;exact a6e<|PW ku ⟨aoM,aoL⟩;have h:=O8 ku aoL;rw[aoM] at h;exact a6e h;simp only[knT,eW,ql,bjf] at c;rcases c with rfl|rfl|rfl|rfl;exact aS5 λbA a b=>aCM a b;exact aS5 λbA a b=>aCL a b;exact aS5 λbA a b=>aCK a b;exact aS5 λbA a b=>aCN a b
noncomputable def aX0(f:Func)(x:AV):Bool:=match f.body with
 |some c=>match ev aS GG knT 3000 c (start f []) (ly f) with
  |some p=>aQ0 p.1&&(match yB aS f p.2.1 p.2.2 with|some r=>xqA 9 r x|none=>I)
  |none=>I
 |none=>I
def be9{fn:Nat}{f:Func}{x:AV}(j:aS.funcs[fn]?=V f)(k:(f.name== "runtime.NumGoroutine")=I)(d:kG x=U)(h:aX0 f x=U):Ct fn [] (·=x):=by unfold aX0 at h;split at h;rename_i c i;split at h;rename_i p l;obtain⟨e,m,Y⟩:=p;simp only[bN] at h;obtain⟨g,a⟩:=h;split at a;rename_i r b;obtain rfl:=aYn a;refine aBg ready j i k (mh _)<|bbl ready bdF 3000 c _ _ e m Y l _ ?_;rcases aWD g with rfl|rfl;exact⟨_,b,d,rfl⟩;exact⟨_,b,d,rfl⟩;(cases a);(cases h);cases h
set_option maxRecDepth 100000 in
def bal:aX0 Tryz.f9 (bv U)=U:=by kernel_rfl
def Oj:Ct 9 [] (·=bv U):=by exact be9 Tryz.func9 (by kernel_rfl) rfl bal
def BS:FT:=BJ Oj
def ayk{Lw K}:=al2 BS Oj Lw K
def buR:dO:=(9,BS)::buQ
def bxK:eJ buR:=sz (apM Oj)<|bxJ
def btC:=ai @ayk<|@bwD

def yp(l:List<|List Int):Prop:=∀c∈l,L c<=5000
theorem yp.nil:yp []:=λc h=>by cases h
def yp.cons{c:List Int}{l:List (List Int)}(h:L c<=5000)(b:yp l):yp (c::l):=λx a=>by
 rcases eW.1 a with rfl|a
 ·exact h
 ·exact b x a
def yp.app{l l':List (List Int)}(h:yp l)(a:yp l'):yp (l++l'):=λx b=>(dF.1 b).elim (h x)<|a x
def yp.flat{f:Nat->List (List Int)}{l:List Nat}(h:∀x,yp<|f x):yp (l.flatMap f):=λx a=>by
 obtain⟨y,_,b⟩:=iI.1 a
 exact h y x b
section
variable{ns:List aH8}{w:am}
def alt{a b c:Int}:yp (jI ns a b c):=by unfold jI;repeat first|exact yp.nil|refine yp.cons (by simp) ?_|split
def awf:yp (bqD ns w):=by unfold bqD jy my kY mA;repeat first|exact yp.nil|refine yp.cons (by simp) ?_|refine yp.app ?_ ?_|refine yp.flat λx=>?_|split
def awc:yp (oH ns w):=by unfold oH pE rL mw iA;repeat first|exact yp.nil|exact yp.app alt alt|refine yp.cons (by simp) ?_|refine yp.flat λx=>?_|split
def awd{l:List aH8}(f:L l<=320):yp (sN ns w l):=by have a:∀p:aH8->Bool,L (l.filter p)<=L l:=λp=>fZ _ _;have d:∀x,L (kZ ns w l x)<=400:=λx=>(by have e:L (jd ns x)<=3:=(by unfold jd;split<;>simp);have:=a<|j8 w x;simp only[kZ,a6G,bJ];omega);unfold sN;refine yp.app ?_<|yp.app ?_<|yp.app ?_<|yp.app ?_ ?_;(focus refine yp.flat λx=>?_;unfold iW;repeat first|exact yp.nil|refine yp.cons (by simp) ?_|refine yp.app ?_ ?_|split);(focus refine yp.flat λx=>?_;unfold lP ju;repeat first|exact yp.nil|refine yp.cons (by simp) ?_|refine yp.flat λx=>?_|split);(focus refine yp.flat λx=>?_;unfold lQ jk;repeat first|exact yp.nil|refine yp.cons (by simp) ?_|refine yp.flat λx=>?_|split);refine yp.flat λk=>?_;unfold nT;refine yp.cons ?_ (yp.flat λj=>yp.cons ?_ yp.nil);have c:=d<|gd l k;have e:=a<|eZ<|gd l k;simp only[a6G,bJ];omega;have c:=d<|gd l k;simp only[a6G,bZ,aO1];omega;(focus refine yp.flat λk=>?_;unfold ng;split;(focus refine yp.cons ?_ (yp.flat λj=>?_);have c:=a λv=>Q<|v.b=(bh0 w k).1;simp only[gO,bZ,bJ];omega;(focus unfold iO;repeat first|exact yp.nil|refine yp.cons (by simp) ?_|split));exact yp.nil)
def awe(a:L w.ac<=16):yp (rJ ns w):=by unfold rJ;refine yp.app (yp.flat λr=>?_) (yp.flat λi=>?_);(focus unfold gW;split;(focus refine yp.app (yp.cons (by simp)<|yp.cons ?_ yp.nil) (yp.flat λj=>?_);have:=vU w r;simp only[bZ,bJ];omega;(focus unfold iP kD pD bpl;repeat first|exact yp.nil|refine yp.cons (by simp) ?_|refine yp.app ?_ ?_|refine yp.flat λx=>?_|split));exact yp.nil);(focus unfold kX qv;repeat first|exact yp.nil|refine yp.cons (by simp) ?_|refine yp.flat λx=>?_)
def awa(a:L (aR ns 5)<=320)(b:L w.ac<=16):yp (brQ ns w):=yp.app (yp.app (yp.app awf awc)<|awd a)<|awe b
def Km{x:Int}:yp (jK ns w x):=by unfold jK jc pC;repeat first|exact yp.nil|refine yp.cons (by simp) ?_|refine yp.app ?_ ?_|refine yp.flat λx=>?_|split
def awb{g:cJ}(c:L (aR ns 5)<=320):yp (jx ns w g):=by unfold jx;split;exact yp.app Km Km;split;(focus refine yp.flat λk=>?_;unfold bqS jc;have d:=fZ (λv:aH8=>Q (v.b=(bh0 w<|gd g.cW k).1)&&Q (v.a≠-1))<|aR ns 5;repeat first|exact yp.nil|refine yp.cons (by simp) ?_|refine yp.cons (by simp only[nG,bJ];omega) ?_|refine yp.app ?_ ?_|split);split;(focus unfold jJ kF;repeat first|exact yp.nil|refine yp.cons (by simp) ?_|refine yp.app ?_ ?_|refine yp.flat λx=>?_|split);split;exact yp.app (yp.cons (by simp)<|yp.cons (by simp)<|yp.cons (by simp) yp.nil) Km;exact yp.nil
end
def baj{v:aOA}{Y:ae}:dG Y (.a v.cs)= .a v.cs:=rfl
abbrev u8v(n:Int):AV:= .s<|.int .u8 n
def bvr{w:am}(e:bcV w=U)(f:hU w):VW w/\fN w.aQ w.init=U/\L (brQ (cw w) w)<=4000000/\(∀c∈brQ (cw w) w,L c<4611686018427387904)/\L (lL<|cw w)<4611686018427387904:=by have a:=vw f e;have d:=awa (ns:=cw w) (w:=w) a.l5 a.wv.ok.ev;refine⟨a,?_,?_,λc h=>by have:=d c h;omega,?_⟩;have b:=(aQA e).1;simp only[oh,cP,fK] at b;exact b.1.1.1.1.2;have:=Kv (ns:=cw w) a a.l5;omega;have g:=a.ln;unfold lL;rw[bJ];have:=fZ (λx:aH8=>Q<|x.kind=1)<|cw w;unfold aR;omega
def buv:dO:=buR
def bw9:eJ buv:=bxK
def byh:=@btC
def buS:=I5 35 [(9,([42],[1,40,41])),(21,([87],[1,85,86])),(27,([93],[1,85,86,87,91,92]))]
def buL a b R:=(.mk _:NR buv buS Tryz.f15 [.u] [a] b R).p
def bza{c0:List AV}{R:cC}(l0:L c0=4)(h:H1 54 4 1 c0 λia b=>buL ia b R):Ct 15 [.a c0] R:=z1 buS bw9 Tryz.func15 l0 h
def LI(n:Nat)(x:Int):Prop:=x≠0/\ -(n:Int)<=x/\x<=n
def LV(n:Nat)(c:List Int):Prop:=∀x∈c,LI n x
def LVs(n:Nat)(l:List<|List Int):Prop:=∀c∈l,LV n c
section
variable{n:Nat}{x y:Int}{c d:List Int}{l m:List (List Int)}
def LI.neg(h:LI n x):LI n (-x):=by obtain⟨a,b,e⟩:=h;exact⟨by omega,by omega,by omega⟩
theorem LV.nil:LV n []:=λx h=>by cases h
def LV.cons(h:LI n x)(b:LV n c):LV n (x::c):=λz a=>by
 rcases eW.1 a with rfl|a
 ·exact h
 ·exact b z a
def LV.app(h:LV n c)(a:LV n d):LV n (c++d):=λz b=>(dF.1 b).elim (h z)<|a z
theorem LV.one(h:LI n x):LV n [x]:= .cons h .nil
def LV.two(h:LI n x)(a:LI n y):LV n [x,y]:= .cons h<|.one a
theorem LVs.nil:LVs n []:=λc h=>by cases h
def LVs.cons(h:LV n c)(b:LVs n l):LVs n (c::l):=λz a=>by
 rcases eW.1 a with rfl|a
 ·exact h
 ·exact b z a
theorem LVs.one(h:LV n c):LVs n [c]:= .cons h .nil
def LVs.app(h:LVs n l)(a:LVs n m):LVs n (l++m):=λz b=>(dF.1 b).elim (h z)<|a z
def LVs.rng{f:Nat->List (List Int)}{k:Nat}(h:∀i,i<k->LVs n (f i)):LVs n ((aH k).flatMap f):=λz a=>by
 obtain⟨i,b,a⟩:=iI.1 a
 exact h i (fq.1 b) z a
end
def brK{ns:List aH8}{x:aH8}(h:x∈ns):LI (L ns) (dP ns x):=by unfold dP;rw[lD h];have:=List.idxOf_lt_length_of_mem h;exact⟨by omega,by omega,by omega⟩
def btD{ns l:List aH8}{p:aH8->Bool}(h:∀x∈l,x∈ns):LV (L ns) ((l.filter p).map<|dP ns):=λz b=>by
 obtain⟨x,a,rfl⟩:=dN.1 b
 exact brK<|h x (jW.1 a).1
section
variable{ns:List aH8}{w:am}(N:jb w ns)
include N
def biw{x:Int}(h:aF (L w.ac) x):LI (L ns) (lE ns x):=brK<|N.ex x h
def bqK{x y:Int}(h:aF (L w.ac) x)(a:aF (L w.ac) y)(b:x≠y):LI (L ns) (lB ns x y):=brK<|N.bf x y h a b
def btB{x:Int}(h:aF (L w.ac) x)(a:fR (gd w.ac x.toNat)=U):LI (L ns) (lF ns x):=brK<|N.fx x h a
def byI:LVs (L ns) (bqD ns w):=by unfold bqD jy;refine .app (.rng λx k=> .rng λy b=>?_) (.app (.rng λy b=>?_)<|.rng λj i=>?_);have ix:=dJ k;have a:=dJ b;unfold my;split;exact .one (.two (bqK N ix a<|by omega)<|bqK N a ix<|by omega);exact .nil;have a:=dJ b;have o:=anW (w:=w) (j:=y);unfold kY;split;rename_i h;have f:aF (L w.ac) (lw w.ac y):=⟨h,by omega⟩;exact .cons (.one<|bqK N f a<|by omega)<|.one<|.two (biw N a).neg<|biw N f;exact .nil;have ij:=dJ i;unfold mA;split;rename_i h;obtain⟨g,e⟩:=aIp h;exact .cons (.two (biw N ij).neg<|biw N g)<|.one<|.two (biw N ij).neg<|bqK N g ij e;exact .nil
def bwS{h e f:Int}(i:aF (L w.ac) h)(g:aF (L w.ac) f)(k:h≠f)(o:0<=e->aF (L w.ac) e/\e≠f):LVs (L ns) (jI ns h e f):=by unfold jI;have a:=(biw N i).neg;have b:=(biw N g).neg;have c:=(bqK N i g k).neg;split;exact .one<|.cons a<|.two b c;obtain⟨j,p⟩:=o (by omega);exact .cons (.cons a<|.cons b<|.two c<|biw N j)<|.one<|.cons a<|.cons b<|.two c<|bqK N j g p
def byF(P:∀Lw:Nat,Lw<=L w.aQ.ak->∀i j,i<j->j<L (jE w.aQ w.init.bW w.ac Lw)->(gd (jE w.aQ w.init.bW w.ac Lw) i).aq≠(gd (jE w.aQ w.init.bW w.ac Lw) j).aq->¬((gd (jE w.aQ w.init.bW w.ac Lw) i).read=U/\(gd (jE w.aQ w.init.bW w.ac Lw) j).read=U)->Sd (L w.ac) (gd (jE w.aQ w.init.bW w.ac Lw) i) (gd (jE w.aQ w.init.bW w.ac Lw) j)):LVs (L ns) (oH ns w):=by unfold oH pE rL mw;refine .rng λLw s=> .rng λi t=> .rng λj r=>?_;have P:=P Lw (by omega) i (i+1+j) (by omega) (by rw[oz] at r;omega);generalize jE w.aQ w.init.bW w.ac Lw=S at*;rw[show gd (S.drop<|i+1) j=gd S (i+1+j) by unfold gd;simp[eI,mf]];generalize gd S i=p at*;generalize gd S (i+1+j)=q at*;unfold iA;split;exact .nil;rename_i e;simp only[not_or] at e;have P:=P e.1 e.2.1;split;rename_i k;rcases P.held k with h|⟨f,b,a,g⟩;exact aPo h e.2.2;exact .cons (.two (biw N a).neg<|biw N b)<|.one<|.two (biw N a).neg<|bqK N b a g;rename_i k;obtain⟨f,b,a,g,o⟩:=P.own (by omega);exact .app (bwS N f b a g)<|bwS N b f (Ne.symm a) o
def byG(K:sE w ns):LVs (L ns) (sN ns w<|aR ns 5):=by have q:∀x∈aR ns 5,x∈ns:=λx h=>(jW.1 h).1;have B:=K.ok;generalize aR ns 5=l at*;have r:∀{j:Nat},j<L l->gd l j∈ns/\aF (L w.ac) (gd l j).a/\pN (gd w.ac (gd l j).a.toNat)=U/\(0<=(gd l j).b->aF (L w.ac) (gd l j).b/\(gd l j).b≠(gd l j).a):=λf=>⟨q _<|ve f,B _<|ve f⟩;have C:∀{i j:Nat},j<L (l.drop<|i+1)->gd (l.drop<|i+1) j∈ns:=λf=>q _<|List.mem_of_mem_drop<|ve f;have G:∀x:aH8,aF (L w.ac) x.a->(0<=x.b->aF (L w.ac) x.b/\x.b≠x.a)->LV (L ns) (kZ ns w l x):=λx E H=>(by unfold kZ jd;refine .app (.cons (biw N E).neg ?_)<|btD q;split;obtain⟨g,o⟩:=H (by assumption);exact .two (biw N g).neg (bqK N g E o).neg;exact .nil);unfold sN;refine .app (.rng λk p=>?_) (.app (.rng λi z=>?_)<|.app (.rng λi z=>?_)<|.app (.rng λk p=>?_)<|.rng λk p=>?_);obtain⟨g,o,s,t⟩:=r p;unfold iW;refine .app (.one<|.two (brK g).neg<|biw N o) ?_;split;obtain⟨u,v⟩:=t (by assumption);exact .cons (.two (brK g).neg<|biw N u)<|.one<|.two (brK g).neg<|bqK N u o v;exact .nil;unfold lP ju;refine .rng λj f=>?_;split;exact .one<|.two (brK (r z).1).neg (brK<|C f).neg;exact .nil;unfold lQ jk;refine .rng λj f=>?_;split;exact .one<|.two (brK (r z).1).neg (brK<|C f).neg;exact .nil;obtain⟨g,o,s,t⟩:=r p;have F:=G (gd l k) o t;unfold nT brU;refine .cons (.app F<|btD q) (.rng λj f=> .one<|.app F ?_);have A:=jW.1<|ve f;have u:=B _ A.1;have v:(gd (l.filter<|eZ<|gd l k) j).a≠(gd l k).a:=(by have:=A.2;simp only[eZ,bN,I8] at this;exact this.2);exact .two (brK<|q _ A.1).neg<|bqK N u.1 o v;unfold ng;split;rename_i D;refine .cons (.cons (biw N<|dJ p).neg<|btD q) (.rng λj f=>?_);obtain⟨g,o,s,t⟩:=r f;unfold iO;split;refine .one (.cons (biw N<|dJ p).neg<|.two (brK g).neg<|bqK N o (dJ p) λe=>?_);rw[e,bh] at s;simp[pN,D.1] at s;exact .nil;exact .nil
def byH(R:tP w)(S:GU w ns):LVs (L ns) (rJ ns w):=by have hs:∀{r:Nat} {s:Int},r<L w.ac->fR (gd w.ac r)=U->s∈dx w r->LI (L ns) (lS ns r s):=λo h f=>brK (jW.1 (S.eq _ o h▸List.mem_map_of_mem f:(⟨4,_,_⟩:aH8)∈ns.filter (oa _))).1;unfold rJ;refine .app (.rng λr o=>?_) (.rng λi C=>?_);have p:=dJ o;unfold gW;split;rename_i h;have B:LI (L ns) (lF ns r):=btB N p (by rw[bh];exact h);refine .app (.cons (.two B.neg<|biw N p)<|.one<|.cons B.neg λz F=>?_) (.rng λj u=>?_);obtain⟨s,f,rfl⟩:=dN.1 F;exact hs o h f;have f:=ve u;generalize gd (dx w r) j=s at*;have g:=hs o h f;have v:=S.ok r s f;unfold iP kD;refine .app ?_ (.rng λx E=>?_);split;obtain⟨b,A⟩:=v (by assumption);refine .app (.cons (.two g.neg<|biw N b)<|.one<|.two g.neg<|bqK N b p A) (.rng λk D=>?_);unfold pD;have:=R.fr s.toNat (by have:=b.1;have:=b.2;omega) _<|ve D;exact .one<|.two g.neg<|btB N this.1 this.2;exact .nil;have a:=dJ E;unfold bpl;split;exact .nil;rename_i t;simp only[not_or,Bool.not_eq_false] at t;have q:(r:Int)≠x:=λe=>(by have e:r=x:=(by omega);subst e;have:=t.2;simp[aTG] at this;omega);split;obtain⟨b,A⟩:=v (by assumption);exact .one<|.cons g.neg<|.cons (biw N a).neg<|.two (bqK N a b t.1)<|bqK N p a q;exact .one<|.cons g.neg<|.two (biw N a).neg<|bqK N p a q;exact .nil;unfold kX qv;refine .rng λj u=>?_;have:=R.dp i C _<|ve u;exact .one<|.two (biw N<|dJ C).neg<|btB N this.1 this.2
def btE(R:tP w){x:Int}(h:aF (L w.ac) x):LVs (L ns) (jK ns w x):=by unfold jK jc;refine .app (.cons (.one (biw N h).neg) ?_) (.rng λk a=>?_);split;rename_i b;have:=anW (w:=w) (j:=x.toNat);rw[Int.toNat_of_nonneg h.1] at this;exact .one (.one<|biw N ⟨b,by have:=h.2;omega⟩);exact .nil;have:=R.dp x.toNat (by have:=h.1;have:=h.2;omega) _<|ve a;exact .one<|.one<|btB N this.1 this.2
def byE(R:tP w)(K:sE w ns){g:cJ}(G:bxT w g):LVs (L ns) (jx ns w g):=by have p:∀x∈aR ns 5,x∈ns:=λx h=>(jW.1 h).1;unfold jx;split;rename_i h;exact .app (btE N R (G.h1 h).1)<|btE N R (G.h1 h).2;split;rename_i h;refine .rng λk t=>?_;have i:=(G.h2 h).1 _<|ve t;unfold bqS;refine .app ?_ ?_;have:=btE N R i;unfold jK at this;exactλc r=>this c<|List.mem_append_left _ r;split;refine .one ?_;unfold nG;exact btD p;exact .nil;split;rename_i h;obtain⟨a,b,f⟩:=G.h3 h;refine .app (.app (.cons (.one<|biw N a)<|.cons (.one<|biw N b)<|.one<|.one<|bqK N a b f)<|.rng λe i=>?_) (.rng λj s=>?_);unfold jJ;split;exact .one (.two (biw N<|dJ i).neg<|bqK N (dJ i) b<|by assumption);exact .nil;unfold kF;split;exact .one<|.one (brK<|p _<|ve s).neg;exact .nil;split;rename_i h;obtain⟨a,b,f,o,q⟩:=G.h4 h;exact .app (.cons (.one<|biw N a)<|.cons (.one<|biw N o)<|.one<|.one<|bqK N a f q)<|btE N R b;exact .nil
end
def bus{p q:Nat->Bool}:∀{k:Nat},(∀i,i<k->p i=U->q i=U)->L (fw p k)<=L (fw q k)
 |0,_=>by simp[fw]
 |k+1,h=>by
  have e:=bus (p:=p) (q:=q) (k:=k) λi f=>h i (by omega)
  have a:=h k (by omega)
  rw[yK,yK,a6G,a6G]
  cases b:p k
  ·simp;omega
  ·rw[a b];simp;exact e
def but{p q:Nat->Bool}:∀{k:Nat},(∀i,i<k->p i=U->q i=I)->L (fw p k)+L (fw q k)<=k
 |0,_=>by simp[fw]
 |k+1,h=>by
  have g:=but (p:=p) (q:=q) (k:=k) λi e=>h i (by omega)
  have a:=h k (by omega)
  rw[yK,yK,a6G,a6G]
  cases b:p k
  ·cases f:q k<;>simp<;>omega
  ·rw[a b];simp;omega
def bto{α:Type}{f:Nat->List α}{p:Nat->Bool}{c:Nat}:∀{k:Nat},(∀i,i<k->L (f i)<=if p i=U then c else 0)->L ((aH k).flatMap f)<=L (fw p k)*c
 |0,_=>by simp
 |k+1,h=>by
  have g:=bto (f:=f) (p:=p) (c:=c) (k:=k) λi e=>h i (by omega)
  have a:=h k (by omega)
  rw[qn,GC,a6G,yK,a6G,aYA]
  simp only[Cz,RN,cL]
  cases b:p k
  ·rw[b] at a;simp only[eE,brv,aO1,Nat.zero_mul] at a⊢;omega
  ·rw[b] at a;simp only[aPy,bZ,aO1,aj,Nat.one_mul] at a⊢;omega
def bwY{α:Type}{f:Nat->List α}{k c:Nat}(h:∀i,i<k->L (f i)+c*(i+1)<=c*k):∀m,m<=k->2*L ((aH m).flatMap f)+c*(m*(m+1))<=2*(c*(m*k))
 |0,_=>by simp
 |m+1,g=>by
  have j:=bwY h m (by omega)
  have e:=h m (by omega)
  rw[qn,GC,a6G]
  simp only[Cz,RN,cL]
  have a:c*((m+1)*(m+1+1))=c*(m*(m+1))+2*(c*(m+1)):=by
   rw[<-Nat.mul_assoc 2,vD 2 c,Nat.mul_assoc c 2,<-Nat.mul_add];congr 1
   rw[show m+1+1=m+2 by omega,Nat.mul_add,vD (m+1) m];omega
  have b:c*((m+1)*k)=c*(m*k)+c*k:=by rw[<-Nat.mul_add,aYA,Nat.one_mul]
  rw[a,b];omega
def bxw{α:Type}{f:Nat->List α}{k c:Nat}(h:∀i,i<k->L (f i)+c*(i+1)<=c*k):2*L ((aH k).flatMap f)<=c*(k*k):=by have:=bwY h k<|dA _;have e:c*(k*(k+1))=c*(k*k)+c*k:=(by rw[Nat.mul_add,Nat.mul_one,Nat.mul_add]);rw[e] at this;omega
section
variable{w:am}
def bu7{P:Int->Nat->Bool}{m:Nat}{K:Int}(b:∀n,P n m=U->n=K):∀l:List Int,l.Pairwise (·<·)->L (l.flatMap λn=>fw (P n)<|m+1)<=L (l.flatMap λn=>fw (P n) m)+if K∈l then 1 else 0
 |[],_=>by simp
 |a::t,h=>by
  obtain⟨f,g⟩:=List.pairwise_cons.1 h
  have e:=bu7 (P:=P) b t g
  rw[Cz,Cz,a6G,a6G,yK (P a) m,a6G]
  cases j:P a m
  ·simp only[eE,brv,aO1,eW]
   split at e
   ·rw[lD<|.inr<|by assumption];omega
   ·split<;>omega
  ·have i:=b a j
   subst i
   rw[lC (λh=>by have:=f _ h;omega)] at e
   simp only[aPy,bZ,aO1,eW,true_or];omega
def byQ{l:List Int}{n:Int}(h:lZ l n):l.Pairwise (·<·):=by have key:∀j i,i<j->j<L l->gd l i<gd l j:=(by intro j;induction j with|zero=>intro i f;omega|succ j q=>intro i f g;have k:=h (j+1) g;have a:gd l j<gd l (j+1):=(by have a:=k.2.2 (by omega);rwa [Nat.add_sub_cancel] at a);by_cases o:i=j;rw[o];exact a;have:=q i (by omega) (by omega);omega);rw[List.pairwise_iff_getElem];intro i j p e b;have:=key j i b e;rwa [bT p,bT e] at this
def bwL{u n:Int}{l:List Int}(h:lZ l n):L (fg w u l)<=L w.ac:=by have b:=byQ h;unfold fg bqV;rw[List.take_length];have key:∀m,L (l.flatMap λn=>fw (lm w u n) m)<=m:=(by intro m;induction m with|zero=>have:=jo (f:=λn=>fw (lm w u n) 0) (m:=0) (l:=l) λx _=>(by simp[fw]);omega|succ m e=>have:=bu7 (P:=lm w u) (m:=m) (K:=gd w.init.count u.toNat+(lU w.ac u m:Int)) (λn a=>by simp[lm] at a;omega) l b;split at this<;>omega);exact key _
def bzc(c u:Int):L (mR w c u)<=L w.init.bW.ay+L (fw (λi=>Q<|(gd w.ac i).kind=16)<|L w.ac):=by have a:=qX (vf w c u)<|L w.init.bW.ay;have b:=bus (p:=wV w c u) (q:=λi=>Q<|(gd w.ac i).kind=16) (k:=L w.ac) λi _ h=>(by simp[wV] at h;simp[h]);simp only[mR,iH,a6G,bJ];omega
def bzd:∀N,N<=16->∀W,W<=16->N+W<=16->N*(4+W)<=100:=by decide
def bxy(j:L w.ac<=16)(g:L w.init.bW.ay<=4):L (jp w<|L w.ac)<=100:=by have b:=bto (f:=pR w) (p:=λa=>pN<|gd w.ac a) (c:=4+L (fw (λi=>Q<|(gd w.ac i).kind=16)<|L w.ac)) (k:=L w.ac) λa _=>(by unfold pR;split;have:=bzc (w:=w) (gd w.ac a).bF (gd w.ac a).aq;simp;omega;simp);have e:=but (p:=λa=>pN<|gd w.ac a) (q:=λi=>Q<|(gd w.ac i).kind=16) (k:=L w.ac) λi _ h=>(by simp[pN] at h⊢;omega);generalize fw (λi=>Q<|(gd w.ac i).kind=16) (L w.ac)=W at*;generalize fw (λa=>pN<|gd w.ac a) (L w.ac)=N at*;have:=bzd (L N) (by omega) (L W) (by omega) (by omega);unfold jp;omega
def bxU(q:Int):L (dx w q)<=1+L (fw (λi=>Q ((gd w.ac i).kind=4)||Q ((gd w.ac i).kind=22))<|L w.ac):=by have a:=bus (p:=mr w q) (q:=λi=>Q ((gd w.ac i).kind=4)||Q ((gd w.ac i).kind=22)) (k:=L w.ac) λi _ h=>(by simp only[mr,aTG,bN,fH,I8] at h⊢;omega);unfold dx;cases dh q (L w.ac)&&fR (gd w.ac q.toNat) with|false=>simp|true=>simp only[a7g,a6G];cases oM w (gd w.ac q.toNat)<;>simp only[a7g,a5C,bZ,aO1]<;>omega
def byT:∀R,R<=16->∀W,W<=16->R+W<=16->R*(2+(1+W)*(18+W))<=1904:=by decide
variable{ns:List aH8}
def bx8(O:L w.ac<=16)(v:∀k,k<L w.ac->L (fg w (gd w.ac k).aq (gd w.ac k).dI)<=16/\L (fg w (gd w.ac k).aq (gd w.ac k).ep)<=16)(B:∀r:Nat,∀s∈dx w r,0<=s->s<L w.ac):L (rJ ns w)<=2160:=by have G:=but (p:=λa=>fR<|gd w.ac a) (q:=λi=>Q ((gd w.ac i).kind=4)||Q ((gd w.ac i).kind=22)) (k:=L w.ac) λi _ h=>(by simp[fR] at h⊢;omega);have u:=bxU (w:=w);generalize A:fw (λi=>Q ((gd w.ac i).kind=4)||Q ((gd w.ac i).kind=22)) (L w.ac)=W at*;have F:=bto (f:=gW ns w) (p:=λa=>fR<|gd w.ac a) (c:=2+(1+L W)*(18+L W)) (k:=L w.ac) λr M=>(by unfold gW;split;have e:=jo (f:=λj=>iP ns w r<|gd (dx w r) j) (m:=18+L W) (l:=aH<|L<|dx w r) λj D=>(by have E:=ve<|fq.1 D;generalize gd (dx w r) j=s at*;have o:=bto (f:=bpl ns w r s) (p:=λi=>Q ((gd w.ac i).kind=4)||Q ((gd w.ac i).kind=22)) (c:=1) (k:=L w.ac) λx P=>(by unfold bpl;split;simp;rename_i b;have t:aTG (gd w.ac x) (gd w.ac r)=U:=(by simp only[not_or,Bool.not_eq_false] at b;exact b.2);have z:(Q ((gd w.ac x).kind=4)||Q ((gd w.ac x).kind=22))=U:=(by simp only[aTG,bN,fH,I8] at t⊢;omega);rw[lD z];split<;>simp);rw[A] at o;have H:L (kD ns w r s)<=18:=(by unfold kD;split;have K:=(v s.toNat (by have:=B r s E (by assumption);omega)).2;have g:=jo (f:=pD ns r s<|fg w (gd w.ac s.toNat).aq (gd w.ac s.toNat).ep) (m:=1) (l:=aH<|L<|fg w (gd w.ac s.toNat).aq (gd w.ac s.toNat).ep) λ_ _=>(by simp[pD]);simp only[bnJ] at g;simp only[a6G,bZ,aO1];omega;simp);unfold iP;rw[a6G];omega);have b:=u r;simp only[bnJ] at e;have t:L (dx w r)*(18+L W)<=(1+L W)*(18+L W):=Nat.mul_le_mul_right _ b;simp only[a6G,bZ,aO1];omega;simp);have e:=jo (f:=kX ns w) (m:=16) (l:=aH<|L w.ac) λi C=>(by have o:=(v i<|fq.1 C).1;have b:=jo (f:=qv ns i<|fg w (gd w.ac i).aq (gd w.ac i).dI) (m:=1) (l:=aH<|L<|fg w (gd w.ac i).aq (gd w.ac i).dI) λ_ _=>(by simp[qv]);simp only[bnJ] at b;unfold kX;omega);simp only[bnJ] at e;have:=byT (L<|fw (λa=>fR<|gd w.ac a)<|L w.ac) (by omega) (L W) (by omega) (by omega);unfold rJ;rw[a6G];omega
def bya(g:L w.ac<=16):L (bqD ns w)<=320:=by have a:=jo (f:=jy ns<|L w.ac) (m:=16) (l:=aH<|L w.ac) λx _=>(by have:=jo (f:=my ns x) (m:=1) (l:=aH<|L w.ac) λy _=>(by unfold my;split<;>simp);simp only[bnJ] at this;unfold jy;omega);have b:=jo (f:=kY ns w) (m:=2) (l:=aH<|L w.ac) λx _=>(by unfold kY;split<;>simp);have e:=jo (f:=mA ns w) (m:=2) (l:=aH<|L w.ac) λx _=>(by unfold mA;split<;>simp);simp only[bnJ] at a b e;simp only[bqD,a6G];omega
def bxZ{l:List aH8}(a:L l<=100)(r:L w.ac<=16):L (sN ns w l)<=22016:=by have b:=jo (f:=λk=>iW ns<|gd l k) (m:=3) (l:=aH<|L l) λk _=>(by unfold iW;split<;>simp);have o:=bxw (f:=lP ns l) (k:=L l) (c:=1) λi h=>(by have:=jo (f:=λj=>ju ns (gd l i)<|gd (l.drop<|i+1) j) (m:=1) (l:=aH<|L<|l.drop<|i+1) λj _=>(by unfold ju;split<;>simp);simp only[bnJ,oz] at this;unfold lP;simp only[oz];omega);have p:=bxw (f:=lQ ns w l) (k:=L l) (c:=1) λi h=>(by have:=jo (f:=λj=>jk ns w (gd l i)<|gd (l.drop<|i+1) j) (m:=1) (l:=aH<|L<|l.drop<|i+1) λj _=>(by unfold jk;split<;>simp);simp only[bnJ,oz] at this;unfold lQ;simp only[oz];omega);have e:=jo (f:=λk=>nT ns w l<|gd l k) (m:=101) (l:=aH<|L l) λk _=>(by have:=jo (f:=brU ns w l<|gd l k) (m:=1) (l:=aH<|L<|l.filter<|eZ<|gd l k) λj _=>(by simp[brU]);have hf:=fZ (eZ<|gd l k) l;simp only[bnJ] at this;unfold nT;rw[bZ];omega);have g:=jo (f:=ng ns w l) (m:=101) (l:=aH<|L w.ac) λk _=>(by unfold ng;split;have:=jo (f:=iO ns k (bh0 w k).1 l) (m:=1) (l:=aH<|L l) λj _=>(by unfold iO;split<;>simp);simp only[bnJ] at this;rw[bZ];omega;simp);simp only[bnJ] at b e g;have q:L l*L l<=100*100:=Nat.mul_le_mul a a;simp only[sN,a6G];omega
def bw3{m:Nat}:∀{k:Nat},L (fw (λj=>Q<|m<=j) k)<=k-m
 |0=>by simp[fw]
 |k+1=>by
  have a:=bw3 (m:=m) (k:=k)
  rw[yK,a6G]
  by_cases h:m<=k
  ·simp[h];omega
  ·simp[h];omega
def bx9{S:List bp}{h:Nat}(A:L S<=h+16)(z:h<=20)(o:∀i,i<h->i<L S->(gd S i).dD<0):L (rL ns S)<=1600:=by have s:∀i,i<L S->L (mw ns S i)<=if i<h then 32 else 60:=(by intro i t;have e:∀j,gd (S.drop<|i+1) j=gd S (i+1+j):=λj=>(by unfold gd;simp[eI,mf]);split;rename_i q;have C:=o i q t;have a:=bto (f:=λj=>iA ns (gd S i)<|gd (S.drop<|i+1) j) (p:=λj=>Q<|h-(i+1)<=j) (c:=2) (k:=L<|S.drop<|i+1) λj u=>(by simp only[oz] at u;rw[e];unfold iA;split;simp;rename_i r;simp only[not_or] at r;have g:¬i+1+j<h:=λg=>r.2.2 (o _ g<|by omega);rw[lD<|by simp;omega];simp);have b:=bw3 (m:=h-(i+1)) (k:=L<|S.drop<|i+1);simp only[oz] at a b;unfold mw;simp only[oz];omega;(focus have a:=jo (f:=λj=>iA ns (gd S i)<|gd (S.drop<|i+1) j) (m:=4) (l:=aH<|L<|S.drop<|i+1) λj _=>(by unfold iA jI;(repeat' split);all_goals simp);simp only[bnJ,oz] at a;unfold mw;simp only[oz];omega));have key:∀m,m<=L S->L ((aH m).flatMap<|mw ns S)<=(if m<h then m*32 else h*32+(m-h)*60):=(by intro m;induction m with|zero=>intro _;simp|succ m v=>intro B;have a:=v (by omega);have b:=s m (by omega);rw[qn,GC,a6G];simp only[Cz,RN,cL];split at b<;>split at a<;>split<;>omega);have:=key (L S)<|dA _;unfold rL;split at this<;>omega
def byO(j:L w.ac<=16)(i:L w.init.bW.ay<=4):L (cw w)<=1024:=by have e:=jo (f:=λa=>nB a<|L w.ac) (m:=16) (l:=aH<|L w.ac) λa _=>(by have:=fZ (λb:Nat=>Q<|(a:Int)≠(b:Int))<|aH<|L w.ac;simp only[bnJ] at this;unfold nB;rw[bJ];omega);have g:=fZ (λa=>fR<|gd w.ac a)<|aH<|L w.ac;have h:=jo (f:=λa:Nat=>(dx w a).map λb=>(⟨4,(a:Int),b⟩:aH8)) (m:=17) (l:=aH<|L w.ac) λa _=>(by have:=vU w a;rw[bJ];omega);have k:=bxy j i;simp only[bnJ] at e g h;simp only[cw,lr,mK,kh,ki,a6G,bJ,bnJ];omega
end
def bxX{w:am}{ns:List aH8}(hf:hU w)(hv:bcV w=U){Lw:Nat}(G:Lw<=L w.aQ.ak):L (pE ns w Lw)<=1600:=by have g:=vd hf hv;obtain⟨v,A,B,o,t⟩:=Bx hv;obtain⟨fc,fl,C,s⟩:=iY o;have a:=jo (f:=bqI w.aQ w.init.bW (Lw:Int)) (m:=5) (l:=aH<|L w.init.bW.ay) λu _=>(by unfold bqI;split;split<;>simp;have z:L (gd w.init.bW.ak (Lw:Int).toNat).bk<=4:=(by have a:=(Bq hv 0<|mh _).rd _ (ii (l:=(cY w 0).bW.ak) (i:=(Lw:Int))<|by rw[show(cY w 0).bW=w.init.bW from rfl,fl];exact⟨by omega,by omega⟩);exact Nat.le_trans (AC a.1 a.2) g.th);have k:L (pJ w.init.bW Lw u)<=1:=(by unfold pJ;split<;>simp);have p:L (pK w.init.bW Lw u<|L (gd w.init.bW.ak (Lw:Int).toNat).bk)<=L (gd w.init.bW.ak (Lw:Int).toNat).bk:=Ln;rw[a6G];omega);have k:=jo (f:=λi=>oY w.aQ Lw (gd w.ac i) i) (m:=1) (l:=aH<|L w.ac) λu _=>(by unfold oY;split<;>simp);simp only[bnJ] at a k;have p:=g.th;have D:=g.wo.ev;have e:L (jE w.aQ w.init.bW w.ac Lw)=L (nu w.aQ w.init.bW Lw)+L (oF w.aQ Lw w.ac<|L w.ac):=(by rw[Q5,bJ,a6G]);have q:L (nu w.aQ w.init.bW Lw)<=20:=(by unfold nu;omega);have E:L (oF w.aQ Lw w.ac<|L w.ac)<=16:=(by unfold oF;omega);unfold pE;refine bx9 (h:=L<|nu w.aQ w.init.bW Lw) (by omega) q λi j b=>?_;have r:gd (jE w.aQ w.init.bW w.ac Lw) i=gk (gZ w.aQ Lw) w.ac (L w.ac) (gd (nu w.aQ w.init.bW Lw) i):=(by rw[Q5] at b⊢;rw[bT b,bT j,List.getElem_map,List.getElem_append_left j]);rw[r];obtain⟨u,_,_,F,_⟩:=uu<|ve j;show(gd (nu w.aQ w.init.bW Lw) i).dD<0;omega
def bxY{w:am}{ns:List aH8}(hf:hU w)(hv:bcV w=U)(b:L w.aQ.ak<=4):L (oH ns w)<=8000:=by have h:=jo (f:=pE ns w) (m:=1600) (l:=aH<|L w.aQ.ak+1) λLw a=>bxX hf hv (by have:=fq.1 a;omega);simp only[bnJ] at h;unfold oH;omega
def bt6{w:am}{ns:List aH8}{x:Int}(a:L (fg w (gd w.ac x.toNat).aq (gd w.ac x.toNat).dI)<=16):0<L (jK ns w x)/\L (jK ns w x)<=18:=by have h:=jo (f:=pC ns<|fg w (gd w.ac x.toNat).aq (gd w.ac x.toNat).dI) (m:=1) (l:=aH<|L<|fg w (gd w.ac x.toNat).aq (gd w.ac x.toNat).dI) λ_ _=>(by simp[pC]);simp only[bnJ] at h;unfold jK jc;simp only[a6G,bZ];split<;>simp only[bZ,aO1]<;>omega
def bxW{w:am}{ns:List aH8}{g:cJ}(i:∀x:Int,aF (L w.ac) x->L (fg w (gd w.ac x.toNat).aq (gd w.ac x.toNat).dI)<=16)(u:L w.ac<=16)(s:L (aR ns 5)<=100)(G:bxT w g)(t:g.kind=1\/(g.kind=2/\0<L g.cW)\/g.kind=3\/g.kind=4):0<L (jx ns w g)/\L (jx ns w g)<=120:=by unfold jx;split;rename_i h;have a:=bt6 (ns:=ns)<|i _ (G.h1 h).1;have b:=bt6 (ns:=ns)<|i _ (G.h1 h).2;rw[a6G];omega;split;rename_i a h;have o:∀e,0<L (bqS ns w e)/\L (bqS ns w e)<=3:=λe=>(by unfold bqS jc;simp only[a6G,bZ];split<;>split<;>simp);have b:=jo (f:=λk=>bqS ns w<|gd g.cW k) (m:=3) (l:=aH<|L g.cW) λk _=>(o _).2;simp only[bnJ] at b;have p:=(G.h2 h).2;refine⟨?_,by omega⟩;have r:0<L g.cW:=(by omega);obtain⟨m,q⟩:∃m,L g.cW=m+1:=⟨L g.cW-1,by omega⟩;rw[q,qn,GC,a6G];have:=(o<|gd g.cW m).1;simp only[Cz,RN,cL];omega;split;have a:=jo (f:=jJ ns g.eb) (m:=1) (l:=aH<|L w.ac) λk _=>(by unfold jJ;split<;>simp);have b:=jo (f:=λj=>kF ns g.ea<|gd (aR ns 5) j) (m:=1) (l:=aH<|L<|aR ns 5) λk _=>(by unfold kF;split<;>simp);simp only[bnJ] at a b;simp only[a6G,bZ,aO1];omega;split;rename_i h;have a:=bt6 (ns:=ns)<|i _ (G.h4 h).2.1;simp only[a6G,bZ,aO1];omega;omega
structure FOK(f:br6):Prop where
 i0:0<=f.ints/\f.ints<=32
 b0:0<=f.bools/\f.bools<=1024
 cl:L f.ug<=32768
 al:(L f.lL:Int)<=f.bools
 ats:∀d∈f.lL,(0<=d.x/\d.x<f.ints)/\(0<=d.y/\d.y<f.ints)/\d.x≠d.y/\d.k= -1
 li:∀c∈f.ug,∀x∈c,x≠0/\ -f.bools<=x/\x<=f.bools
def byL{n:Nat}{x:aH8}(h:x∈lr n n):aF n x.a/\aF n x.b/\x.a≠x.b:=by simp only[lr,nB,iI,fq,dN,jW,I8] at h;obtain⟨i,f,j,⟨g,e⟩,rfl⟩:=h;exact⟨dJ f,dJ g,e⟩
def byA{w:am}{x:aH8}(h:x∈aR (cw w) 1):aF (L w.ac) x.a/\aF (L w.ac) x.b/\x.a≠x.b:=by obtain⟨f,e⟩:=jW.1 h;have e:=asq e;simp only[cw,dF] at f;rcases f with(((h|h)|h)|h)|h;exact byL h;simp only[mK,dN] at h;obtain⟨a,_,rfl⟩:=h;cases e;simp only[kh,dN] at h;obtain⟨a,_,rfl⟩:=h;cases e;simp only[ki,iI,dN] at h;obtain⟨a,_,b,_,rfl⟩:=h;cases e;simp only[jp,pR,iI] at h;obtain⟨a,_,h⟩:=h;split at h;obtain⟨b,_,rfl⟩:=dN.1 h;cases e;cases h
section
variable{w:am}(hf:hU w)(hv:bcV w=U)
include hf hv
def bxz:∀k,k<L w.ac->∀u,L (fg w u (gd w.ac k).dI)<=L w.ac/\L (fg w u (gd w.ac k).ep)<=L w.ac:=λk b u=>by
 have a:=((anT hf hv).wo.wo.en k b).2
 simp only[be3,bip,eH,cP,fK,I8] at a
 obtain⟨_,_,_,_,⟨e,f⟩,_⟩:=a
 exact⟨bwL e,bwL f⟩
def bux:jb w (cw w)/\tP w/\sE w (cw w)/\GU w (cw w)/\L w.ac<=16/\L (cw w)<=1024/\L (aR (cw w) 5)<=100/\L w.aQ.ak<=4/\LVs (L<|cw w) (brQ (cw w) w)/\L (brQ (cw w) w)<=32496:=by have o:=anT hf hv;have p:=vd hf hv;obtain⟨b,v,z,h,u⟩:=Bx hv;have a:=p.wo.ev;obtain⟨j,_⟩:=aQA hv;obtain⟨f,_⟩:=tC j;have e:=f.sy.th;have b:L w.aQ.ak<=4:=(iY h).2.1▸f.sy.lo;have t:=byO a e;have N:=anG (w:=w) (by omega);have R:=an6 o hf;have K:=Rq a e;have S:=aId a;have g:L (aR (cw w) 5)<=100:=(by rw[Qf];exact bxy a e);refine⟨N,R,K,S,a,t,g,b,?_,?_⟩;unfold brQ;exact .app (.app (.app (byI N)<|byF N λLw E=>anV hf hv ⟨by omega,by omega⟩)<|byG N K)<|byH N R S;have A:=bya (ns:=cw w) a;have B:=bxY (ns:=cw w) hf hv b;have C:=bxZ (ns:=cw w) (w:=w) g a;have D:=bx8 (ns:=cw w) a (λk q=>by have:=bxz hf hv k q (gd w.ac k).aq;omega) λr s hs i=>(S.ok r s hs i).1.2;simp only[brQ,a6G];omega
end
def bve{w:am}(hf:hU w)(hv:bcV w=U){cl:List (List Int)}(h:LVs (L<|cw w) cl)(j:L cl<=32768):FOK ⟨L w.ac,L<|cw w,lL<|cw w,cl⟩:=by obtain⟨_,_,_,_,k,o,_⟩:=bux hf hv;refine⟨⟨by simp only;omega,by simp only;omega⟩,⟨by simp only;omega,by simp only;omega⟩,j,?_,?_,λc g x a=>h c g x a⟩;have:=fZ (λx:aH8=>Q<|x.kind=1)<|cw w;simp only[lL,bJ,aR];omega;intro d i;obtain⟨x,a,rfl⟩:=dN.1 i;obtain⟨b,e,f⟩:=byA a;exact⟨b,e,f,rfl⟩
def bxF{w:am}(hf:hU w)(hv:bcV w=U):FOK ⟨L w.ac,L<|cw w,lL<|cw w,brQ (cw w) w⟩:=by obtain⟨_,_,_,_,_,_,_,_,a,b⟩:=bux hf hv;exact bve hf hv a (by omega)
def byk{w:am}(hf:hU w)(hv:bcV w=U){g:cJ}(G:bxT w g)(i:g.kind=1\/(g.kind=2/\0<L g.cW)\/g.kind=3\/g.kind=4):FOK ⟨L w.ac,L<|cw w,lL<|cw w,brQ (cw w) w++jx (cw w) w g⟩/\0<L (jx (cw w) w g):=by obtain⟨N,R,K,S,h,o,f,j,b,k⟩:=bux hf hv;have e:=bxW (ns:=cw w) (g:=g) (λx a=>by have:=(bxz hf hv x.toNat (by have:=a.1;have:=a.2;omega) (gd w.ac x.toNat).aq).1;omega) h f G i;exact⟨bve hf hv (.app b<|byE N R K G) (by rw[a6G];omega),e.1⟩
def bul(f:br6)(B:FOK f/\∀c∈f.ug,L c<4611686018427387904):Ct 15 [.a f.c] (·=iv 0):=by refine bza rfl λx A o N=>?_;obtain⟨⟨⟨W,X⟩,⟨g0,g1⟩,P,O,r,w⟩,u⟩:=B;simp+contextual only[buL,u0,u1,o,rk,ix,aj,dc,↓uL];refine⟨λh=>?_,λ_=>⟨λh=>?_,λ_=>?_⟩⟩;simp only[fH,I8] at h;omega;simp only[fH,I8] at h;omega;refine yV (L f.lL) (λk _ Y'=>Fx x Y' []) (Fx.refl _ _) ?_;rintro k _ Y T F;have g:=F.kq o;simp+contextual only[qz 55,qy 4,au,aI,u0,u1,g,ix,rk,cT,aj,dc,bh,↓uL];refine⟨λh=>⟨u7 h,?_⟩,λh=>?_⟩;have b:=aL h;obtain⟨G,H,K,M⟩:=r _<|ve b;generalize gd f.lL k=d at*;refine anu (F.len.trans A) λv C n E z=>?_;have y:Fx x C []:=F.trans n;have p:=n.kq g;simp+contextual only[qz 6,au,u0,u1,z,p,rk,aj,dc,↓uL];refine⟨λe=>?_,λ_=>⟨λe=>?_,λ_=>yU b y⟩⟩;simp only[fH,I8] at e;omega;simp only[fH,I8] at e;omega;refine bhZ (L f.ug) (λ_=>True) trivial λj S _=>?_;simp+contextual only[qz 127,au,aI,u0,u1,g,ix,rk,iF,cl,cT,aj,dc,bh,↓uL];refine⟨λe=>⟨u7 e,?_⟩,λ_=>trivial⟩;have b:=aL e;have s:=w _<|ve b;have t:=u _<|ve b;generalize gd f.ug j=c at*;refine bhZ (L c) (λ_=>True) trivial λi R _=>?_;have m:cR .neg (iv f.bools)=V (iv<|-f.bools):=(by rw[aEn,eM (by omega)<|by omega]);simp only[qz 163,au,aI,u0,u1,g,ix,rk,iF,cl,cT,aj,dc,bh,↓uL];refine⟨λq=>⟨u7 q,?_⟩,λ_=>gS b (by omega) trivial⟩;have l:=aL q;obtain⟨D,x2,Z⟩:=s _<|ve l;simp only[bio D,bio (show¬gd c i< -f.bools by omega),bio (show¬f.bools<gd c i by omega),m,Bool.or_false,kN,jA,qE,aY,u0,u1,g,rk,aj,dc,uO,a5C,↓uL];exact⟨λh=>(nomatch h),λ_=>gS l t trivial⟩
def buE:FT:=mT bul
def byc{f Lw K}:=oK buE bul f Lw K
def bxa:dO:=(15,buE)::buv
def by8:eJ bxa:=sz (pg bul)<|bw9
def bsZ:=ai @byc<|@byh
def bu2:=I5 16 []
def buM a a1 b R:=(.mk _:NR bxa bu2 Tryz.f5 [.u,a1] [a] b R).p
def bzb{c0:List AV}{a1:AV}{R:cC}(l0:L c0=5)(h:H1 24 5 2 c0 λia b=>buM ia a1 b R):Ct 5 [.a c0,a1] R:=z1 bu2 by8 Tryz.func5 l0 h
def bwQ{ds:List AV}{f:br6}(h:Lk ds f.c):∃t o u o',ds=[iv f.ints,iv f.bools, .l (f.lL.map bqR.c) t o, .l (f.ug.map cl) u o']:=by obtain⟨g,i⟩:=h;rcases ds with _|⟨a,_|⟨b,_|⟨c,_|⟨d,_|⟨e,l⟩⟩⟩⟩⟩<;>simp only[br6.c,List.map_cons,List.map_nil,List.cons.injEq,reduceCtorEq,and_false,aNU] at g;obtain⟨j,k,m,n⟩:=g;simp only[List.all_cons,List.all_nil,Bool.and_true,bN] at i;obtain⟨p,q,r,s⟩:=i;(cases a<;>simp[gK,nj,sl] at j p);(cases b<;>simp[gK,nj,sl] at k q);(cases c<;>simp[gK,nj,sl] at m r);(cases d<;>simp[gK,nj,sl] at n s);subst j k m n;exact⟨_,_,_,_,rfl⟩
def slH{l:List (List Int)}{t o:Bool}{n:Nat}{Y:ae}(h:n<=L l):∃b,fo 1 Y (.l (l.map cl) t o) J (V<|iv n) J=V (.l ((l.take n).map cl) b o):=by have a:∀r∈l.map cl,1=L r:=λr a=>(by obtain⟨y,_,rfl⟩:=dN.1 a;rfl);refine⟨t&&n==L (l.map cl),?_⟩;simp only[fo,lM,qY,Option.getD_none,Option.getD_some,bh,Nat.sub_zero,J3];rw[lD<|show(0:Int)<=(n:Int) by omega];simp only[];rw[lD ⟨mh _,by simpa using h,a⟩];simp
def byz(v:aOA)(n:Int)(hp:aSr v/\0<=n/\n<256):Ct 5 [.a v.cs,u8v n] (·=bv U):=by
 obtain⟨hv,Z,aK⟩:=hp
 refine bzb rfl λs2 W b1 h0=>?_
 have r5:aN (V 5) v.cs=V (.a v.cs):=rfl
 simp only[buM,qy 4,u0,u1,b1,r5,J3,jM,kU,jt,baj,ar,bsZ,↓uL]
 refine⟨⟨hv,by decide,by decide⟩,?_⟩
 rintro _ ⟨w,rfl,q,p,aE⟩
 refine⟨.inl (by simp[nA,eB,iR,aOA.cs,sl]),?_⟩
 refine anu W λv5 s6 F6 N6 E=>?_
 obtain⟨e,aL,aF,s,R⟩:=bvr q p
 have u:=F6.len.trans W
 simp only[qz 6,qy 8,u0,u1,E,aYl,J3,jM,kU,jt,sH,ar,bsZ,q,p,aOe,vp,↓uL]
 refine⟨e.wv.ok,?_⟩
 rintro _ ⟨f,rfl,hG,aI⟩
 have ad:∀{Y:ae},fS Y (sl cJ.c f)=V (iv<|L f):=cT
 have ez:dq.wrap n=n:=eM (by omega) (by omega)
 have r6:∀{g:cJ},aN (V 6) g.c=V (.a g.c):=λ{g}=>rfl
 refine⟨.inl rfl,?_⟩
 rintro r3 ⟨d3,rfl,y⟩
 refine⟨.inl rfl,?_⟩
 have BF:=bxF p q
 obtain⟨t1,o1,t2,o2,rfl⟩:=bwQ y
 refine anu u λv7 s8 C N8 H=>?_
 have F:=C.kq E
 have X:=C.len.trans u
 have r:∀{a b c d:AV},aN (V 4) [a,b,c,d]=V (.a [a,b,c,d]):=λ{a b c d}=>rfl
 simp only[qz 10,qy 12,u0,u1,H,F,r,aYl,J3,jM,kU,jt,y.arg,bsZ,↓uL]
 refine⟨⟨BF,s⟩, .inl rfl,?_⟩
 simp only[ad,aY,u0,u1,aS6,ez,↓uL]
 refine⟨λh=>by simp at h,λ_=>⟨λ_=>⟨.inr rfl,trivial⟩,λh=>?_⟩⟩
 have aD:0<L f:=by have:=bst h;omega
 have aa:=Int.tmod_nonneg (L f:Int) Z
 have ab:=Int.tmod_lt_of_pos n (show(0:Int)<L f by omega)
 simp only[aPR,aP1,ix,r6,aY,u0,u1,↓uL]
 have hm:=hG _ (ve<|show(n.tmod (L f:Int)).toNat<L f by omega)
 refine⟨by omega,⟨aa,ab⟩,?_⟩
 generalize gd f (n.tmod (L f:Int)).toNat=g at*
 obtain⟨i,aG⟩:=hm
 simp only[aC6,r6,aY,sH,Kl,jM,ar,bsZ,q,p,i,aOe,vp,↓uL]
 rintro r9 ⟨d9,rfl,k9⟩
 refine⟨.inl rfl,?_⟩
 have G:=Lj i
 have hk:g.kind=1\/(g.kind=2/\0<L g.cW)\/g.kind=3\/g.kind=4:=by
  unfold qC at i
  by_cases m:g.kind=2
  ·have:=(G.h2 m).2
   exact .inr (.inl ⟨m,by
    rw[bpL m,a7g] at i
    simp only[qx,rO,bN,eH,cP,apT] at i
    omega⟩)
  ·rw[bio m,a5C] at i
   simp only[bN] at i
   have:=i.2
   by_cases M:g.kind=1
   ·exact .inl M
   by_cases N:g.kind=3
   ·exact .inr (.inr<|.inl N)
   by_cases O:g.kind=4
   ·exact .inr (.inr<|.inr O)
   simp[M,N,O] at this
 obtain⟨GF,aJ⟩:=byk p q G hk
 have P:=yp.app (awa (ns:=cw w) (w:=w) e.l5 e.wv.ok.ev)<|awb (w:=w) (g:=g) e.l5
 have S:∀c∈brQ (cw w) w++jx (cw w) w g,L c<4611686018427387904:=λc h=>by have:=P c h;omega
 obtain⟨t3,o3,t4,o4,rfl⟩:=bwQ k9
 refine anu X λv9 ah A aC j=>?_
 have k:=A.kq H
 simp only[qz 14,↓uL]
 refine dT (by simp[eL,okT,tok,lb,cq,Qh,m8,dC,dK,sl,am.c,cJ.c]) ?_
 simp only[u0,u1,j,k,r,J3,jM,kU,jt,k9.arg,bsZ,↓uL]
 refine⟨⟨GF,S⟩, .inl rfl,?_⟩
 simp only[bio (show¬(0:Int)≠0 by simp),kN,jA,qE,aY,u0,u1,j,k,r,rk,aj,List.drop_succ_cons,J3,uO,a5C,cT,↓uL]
 have z:∀{x:AV},aN J [x]=V x:=λ{x}=>rfl
 have af:∀{Y:ae} {bA:List (List AV)} {t o:Bool},fS Y (.l bA t o)=V (iv<|L bA):=λ{_ _ _ _}=>rfl
 have e1:∀{c:List (List Int)},(vZ w c).ug=c:=rfl
 simp only[z,af,aY,u0,u1,bJ,e1,↓uL]
 refine⟨λh=>?_,λ_=>?_⟩
 ·have:=asq h
  rw[a6G] at this;omega
 obtain⟨t5,T⟩:=slH (l:=brQ (cw w) w++jx (cw w) w g) (t:=t4) (o:=o4) (n:=L<|brQ (cw w) w) (Y:=ah) (by rw[a6G];omega)
 rw[List.take_left] at T
 rw[T,aY]
 refine A0 j rfl (by simp) λaM B D=>?_
 have K:=B.kq k
 have ka:Lk [iv (vZ w<|brQ (cw w) w++jx (cw w) w g).ints,iv (vZ w<|brQ (cw w) w++jx (cw w) w g).bools, .l ((vZ w<|brQ (cw w) w++jx (cw w) w g).lL.map bqR.c) t3 o3, .l ((brQ (cw w) w).map cl) t5 o4] (vZ w<|brQ (cw w) w).c:=⟨rfl,rfl⟩
 simp only[qz 16,u0,u1,D,K,List.set_cons_succ,List.set_cons_zero,J3,r,aY,↓uL]
 simp only[jM,kU,jt,ka.arg,y.arg,bsZ,u0,u1,↓uL]
 exact⟨⟨trivial,R,by show L (brQ (cw w) w)<_;omega,s⟩, .inl rfl,λ_=> .inr rfl,trivial⟩
end Go.Ab
