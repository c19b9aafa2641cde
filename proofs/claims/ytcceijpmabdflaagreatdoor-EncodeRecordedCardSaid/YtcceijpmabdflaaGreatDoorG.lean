/- Part of the proof of EncodeRecorded. -/
import Derived.Test.YtcceijpmabdflaaGreatDoorF
set_option linter.all false
set_option maxRecDepth 100000
open And renaming intro->ai
open Bool renaming and_eq_true->bN,false->I,not_false->kN,true->U
open Decidable renaming decide->Q
open Int renaming toNat_natCast->bh
open List renaming drop_zero->J3,ext_getElem->biF,flatMap_cons->Cz,getElem?_eq_getElem->eC,getElem?_map->bj9,getElem_map->bt5,getElem_range->RS,length->L,length_replicate->oA,map_append->dg,map_congr_left->ja,map_cons->ji,map_nil->mU,map_set->vB,mem_flatMap->iI,mem_map->dN,mem_range->fq,range->aH,replicate->er
open Nat renaming beq->aOU,le_antisymm->bP,reduceAdd->dc,zero_add->aj
open Option renaming bind_some->aQd,map_some->df,none->J,some->V
namespace Go.Ab
open Go Go.RowKit Go.Proofs
def rS{s:aW}{f:Bool×Bool×Bool×Bool×Bool×Bool}{a b c d e:AV}:aN (V 9) (eD s f++[a,b,c,d,e])=V (.a<|eD s f++[a,b,c,d,e])/\aN J ((eD s f++[a,b,c,d,e]).drop 4)=V a/\aN J ((eD s f++[a,b,c,d,e]).drop 5)=V b/\aN J ((eD s f++[a,b,c,d,e]).drop 7)=V d/\aN J ((eD s f++[a,b,c,d,e]).drop 8)=V e:=by exact⟨rfl,by cases a<;>rfl,by cases b<;>rfl,by cases d<;>rfl,by cases e<;>rfl⟩
def bmU{x:aB9}{v:Int}:(x.known&&Q (x.value=v))=Q (x=⟨v,U⟩):=by obtain⟨a,b⟩:=x;grind
structure StQ(y:ae)(v6 v9 v14:Nat)(e:aP)(n:List AV)(a6:AV)(o:List Int)(wr':aB9):Prop where
 hl:L y=4096
 b4:box y (4,1)=V ⟨103,9,U,U,[n]⟩
 b6:box y (6,v6)=V ⟨103,9,U,U,[bst]⟩
 b9:box y (9,v9)=V ⟨62,7,U,U,[e.c]⟩
 b14:box y (14,v14)=V ⟨235,2,U,U,[wr'.c]⟩
 g6:bc y 3 1 a6 (o.map ci)
 p6:∀q∈aA a6,q.1=64
theorem StQ.fx{y z:ae}{g d a:Nat}{e:aP}{n:List AV}{f:AV}{o:List Int}{b:aB9}{Lw:List Id}(S:StQ y g d a e n f o b)(F:Fx y z Lw)(i:∀q∈Lw,q.1=9\/q.1=13\/q.1=21\/q.1=25)(h:((9,d):Id)∉Lw):StQ z g d a e n f o b:=by have c:∀{q:Id},q.1≠9/\q.1≠13/\q.1≠21/\q.1≠25->q∉Lw:=(by grind);exact⟨F.len.trans S.hl,F.keep _ _ (c<|by simp) S.b4,F.keep _ _ (c<|by simp) S.b6,F.keep _ _ h S.b9,F.keep _ _ (c<|by simp) S.b14,S.g6.fx F λq j=>(by grind [StQ.p6]),S.p6⟩
def bjW(w:gz)(c:aNU)(o:BF)(hp:aC2 w/\CfI w c):Ct 110 [.a w.c, .a c.c, .a o.c] (·= .t [.a (bif aID w c o.aq then aN2 w c o else aQx).c,bv<|aID w c o.aq]):=by obtain⟨X,K⟩:=hp;obtain⟨q1,q2,q3,q4,q5⟩:=K.sz X.wo;have c8:=X.wo.wo.ev;refine aDq (bqc rfl rfl rfl λs6 hl b1 b2 b3 h0=>?_);simp only[bjn];refine ic hl λv6 s7 F7 N7 b6=>?_;have c1:=F7.kq b1;have c2:=F7.kq b2;have c3:=F7.kq b3;have bb:=F7.len.trans hl;simp+contextual only[qz 8,qy 10,qy 12,u0,u1,c1,c2,c3,r15,rk,oe,pz,ar,arm,bwX,ix,aj,X,X.wo,K,aOe];rcases cj:aID w c o.aq with _|_;have hz:bM bst aP0 []=V (.a bst):=rfl;simp only[kN,be8,Bool.true_eq_false,aQ6,aO5,hz,aY];refine stW b6 rfl rfl λs8 F8 b8=>?_;have r9:aN (V 9) bst=V (.a bst):=rfl;simp only[u0,u1,b8,r9];exact aOH (vs':=[.a aQx.c,bv I]) rfl rfl rfl;obtain⟨k,h1,h2,h3,h4,h5,h6⟩:=bjy cj;rw[h1];simp only[Bool.not_true,Bool.false_eq_true,aQ6,be8,GL];refine⟨dJ h2,?_⟩;have hA:L w.aQ.bC<4611686018427387904/\(∀l∈c.gp.ak,L l.bk<100000)/\L c.gp.ak<100000/\L c.gp.done<100000/\L c.gp.ay<100000:=(by grind [kB.co,vL.wo,aC2.wo]);have ca:bcF w o.aq (gd w.ac k).ep:=(by grind [aC2.dI]);have be:=(X.wo.wo.named h2).1;obtain⟨cg,ck⟩:L c.cells<1000/\L c.bU<1000:=(by have g1:=X.sn k h2;have g2:=(X.wo.wo.st k h2).2;have g3:=K.ce;have g4:=K.fu;grind [fN]);refine anu bb λv9 s8 F8 N8 W=>?_;rw[bh] at W;have d1:=F8.kq c1;have d2:=F8.kq c2;have d3:=F8.kq c3;have d6:=F8.kq b6;have bd:=F8.len.trans bb;simp only[qz 14,qy 16,u0,u1,d1,d2,d3,W,r15,rk,oe,pz,ar,arm,bwX,aj,X,K,ca,aOe];refine jH rfl (bo9 bd X K cg ck) ?_;rintro _ s9 ⟨M,N,a6,F,G,rfl,C⟩;refine⟨C.hl,?_⟩;have cl:=C.hl.trans bd;have e1:=C.kx.kq d1;have e2:=C.kx.kq d2;have e3:=C.kx.kq d3;have e6:=C.kx.kq d6;have e9:=C.kx.kq W;refine stW e2 rfl rfl λdi P f2=>?_;have de:∀{q:Id},q.1≠4->q∉[((4,1):Id)]:=(by grind);have f1:=P.kq e1;have f3:=P.kq e3;have f6:=P.kq e6;have f9:=P.kq e9;have aO:=P.len.trans cl;have cp:∀{x:List AV},aN (V 4) (c.gp.c++x)=V (.a c.gp.c):=λ{x}=>rfl;simp only[qz 18,qy 20,u0,u1,f1,f2,f3,f9,cp,rk,pz,ar,bwX,aj];refine⟨hA,?_⟩;have bm:jm w.aQ c.gp o.aq (gd w.ac k).kind (gd w.ac k).f8=U:=h5;rintro r ⟨f,rfl⟩;simp only[bm,bie];refine⟨.inl rfl,?_⟩;simp only[oJ,pG,KM,aY];generalize cc:cU w.aQ c.gp o.aq (gd w.ac k).kind (gd w.ac k).f8 o.amt=av;obtain⟨D,vl⟩:=av;refine anu aO λdl dj au c5 bI=>?_;have cq:aN (V 4) (eD D f)=V (.a<|eD D f):=rfl;have g2:=au.kq f2;have bo:=au.len.trans aO;simp only[qz 22,u0,u1,bI,g2,cq,aj];refine cy (y:=4) (cs:=eD D f) g2 rfl rfl (by simp) λal ba i2=>?_;have bf:box al (4,1)=V ⟨103,9,U,U,[eD D f++[M,N,a6,F,G]]⟩:=i2;have aP:=ba.len.trans bo;have r6:aN J ((eD D f++[M,N,a6,F,G]).drop 6)=V a6:=(by cases a6<;>rfl);have az:Fx s9 al [((4,1):Id)]:=(P.trans<|au.trans ba).mono (by simp);have G6:=C.g6.fx az λq O=>(by grind [bki.p6]);have cd:aX bH 1 al [(0,iv k)]=V (.l ([(k:Int)].map ci) U U,al):=iz;simp only[qz 24,qy 26,u0,u1,bf,r6,aj,cd];refine apQ G6.p aP fF fF (by simp) (by have:=K.ol;simp;omega) λE dk g6 aw P6=>?_;have cn:∀{q:Id},q.1≠17->q∉aA a6:=λh H=>h<|C.p6 _ H;have j2:=aw.keep _ _ (cn<|by simp) bf;have bp:=aw.len.trans aP;simp only[qz 28,u0,u1,j2,aj];refine A0 j2 g6.p.ce (by simp[eD]) λcr ax aC=>?_;have bi:box cr (4,1)=V ⟨103,9,U,U,[eD D f++[M,N,E,F,G]]⟩:=aC;have aR:=ax.len.trans bp;have cf:bM bxE bmK []=V (.a (aB9.mk 0 I).c):=rfl;simp only[qz 30,qy 32,cf,aY];refine anu aR λam aU ah c6 bK=>?_;have A:Fx s9 aU (((4,1):Id)::aA a6):=(az.trans<|aw.trans<|ax.trans ah).mono (by grind);have dh:∀{q:Id},q.1≠4->q.1≠17->q∉((4,1):Id)::aA a6:=(by grind);have p4:=C.p4;have p5:=C.p5;have p7:=C.p7;have p8:=C.p8;have H4:=C.g4.fx A (by grind);have H5:=C.g5.fx A (by grind);have H7:=C.g7.fx A (by grind);have H8:=C.g8.fx A (by grind);have n9:((9,v9):Id)∉aA M/\((9,v9):Id)∉aA N/\((9,v9):Id)∉aA F/\((9,v9):Id)∉aA G:=(by refine⟨λh=>?_,λh=>?_,λh=>?_,λh=>?_⟩<;>exact C.nw _ (by simp[h]) _ W);have B:StQ aU v6 v9 am (gd w.ac k) (eD D f++[M,N,E,F,G]) E (c.order++[(k:Int)]) ⟨0,I⟩:=⟨ah.len.trans aR,ah.kq bi,A.keep _ _ (by grind) e6,A.keep _ _ (by grind) e9,bK,by rw[dg];exact(g6.fx ax<|by grind).fx ah (by simp),λq O=>(P6 q O).2⟩;have bl:bM bxE bmK [(0,iv (gd w.ac k).value),(1,bv U)]=V (.a (aB9.mk (gd w.ac k).value U).c):=rfl;simp only[qz 34];refine bpD (λd=>∀z,StQ z v6 v9 am (gd w.ac k) (eD D f++[M,N,E,F,G]) E (c.order++[(k:Int)]) (aRD w c o.aq<|gd w.ac k)->bc z 235 2 M (c.cells.map aB9.c)->bc z 235 2 N (c.bU.map aB9.c)->bc z 4 1 F (c.fixed.map cb)->bc z 3 1 G (c.woke.map ci)->d [] z) ?_ λd hJ=>?_;intro z S R T Z I8;simp only[qz 75,aI];refine bpD (λd=>∀(z:ae) (ce fu:List aB9) (fx:List Bool) (wk:List Int) (bg:aB9),StQ z v6 v9 am (gd w.ac k) (eD D f++[M,N,E,F,G]) E (c.order++[(k:Int)]) bg->bc z 235 2 M (ce.map aB9.c)->bc z 235 2 N (fu.map aB9.c)->bc z 4 1 F (fx.map cb)->bc z 3 1 G (wk.map ci)->(⟨D,ce,fu,c.order++[(k:Int)],fx,wk⟩:aNU)=aN2 w c o->d [] z) ?_ λd u=>?_;intro z ce fu fx wk bg S R T Z I8 he;simp only[qz 87,qy 50,aI,u0,u1,S.b4,rS];refine stW S.b6 rfl rfl λz2 Fz bz=>?_;simp only[u0,u1,bz,rS];have nv:∀{q:Id},q.1≠6->q∉[((6,v6):Id)]:=(by grind);refine aOH (Q:=(·=AV.t [AV.a (aN2 w c o).c,bv U])) (vs':=[.a (aN2 w c o).c,bv U]) ?_ rfl rfl;rw[<-he];simp only[ji,mU,fzT,dg,aBr (R.fx Fz λq O=>nv<|by rw[p4 q O];decide).p,aBr (T.fx Fz λq O=>nv<|by rw[p5 q O];decide).p,aBr (S.g6.fx Fz<|by grind).p,aBr (Z.fx Fz λq O=>nv<|by rw[p7 q O];decide).p,aBr (I8.fx Fz λq O=>nv<|by rw[p8 q O];decide).p,aWt];simp[aNU.c,eD,sl,bcz,aWt];generalize st:aN2 w c o=xC at u⊢;simp only[aN2,h1,bh,cc] at st;have st:=st.symm;have kF:aF (L c.fixed) (k:Int):=dJ (by rw[K.fx];exact h2);have kW:aF (L c.woke) (k:Int):=dJ (by rw[K.wk];exact h2);have hb:∀{l:List Bool},∀r∈l.map cb,L r=1:=λ{l}=>qW (f:=cb) λ_=>rfl;have cC:(gd w.ac k).kind=3\/(gd w.ac k).kind=4->aF (L c.cells) (gd w.ac k).f8:=λh=>(by rw[K.ce];exact qP be (by omega)<|by omega);have cF:(gd w.ac k).kind=22\/(gd w.ac k).kind=23->aF (L c.bU) (gd w.ac k).f8:=λh=>(by rw[K.fu];exact oU be (by omega)<|by omega);have lv:∀{a:AV} {l:List aB9} {i:Int},bc z 235 2 a (l.map aB9.c)->aF (L l) i->∃b n,a= .m b n/\cz 2 z (.m b n) (iv i)=V (.p b i.toNat 0)/\∃x,box z b=V x/\x.bA[i.toNat]?=V (gd l i.toNat).c:=λ{a l i} g hi=>(by have h0:=hi.1;have h4:i.toNat<L l:=(by have:=hi.1;have:=hi.2;omega);rcases g with⟨e,_⟩|⟨b,rfl,hb⟩;have:=brR L e;simp at this;subst this;simp at h4;exact⟨b,_,rfl,by simp[cz,h0,hb,h4],_,hb,by simp[bT h4,h4]⟩);simp+contextual only[qz 89,qy 38,qy 40,qy 42,qy 44,qy 46,qy 48,u0,u1,S.b9,S.b4,S.b14,rS,rk,oe,aj];have aV:∀{b:Bool},(⟨D,c.cells,c.bU,c.order++[(k:Int)],c.fixed.set k b,c.woke⟩:aNU)=xC->rV (cz 1 z F<|iv k) λp=>sV (aK 1 z p<|bv b) λs=>d [] s:=λ{b} he=>(by refine gsG Z (by grind) hb rfl rfl rfl rfl rfl λp z' j G'=>?_;have no:∀{q:Id},q.1≠21->q∉aA F:=λh H=>h<|p7 _ H;exact u z' _ _ (c.fixed.set k b) _ _ (S.fx j (by grind) n9.2.2.1) (R.fx j<|by grind) (T.fx j<|by grind) (by rw[vB];exact G') (I8.fx j<|by grind) he);have aW:∀{b:Int},(⟨D,c.cells,c.bU,c.order++[(k:Int)],c.fixed,c.woke.set k b⟩:aNU)=xC->rV (cz 1 z G<|iv k) λp=>sV (aK 1 z p<|iv b) λs=>d [] s:=λ{b} he=>(by refine gsG I8 (by grind) fF rfl rfl rfl rfl rfl λp z' j G'=>?_;have no:∀{q:Id},q.1≠25->q∉aA G:=λh H=>h<|p8 _ H;exact u z' _ _ _ (c.woke.set k b) _ (S.fx j (by grind) n9.2.2.2) (R.fx j<|by grind) (T.fx j<|by grind) (Z.fx j<|by grind) (by rw[vB];exact G') he);refine⟨λh=>?_,λn3=>⟨λh=>?_,λdd=>⟨λh=>?_,λn4=>⟨λh=>?_,λdb=>⟨λh=>⟨λH=>aW ?_,λH=>?_⟩,λc9=>⟨λh=>aW ?_,λda=>?_⟩⟩⟩⟩⟩⟩;obtain⟨b,n,rfl,aL,x,hx,hr⟩:=lv R<|cC<|.inl<|aNR h;simp+contextual only[aL,u0,u1,hx,hr,S.b4,S.b9,rS,rk,oe,aj,bmU];refine aV ?_;rw[st];simp[aNR h];obtain⟨b,n,rfl,aL,x,hx,hr⟩:=lv T<|cF<|.inr<|aNR h;simp+contextual only[aL,u0,u1,hx,hr,S.b4,S.b9,rS,rk,oe,aj,bmU];refine aV ?_;rw[st];simp[aNR h];refine gsG R (by grind) a8d rfl rfl rfl rfl rfl λp z' j G'=>?_;have no:∀{q:Id},q.1≠9->q∉aA M:=λh H=>h<|p4 _ H;exact u z' (c.cells.set _ _) _ _ _ _ (S.fx j (by grind) n9.1) (by rw[vB];exact G') (T.fx j<|by grind) (Z.fx j<|by grind) (I8.fx j<|by grind) (by rw[st];simp[aNR h]);refine gsG T (by grind) a8d rfl rfl rfl rfl rfl λp z' j G'=>?_;have no:∀{q:Id},q.1≠13->q∉aA N:=λh H=>h<|p5 _ H;exact u z' _ (c.bU.set _ _) _ _ _ (S.fx j (by grind) n9.2.1) (R.fx j<|by grind) (by rw[vB];exact G') (Z.fx j<|by grind) (I8.fx j<|by grind) (by rw[st];simp[aNR h]);grind;exact u z _ _ _ _ _ S R T Z I8 (by grind);grind;exact u z _ _ _ _ _ S R T Z I8 (by grind);simp+contextual only[qz 77,qy 36,u0,u1,B.b9,bl,rk,aj];refine⟨λh=>?_,λh=>?_⟩;have e:aRD w c o.aq (gd w.ac k)=⟨(gd w.ac k).value,U⟩:=(by grind [aRD]);refine stW B.b14 rfl rfl λct v c7=>?_;have nv:∀{q:Id},q.1≠14->q∉[((14,am):Id)]:=(by grind);exact hJ ct ⟨v.len.trans B.hl,v.kq B.b4,v.kq B.b6,v.kq B.b9,by grind,B.g6.fx v (by grind),B.p6⟩ (H4.fx v<|by grind) (H5.fx v<|by grind) (H7.fx v<|by grind) (H8.fx v<|by grind);have e:aRD w c o.aq (gd w.ac k)=⟨0,I⟩:=(by grind [aRD]);exact hJ aU (by grind) H4 H5 H7 H8
def bi8:FT:=qe bjW
def boB{w c ch Lw K}:=f310 bi8 bjW w c ch Lw K (j:=by simp+contextual only[ij,aNX,ijv])
def a96(w:gz)(l:List BF):aNU×Bool:=match aNT w (aNY w) l with|some c=>(c,U)|none=>(aQx,I)
def bpH{w:gz}{c:aNU}{l:List BF}{k:Nat}(a:k<L l):aNT w c (l.drop k)=if aID w c (gd l k).aq=U then aNT w (aN2 w c<|gd l k) (l.drop<|k+1) else J:=by rw[aWc a];rfl
def bAG{Y:ae}{d:Nat}{K:be}{b:Id}{bs:List Bool}{is c:List Int}{t o:Bool}(i:box Y b=V ⟨65,2,U,U,[[sl cb bs,sl ci is]]⟩)(a:L Y=4096)(k:∀x∈c,(-1000000<=x/\x<=1000000)/\L bs<1000000)(hs:btt bs c)(j:L c<1000000)(h:K (bv U) Y):cB 51 [.l (c.map ci) t o, .f 52 [] [.p b 0 0]] Y d K:=by refine aS2 rfl (bB8 a ?_) h;simp only[bzu,qy 2];obtain⟨r,e,⟨⟨n,rfl⟩,F⟩,g⟩:=bBd (t:=t) (o:=o) i a k hs j;refine aS2 rfl ⟨_,e,⟨rfl,F⟩,g⟩ ?_;simp only[u0,u1,aNN,aoz];exact⟨by rw[brS<|by omega],Fx.refl _ _⟩
def bw8:dO:=(110,bi8)::bw7
def byR:eJ bw8:=ve (tE bjW)<|byP
def bym:=ai @boB<|@bwX
def brk:=lA 13 [(4,([7],[1,2,4,6]))]
def bqu a a1 b R:=(.mk _:NR bw8 brk Tryz.f45 [.u,a1] [a] b R).p
def br1{c0:List AV}{a1:AV}{R:j4}(l0:L c0=15)(h:H1 43 15 2 c0 λia b=>bqu ia a1 b R):Ct 45 [.a c0,a1] R:=z1 brk byR Tryz.func45 l0 h
def bzy:=lA 26 [(6,([34],[2,3,32,33])),(18,([87],[3,85,86]))]
def bzm a b c R:=(.mk _:NR bw8 bzy Tryz.f20 [.u, .u] [a,b] c R).p
def bB0{c0:List AV}{b:List AV}{R:j4}(l0:L c0=4)(l1:L b=2)(h:H2 54 4 2 c0 65 2 3 b λia c d=>bzm ia c d R):Ct 20 [.a c0, .a b] R:=z2 bzy byR Tryz.func20 l0 l1 h
def bo2(w:gz)(l:List BF)(H:aC2 w/\bcV w=U/\L l<1000000):Ct 45 [.a w.c,sl BF.c l] (·= .t [.a (a96 w l).1.c,bv (a96 w l).2]):=by obtain⟨v,n,R⟩:=H;refine aDq (br1 rfl λs2 u C X=>?_);simp only[bqu];refine ic u λO s3 b T D=>?_;have q:=b.kq C;have j:=b.len.trans u;have y:∀{Y:ae},fS Y (sl BF.c l)=V (iv<|L l):=cT;simp only[qz 4,qy 6,qy 8,u0,u1,q,r15,ar,bym];refine⟨⟨v,n⟩, .inl rfl,?_⟩;refine anu j λP s4 o W E=>?_;refine yV (L l) (λk _ x=>∃c,L x=4096/\box x (2,1)=V ⟨43,15,U,U,[w.c]⟩/\box x (4,O)=V ⟨103,9,U,U,[bst]⟩/\box x (6,P)=V ⟨103,9,U,U,[c.c]⟩/\CfI w c/\aNT w c (l.drop k)=aNT w (aNY w) l) ⟨aNY w,o.len.trans j,o.kq q,o.kq D,E,bhV n,rfl⟩ ?_;rintro k _ x Z ⟨c,m,m1,A,B,r,d⟩;simp only[qz 25,qy 10,qy 18,au,aI,u0,u1,m1,B,y,r15,rk,oe,pz,boW,ar,arm,Fa,bym,bh];refine⟨λh=>?_,λh=>?_⟩;have f:=aL h;refine⟨dJ f,⟨v,r⟩, .inl rfl,?_⟩;simp only[oJ,pG,aY];rw[bpH f] at d;refine anu m λv9 z g S F=>?_;have o1:=g.kq m1;have o4:=g.kq A;have M:=g.kq B;simp only[qz 12,qy 14];refine dT (by simp[eL,lb,Qh,Cz,aTn,bc7,bc6,bnb,bo5,bo3,bo6,bBc,bjD,au]) ?_;rcases e:aID w c (gd l k).aq with _|_;rw[e,j5 (by simp)] at d;have K:bM bst aP0 []=V (.a bst):=rfl;simp only[u0,u1,K,↓iC];refine stW o4 rfl rfl λz2 b p=>?_;have N:aN (V 9) bst=V (.a bst):=rfl;simp only[u0,u1,p,N];refine aOH (Q:=(·=AV.t [.a (a96 w l).1.c,bv (a96 w l).2])) (vs':=[.a aQx.c,bv I]) rfl rfl ?_;simp only[a96,<-d];rfl;rw[e,lC rfl] at d;simp only[u0,u1,F,e,bie,oe,↓iB];refine stW M rfl rfl λz2 b G=>?_;simp only[qz 16,au,u0,u1];exact dR (mk:=λ(_:Unit) i=>[iv i]) (s:=()) (s':=()) (λ_ _=>rfl) f (by omega) ⟨_,b.len.trans<|g.len.trans m,b.kq o1,b.kq o4,G,r.step e,d⟩;obtain rfl:k=L l:=(by grind);rw[List.drop_length] at d;refine stW A rfl rfl λz2 b p=>?_;simp only[u0,u1,p,oe];refine aOH (Q:=(·=AV.t [.a (a96 w l).1.c,bv (a96 w l).2])) (vs':=[.a c.c,bv U]) rfl rfl ?_;simp only[a96,<-d];rfl
def bns:FT:=aIc bo2
def brs{w l Lw K}:=f210 bns bo2 w l Lw K (j:=by simp+contextual only[ij,aNX,ijv])
structure bzh(f:br6)(bs:List Bool)(is:List Int):Prop where
 lb:(L bs:Int)=f.bools
 li:(L is:Int)=f.ints
 la:(L f.lL:Int)<=f.bools
 sz:L bs<1000000/\L f.ug<4000000/\(∀x∈is,-1000000<=x/\x<=1000000)/\∀c∈f.ug,L c<1000000/\∀x∈c,-1000000<=x/\x<=1000000
 at':∀i,i<L f.lL->aF (L is) (gd f.lL i).x/\aF (L is) (gd f.lL i).y/\gd bs i=Q (gd is (gd f.lL i).x.toNat-gd is (gd f.lL i).y.toNat<=(gd f.lL i).k)
 cl:bqH bs f.ug
def byu(f:br6)(bs:List Bool)(is:List Int)(S:bzh f bs is):Ct 20 [.a f.c, .a [sl cb bs,sl ci is]] (·=bv U):=by obtain⟨lb,li,la,⟨sb,sc,E,sx⟩,w,B⟩:=S;refine bB0 rfl rfl λq D o g h0=>?_;have p:∀{x:List AV} {y:AV},aN J (y::x)=V y:=λ{x y}=>(by cases y<;>rfl);have l:∀{x y:AV},[x,y].drop 1=[y]:=λ{x y}=>rfl;simp only[bzm,u0,u1,o,g,rk,p,aj];have X:Q ((L bs:Int)≠f.bools)=I:=bmL (by omega);have Z:Q ((L is:Int)≠f.ints)=I:=bmL (by omega);have q3:Q (f.bools<(L f.lL:Int))=I:=bmL (by omega);simp only[X,Z,q3,kN,jA,qE,u0,u1,o,g,rk,p,l,uO,bkl];refine⟨λh=>(nomatch h),λ_=>?_⟩;refine yV (L f.lL) (λk _ Y'=>Fx q Y' []) (Fx.refl _ _) ?_;rintro k _ Y hk F;have r:=F.kq o;have K:=F.kq g;simp only[qz 37,qy 6,au,aI,u0,u1,r,ix,rk,aj,bh];refine⟨λh=>⟨u7 h,?_⟩,λh=>?_⟩;have b:=aL h;obtain⟨e,i,T⟩:=w k b;have gx:=E _<|ii e;have gy:=E _<|ii i;have C:k<L bs:=(by omega);generalize gd f.lL k=d at*;refine anu (F.len.trans D) λv s6 m N6 H=>?_;have G:Fx q s6 []:=F.trans m;have s:=m.kq r;have t:=m.kq K;have p1:=e.1;have p2:=e.2;have p3:=i.1;have p4:=i.2;have M:Q (d.x<0)=I:=bmL (by omega);have N:Q (f.ints<=d.x)=I:=bmL (by omega);have O:Q (d.y<0)=I:=bmL (by omega);have P:Q (f.ints<=d.y)=I:=bmL (by omega);have dk:∀{x y z:AV},[x,y,z].drop 2=[z]:=λ{_ _ _}=>rfl;simp only[qz 8,au,u0,u1,H,s,t,rk,p,l,ix,aj,M,N,O,P,uO,bkl,bh];refine⟨λh=>(nomatch h),λ_=>⟨dJ C,e,i,λA=>?_,λ_=>yU b G⟩⟩;rw[eM (by omega) (by omega),<-T] at A;simp at A;refine yV (L f.ug) (λk _ z=>Fx q z []) F ?_;rintro j _ z hj n;have W:=n.kq g;simp only[qz 109,au,aI,u0,u1,ix,aC6,iF,cl,bh];refine⟨λu=>⟨u7 u,?_⟩,λ_=>trivial⟩;have b:=aL u;obtain⟨R,e⟩:=sx _<|asq b;refine bAG (is:=is) W (n.len.trans D) (λx h=>⟨e x h,sb⟩) (B _<|asq b) R ?_;simp only[qz 10,au,u0,u1];exact⟨λh=>(nomatch h),λ_=>yU b n⟩
def by4:FT:=qe byu
def bAL{f bs is Lw K}:=f310 by4 byu f bs is Lw K (j:=by simp+contextual only[ij,aNX,ijv])
def byS:dO:=(45,bns)::(20,by4)::bw8
def bAo:eJ byS:=ve (aCb bo2)<|ve (tE byu)<|byR
def byn:=ai @brs<|ai @bAL<|@bym
def bzD:=lA 43 [(6,([39],[1,3,6,8,9,10,11,38])),(13,([49],[1,3,6,8,9,10,11,12,38,39,47,48])),(16,([],[1,3,6,8,9,10,11,12,38,39,47,48,49])),(22,([11,71],[1,3,6,8,9,10,15,70])),(25,([11],[1,3,6,8,9,10,15,70,71])),(32,([98],[3,6,8,9,10,15,96,97])),(35,([],[3,6,8,9,10,15,96,97,98]))]
def bzr a a1 b c R:=(.mk _:NR byS bzD Tryz.f17 [.u,a1,b] [a] c R).p
def bB5{c0:List AV}{a1 b:AV}{R:j4}(l0:L c0=15)(h:H1 43 15 3 c0 λia c=>bzr ia a1 b c R):Ct 17 [.a c0,a1,b] R:=z1 bzD bAo Tryz.func17 l0 h
def stN{Y:ae}{b:Id}{e:TypeId}{i:Nat}{v:Int}{l:List Int}{K:ae->Prop}(c:box Y b=V ⟨e,1,U,I,l.map ci⟩)(d:i<L l)(a:∀Y',Fx Y Y' [b]->box Y' b=V ⟨e,1,U,I,(l.set i v).map ci⟩->K Y'):sV (aK 1 Y (.p b i 0)<|iv v) K:=by refine wL c (r:=ci<|l[i]) (by rw[bj9,eC d];rfl) (by simp[ci]) λY' F h=>a Y' F ?_;rw[h,vB];rfl
def bAj{Y:ae}{b:Id}{e:TypeId}{i:Nat}{v:Bool}{l:List Bool}{K:ae->Prop}(c:box Y b=V ⟨e,1,U,I,l.map cb⟩)(d:i<L l)(a:∀Y',Fx Y Y' [b]->box Y' b=V ⟨e,1,U,I,(l.set i v).map cb⟩->K Y'):sV (aK 1 Y (.p b i 0)<|bv v) K:=by refine wL c (r:=cb<|l[i]) (by rw[bj9,eC d];rfl) (by simp[cb]) λY' F h=>a Y' F ?_;rw[h,vB];rfl
def ixM{Y:ae}{b:Id}{e:TypeId}{n k:Nat}{bA:List (List AV)}{K:j4}(c:box Y b=V ⟨e,1,U,I,bA⟩)(g:n=L bA)(d:k<n)(h:K<|.p b k 0):rV (cz 1 Y (.m b n)<|iv k) K:=by subst g;refine ixI (.inr ⟨b,rfl,c⟩) (dJ d) λi a _=>?_;(cases a);rw[bh];exact h
def ixN{Y:ae}{b:Id}{e:TypeId}{n:Nat}{i:Int}{bA:List (List AV)}{K:j4}(c:box Y b=V ⟨e,1,U,I,bA⟩)(g:n=L bA)(d:aF n i)(h:K<|.p b i.toNat 0):rV (cz 1 Y (.m b n)<|iv i) K:=by subst g;refine ixI (.inr ⟨b,rfl,c⟩) d λj a _=>?_;(cases a);exact h
def ldM{Y:ae}{b:Id}{e:TypeId}{k:Nat}{l:List Int}(c:box Y b=V ⟨e,1,U,I,l.map ci⟩)(a:k<L l):vp J Y (.p b k 0)=V (iv<|gd l k):=by rw[aC5,c];simp only[aQd,bj9,eC a,df,bT a];rfl
def ldB{Y:ae}{b:Id}{e:TypeId}{k:Nat}{l:List Bool}(c:box Y b=V ⟨e,1,U,I,l.map cb⟩)(a:k<L l):vp J Y (.p b k 0)=V (bv<|gd l k):=by rw[aC5,c];simp only[aQd,bj9,eC a,df,bT a];rfl
def uw{α:Type}(f:Nat->α)(z:α)(n k:Nat):List α:=(aH n).map λj=>if j<k then f j else z
section
variable{α:Type}[Inhabited α]{f:Nat->α}{z:α}{n k:Nat}
def bsO:L (uw f z n k)=n:=by simp[uw]
def byV:uw f z n 0=er n z:=by unfold uw;refine biF (by simp) λi a b=>?_;simp
def byW:uw f z n n=(aH n).map f:=ja λj a=>lC<|fq.1 a
def byX{v:α}(h:k<n)(b:v=f k):(uw f z n k).set k v=uw f z n (k+1):=by subst b;refine biF (by simp[uw]) λi c d=>?_;rw[List.getElem_set];simp only[uw,bt5,RS];split;rename_i e;subst e;rw[lC<|by omega];rename_i e;by_cases a:i<k;rw[lC a,lC<|by omega];rw[j5 a,j5<|by omega]
def bBY(c:k<n->z=f k):uw f z n (k+1)=uw f z n k:=by unfold uw;refine ja λj b=>?_;by_cases a:j<k;rw[lC a,lC<|by omega];rw[j5 a];split;obtain rfl:j=k:=(by omega);exact(c<|fq.1 b).symm;rfl
def bBX{j:Nat}(h:j<n):gd (uw f z n k) j=if j<k then f j else z:=by rw[bT<|by simpa[uw] using h];simp[uw]
end
def bAu{n k:Nat}(h:k<n):(bdT n).drop k=(k:Int)::(bdT n).drop (k+1):=by have a:k<L (bdT n):=(by simpa[bdT] using h);rw[List.drop_eq_getElem_cons a];simp[bdT]
def bzX{w:gz}{r:Nat}(a:r<L w.ac):∀{m k:Nat},k+m=r->bsD w r ((bdT<|L w.ac).drop k) (aTH w (gd w.ac r) k)=aTH w (gd w.ac r) r
 |0,k,h=>by
  obtain rfl:k=r:=by omega
  rw[bAu a,bsD,lC rfl]
 |m+1,k,h=>by
  rw[bAu (show k<L w.ac by omega),bsD,j5<|by omega]
  have e:(if aTG (gd w.ac ((k:Int)).toNat) (gd w.ac ((r:Int)).toNat)=U then(k:Int) else aTH w (gd w.ac r) k)=aTH w (gd w.ac r) (k+1):=by rw[aTH,bh,bh]
  rw[e]
  exact bzX a (m:=m) (by omega)
def bBh{w:gz}{r:Nat}(a:r<L w.ac):bsD w r (bdT<|L w.ac) (-1)=aTH w (gd w.ac r) r:=by have:=bzX a (m:=r) (k:=0) (by omega);simpa[aTH] using this
def bum{n i:Nat}(h:i<n):gd (bdT n) i=i:=by rw[bT<|by simpa[bdT] using h];simp[bdT]
def bBr{w:gz}{x:aH8}(h:x∈cw w):(x.kind=1/\aF (L w.ac) x.a/\aF (L w.ac) x.b)\/(x.kind=2/\aF (L w.ac) x.a)\/((x.kind=3\/x.kind=4)/\aF (L w.ac) x.a/\fR (gd w.ac x.a.toNat)=U)\/x.kind=5:=by simp only[cw,List.mem_append] at h;rcases h with(((h|h)|h)|h)|h;have j:x.kind=1:=(by simp only[lr,nB,iI,dN] at h;obtain⟨_,_,_,_,rfl⟩:=h;rfl);obtain⟨g,i,_⟩:=byL h;exact .inl ⟨j,g,i⟩;simp only[mK,dN,fq] at h;obtain⟨a,c,rfl⟩:=h;exact .inr<|.inl ⟨rfl,dJ c⟩;simp only[kh,dN,List.mem_filter,fq] at h;obtain⟨a,⟨c,e⟩,rfl⟩:=h;exact .inr (.inr<|.inl ⟨.inl rfl,dJ c,by simpa using e⟩);simp only[ki,iI,dN,fq] at h;obtain⟨a,c,b,d,rfl⟩:=h;refine .inr<|.inr<|.inl ⟨.inr rfl,dJ c,?_⟩;unfold dx at d;rw[dX.2<|dJ c,bh,Bool.true_and] at d;(cases e:fR (gd w.ac a) with|true=>simpa using e|false=>rw[e] at d;cases d);simp only[jp,pR,iI] at h;obtain⟨a,_,h⟩:=h;split at h;obtain⟨b,_,rfl⟩:=dN.1 h;exact .inr<|.inr<|.inr rfl;cases h
structure MdS(x:ae)(w:gz)(c:aNU)(v6 v8 v10:Nat)(bB bI:Id)(bs:List Bool)(is:List Int):Prop where
 hl:L x=4096
 b1:box x (3,1)=V ⟨43,15,U,U,[w.c]⟩
 b6:∃zs,L zs=2/\box x (6,v6)=V ⟨65,2,U,U,[zs]⟩
 b8:box x (8,v8)=V ⟨103,9,U,U,[c.c]⟩
 bm:box x (10,v10)=V ⟨65,2,U,U,[[.m bB<|L bs, .m bI<|L is]]⟩
 bb:box x bB=V ⟨4,1,U,I,bs.map cb⟩
 bi:box x bI=V ⟨3,1,U,I,is.map ci⟩
def MdS.ints{x y:ae}{w:gz}{c:aNU}{l m d:Nat}{g a:Id}{bs:List Bool}{is i:List Int}(S:MdS x w c l m d g a bs is)(hI:a.1=28)(s:g.1=31)(F:Fx x y [a])(r:box y a=V ⟨3,1,U,I,i.map ci⟩)(j:L i=L is):MdS y w c l m d g a bs i:=by have b:∀{q:Id},q.1≠28->q∉[a]:=λh e=>(by simp at e;subst e;exact h hI);obtain⟨zs,o,p⟩:=S.b6;exact⟨F.len.trans S.hl,F.keep _ _ (b<|by simp) S.b1,⟨zs,o,F.keep _ _ (b<|by simp) p⟩,F.keep _ _ (b<|by simp) S.b8,by rw[j];exact F.keep _ _ (b<|by simp) S.bm,F.keep _ _ (b<|by omega) S.bb,r⟩
def MdS.bools{x y:ae}{w:gz}{c:aNU}{j l d:Nat}{a g:Id}{bs cs:List Bool}{is:List Int}(S:MdS x w c j l d a g bs is)(hI:g.1=28)(p:a.1=31)(F:Fx x y [a])(r:box y a=V ⟨4,1,U,I,cs.map cb⟩)(i:L cs=L bs):MdS y w c j l d a g cs is:=by have b:∀{q:Id},q.1≠31->q∉[a]:=λh e=>(by simp at e;subst e;exact h p);obtain⟨zs,m,o⟩:=S.b6;exact⟨F.len.trans S.hl,F.keep _ _ (b<|by simp) S.b1,⟨zs,m,F.keep _ _ (b<|by simp) o⟩,F.keep _ _ (b<|by simp) S.b8,by rw[i];exact F.keep _ _ (b<|by simp) S.bm,r,F.keep _ _ (b<|by omega) S.bi⟩
theorem MdS.fx{x y:ae}{w:gz}{c:aNU}{i j b:Nat}{d g:Id}{bs:List Bool}{is:List Int}{Lw:List Id}(S:MdS x w c i j b d g bs is)(hI:g.1=28)(p:d.1=31)(F:Fx x y Lw)(o:∀q∈Lw,q.1=67\/q.1=18):MdS y w c i j b d g bs is:=by have a:∀{q:Id},q.1≠67/\q.1≠18->q∉Lw:=λh e=>(by have:=o _ e;omega);obtain⟨zs,l,m⟩:=S.b6;exact⟨F.len.trans S.hl,F.keep _ _ (a<|by simp) S.b1,⟨zs,l,F.keep _ _ (a<|by simp) m⟩,F.keep _ _ (a<|by simp) S.b8,F.keep _ _ (a<|by simp) S.bm,F.keep _ _ (a<|by omega) S.bb,F.keep _ _ (a<|by omega) S.bi⟩
def byx(w:gz)(hp:hU w/\bcV w=U/\∀i,i<L w.ac->pN (gd w.ac i)=I):Ct 17 [.a w.c,sl aH8.c<|cw w,sl BF.c<|w.ac.map bsF] (·= .t [.a [sl cb<|(cw w).map<|bdZ w,sl ci<|bdT<|L w.ac],bv U]):=by obtain⟨hf,hv,hn⟩:=hp;obtain⟨c,az,g⟩:=bAa hv hn (m:=L w.ac) (k:=0) (by omega) bBx;rw[J3] at az;have hW:=bnz hf hv;have cn:=hW.wo.wo.ev;obtain⟨_,_,_,_,cp,_⟩:=byY hf hv;have hR:a96 w (w.ac.map bsF)=(c,U):=(by unfold a96;rw[az]);refine aDq (bB5 rfl λs2 hl b1 h0=>?_);simp only[bzr,↓uL];refine ic hl λT s3 F3 N3 b3=>?_;have c1:=F3.kq b1;have aM:=F3.len.trans hl;have br:L (w.ac.map bsF)<1000000:=(by rw[List.length_map];omega);simp only[qz 4,qy 6,u0,u1,c1,aYl,J3,jM,kU,jt,sH,ar,byn,hW,hv,br,aOe,GL,hR,oJ,pG,aY,↓uL];refine⟨.inl rfl,?_⟩;refine anu aM λW s4 F4 N4 b8=>?_;have c4:=F4.kq c1;have a3:=F4.kq b3;have av:=F4.len.trans aM;simp only[qz 8,u0,u1,c4,rk,cT,aj,dc,↓uL];refine AP (by decide) (by decide) (by rw[av];decide) (by omega) λC s5 E N5 F5 a7=>?_;have aO:=F5.len.trans av;simp only[qz 10,cT,u0,u1,aY,↓uL];refine AP (by decide) (by decide) (by rw[aO];decide) (by omega) λu s6 B N6 F6 a5=>?_;have bq:=F6.len.trans aO;have bo:∀{n m:Nat},bM bAw bmK [(1, .m C n),(0, .m u m)]=V (.a [.m u m, .m C n]):=λ{n m}=>rfl;simp only[qz 12,qy 14,bo,aY,↓uL];refine ic bq λG s7 F7 N7 b7=>?_;refine stW b7 rfl rfl λs8 F8 a4=>?_;have ag:Fx s6 s8 []:=(F7.trans F8).mono λq hq=>(by simp at hq;subst hq;exact .inr N7.no);have aa:Fx s4 s8 []:=F5.trans<|F6.trans ag;have MS:MdS s8 w c T W G u C (er (L<|cw w) I) (er (L w.ac) 0):=⟨aa.len.trans av,aa.kq c4,⟨_,rfl,aa.kq a3⟩,aa.kq b8,by rw[a4,oA,oA],by rw[ag.kq a5,List.map_replicate];rfl,by rw[ag.kq<|F6.kq a7,List.map_replicate];rfl⟩;simp only[qz 16,↓uL];have bH:∀{n m:Nat},m8 (.a [.m u m, .m C n])=[u.1,C.1]:=λ{n m}=>rfl;refine dT (by simp[eL,lb,Cz,aTn,bc7,a6H,bc6,bna,bH,B,E,au]) ?_;have ho:L c.order=L w.ac:=(by rw[g.od];simp[bdT]);have H:∀{x:List AV} {y:AV},aN J (y::x)=V y:=λ{x y}=>(by cases y<;>rfl);have c6:c.c.drop 6=[sl ci c.order,sl cb c.fixed,sl ci c.woke]:=rfl;simp only[u0,u1,MS.b8,MS.b1,rk,aj,c6,H,cT,ho,↓uL];refine yV (L w.ac) (λk _ x=>MdS x w c T W G u C (er (L<|cw w) I)<|uw (λj=>(j:Int)) 0 (L w.ac) k) (by rw[byV];exact MS) ?_;rintro k _ x hk S;have R:∀{a b:AV},[a,b].drop 1=[b]:=rfl;simp only[qz 37,au,aI,u0,u1,S.bm,S.b1,rk,H,R,cT,aj,dc,↓uL];refine⟨λh=>?_,λh=>?_⟩;have l:=aL h;refine ixM S.bi (by simp) (by rw[bsO];exact l) ?_;refine stN S.bi (by rw[bsO];exact l) λy F hy=>?_;have Sy:=S.ints E B F hy (by simp);simp only[qz 18,u0,u1,Sy.b8,rk,aj,c6,H,cT,ho,↓uL];have cq:∀{m:Nat},L (uw (λj=>(j:Int)) 0 (L w.ac) m)=L w.ac:=bsO;refine yV (L w.ac) (λm _ z=>MdS z w c T W G u C (er (L<|cw w) I)<|(uw (λj=>(j:Int)) 0 (L w.ac) k).set k<|if k<m then(k:Int) else-1) (by rw[j5<|by omega];exact Sy) ?_;rintro m _ z hm S;simp only[qz 79,au,aI,u0,u1,↓uL];refine⟨λh2=>?_,λh2=>?_⟩;have aw:=aL h2;refine bsK (λd=>∀r,MdS r w c T W G u C (er (L<|cw w) I) ((uw (λj=>(j:Int)) 0 (L w.ac) k).set k<|if k<m+1 then(k:Int) else-1)->d [] r) ?_ λd Z=>?_;intro r X;simp only[qz 99,au,aI,u0,u1,↓uL];exact yU aw X;simp only[qz 101,qy 20,au,u0,u1,g.od,ix,rk,bh,bum aw,S.bm,R,H,aj,↓uL];refine⟨⟨by omega,by simp[bdT];omega⟩,λe=>?_,λe=>Z _ ?_⟩;obtain rfl:m=k:=(by have:=aNR e;omega);refine ixM S.bi (by simp) (by simp[bsO];exact l) ?_;refine stN S.bi (by simp[bsO];exact l) λr F O=>Z r ?_;have:=S.ints E B F O (by simp);rw[List.set_set] at this;rw[lC<|show m<m+1 by omega];exact this;have co:m≠k:=λe2=>bpF e (by rw[e2]);have:(if k<m+1 then(k:Int) else-1)=if k<m then(k:Int) else-1:=(by by_cases h3:k<m;rw[lC h3,lC<|by omega];rw[j5 h3,j5<|by omega]);rw[this];exact S;rw[bP hm<|bw h2,lC l,byX l rfl] at S;exact yU l S;have P:k=L w.ac:=bP hk<|bw h;subst P;rw[byW] at S;refine AP (by decide) (by decide) (by rw[S.hl];decide) (by omega) λbD s9 an N9 F9 a6=>?_;have S9:=S.fx E B F9 (by simp);simp only[qz 22,u0,u1,S9.b1,rk,cT,aj,dc,↓uL];have M:L (bdT<|L w.ac)=L w.ac:=(by simp[bdT]);refine jD (α:=Unit) (λ_ i=>[iv<|L w.ac,iv i]) 1 (L w.ac) (λk _ z=>MdS z w c T W G u C (er (L<|cw w) I) (bdT<|L w.ac)/\box z bD=V ⟨4,1,U,I,(uw (λ_=>U) I (L w.ac) k).map cb⟩) (s0:=()) ⟨S9,by rw[byV,List.map_replicate];exact a6⟩ ?_;rintro k _ z hk ⟨S,D⟩;simp only[qz 133,au,ck,aI,u0,u1,↓uL];refine⟨λh=>?_,λh=>?_⟩;have l:=aL h;refine bsK (λd=>∀r,MdS r w c T W G u C (er (L<|cw w) I) (bdT<|L w.ac)->box r bD=V ⟨4,1,U,I,(uw (λ_=>U) I (L w.ac)<|k+1).map cb⟩->d [iv<|L w.ac] r) ?_ λd Z=>?_;intro r X D';simp only[qz 153,au,ck,aI,u0,u1,↓uL];exact dR (mk:=λ_ i=>[iv<|L w.ac,iv i]) (p:=1) (s:=()) (s':=()) (λ_ _=>rfl) l (by omega) ⟨X,D'⟩;simp only[qz 155,au,ck,u0,u1,S.bm,R,H,aj,↓uL];refine ixM S.bi (by simp) (by rw[M];exact l) ?_;simp only[ldM S.bi (by rw[M];exact l),bum l,aY,u0,u1,↓uL];refine ixM D (by simp[bsO]) l ?_;refine bAj D (by rw[bsO];exact l) λr F O=>?_;rw[byX l<|by simp] at O;have bC:=O;have X:=S.fx E B F (λq hq=>by simp at hq;subst hq;exact .inl an);simp only[qz 24,qy 26,au,ck,u0,u1,↓uL];refine ixM O (by simp[bsO]) l ?_;simp only[ldB O (by rw[bsO];exact l),bBX l,aY,u0,u1,↓uL];rw[lC<|show k<k+1 by omega];exact⟨λh=>(nomatch h),λ_=>Z r X bC⟩;have P:k=L w.ac:=bP hk<|bw h;rw[P,byW] at D;refine yV (L<|cw w) (λk _ z=>MdS z w c T W G u C (uw (λj=>bdZ w<|gd (cw w) j) I (L<|cw w) k) (bdT<|L w.ac)/\box z bD=V ⟨4,1,U,I,((aH<|L w.ac).map λ_=>U).map cb⟩) ⟨by rw[byV];exact S,D⟩ ?_;rintro k _ z hk ⟨S,D⟩;simp only[qz 193,qy 40,au,aI,u0,u1,↓uL];refine⟨λh=>?_,λh=>?_⟩;have l:=aL h;refine bsK (λd=>∀r,MdS r w c T W G u C (uw (λj=>bdZ w<|gd (cw w) j) I (L<|cw w)<|k+1) (bdT<|L w.ac)->box r bD=V ⟨4,1,U,I,((aH<|L w.ac).map λ_=>U).map cb⟩->d [] r) ?_ λd Z=>?_;intro r X D';simp only[qz 213,au,aI,u0,u1,↓uL];exact yU l ⟨X,D'⟩;have ad:=bBr<|asq l;have r3:∀{x:aH8},aN (V 3) x.c=V (.a x.c):=λ{x}=>rfl;simp only[qz 215,qy 28,au,u0,u1,ix,aC6,r3,aY,bh,↓uL];refine⟨dJ l,?_⟩;refine anu S.hl λvx z1 F1 N1 bx=>?_;have A:=S.fx E B F1 (by simp);have D1:=F1.kq D;have bt:bD≠u:=λe=>(by rw[e,B] at an;simp at an);have N:∀v:Bool,v=bdZ w (gd (cw w) k)->sV (aK 1 z1 (.p u k 0)<|bv v) λs=>d [] s:=λv hv=>(by refine bAj A.bb (by rw[bsO];exact l) λr F O=>?_;rw[byX l hv] at O;exact Z r (A.bools E B F O<|by simp[bsO])<|F.keep _ _ (by simpa using bt) D1);generalize bA:gd (cw w) k=x at*;simp only[qz 30,qy 32,qy 34,qy 36,qy 38,u0,u1,bx,rk,aj,↓uL];have bK:∀{K:j4},K (.p u k 0)->rV (cz 1 z1 (.m u<|L<|uw (λj=>bdZ w<|gd (cw w) j) I (L<|cw w) k)<|iv k) K:=λh=>ixM A.bb (by simp) (by rw[bsO];exact l) h;have c7:c.c.drop 7=[sl cb c.fixed,sl ci c.woke]:=rfl;have aG:∀{a:Int},aF (L w.ac) a->fR (gd w.ac a.toNat)=U->aF (L c.fixed) a/\gd c.fixed a.toNat=U:=λo hr=>⟨by rw[g.fl];exact o,g.fx _ (by have:=o.1;have:=o.2;omega) hr⟩;refine⟨λe1=>?_,λn1=>⟨λe2=>?_,λn2=>⟨λe3=>?_,λn3=>⟨λe4=>?_,λn4=>?_⟩⟩⟩⟩;have bd:=aNR e1;obtain⟨_,o,hb⟩:x.kind=1/\aF (L w.ac) x.a/\aF (L w.ac) x.b:=(by rcases ad with h|h|h|h;exact h;omega;omega;omega);have ga:gd (bdT<|L w.ac) x.a.toNat=x.a:=(by rw[bum (by have:=o.1;have:=o.2;omega)];have:=o.1;omega);have gb:gd (bdT<|L w.ac) x.b.toNat=x.b:=(by rw[bum (by have:=hb.1;have:=hb.2;omega)];have:=hb.1;omega);simp only[A.bm,R,H,u0,u1,aj,↓uL];refine ixN A.bi (by simp) (by rw[M];exact o) ?_;simp only[ldM A.bi (show x.a.toNat<_ by rw[M];have:=o.1;have:=o.2;omega),ga,aY,A.bm,R,H,u0,u1,aj,↓uL];refine ixN A.bi (by simp) (by rw[M];exact hb) ?_;simp only[ldM A.bi (show x.b.toNat<_ by rw[M];have:=hb.1;have:=hb.2;omega),gb,aY,u0,u1,↓uL];exact bK (N _<|by simp[bdZ,bd]);have be:=aNR e2;have o:aF (L w.ac) x.a:=(by rcases ad with h|h|h|h;omega;exact h.2;omega;omega);have ab:x.a.toNat<L w.ac:=(by have:=o.1;have:=o.2;omega);simp only[A.bm,R,H,u0,u1,aj,↓uL];refine ixN D1 (by simp) o ?_;simp only[ldB D1 (show x.a.toNat<_ by simpa using ab),aY,↓uL];refine bK<|N _ ?_;rw[bT<|by simpa using ab];simp[bdZ,be];have bf:=aNR e3;obtain⟨o,hr⟩:aF (L w.ac) x.a/\fR (gd w.ac x.a.toNat)=U:=(by rcases ad with h|h|h|h;omega;omega;exact h.2;omega);obtain⟨ao,ap⟩:=aG o hr;simp only[A.bm,A.b8,c7,R,H,u0,u1,aj,ix,aC6,rk,ap,↓uL];exact⟨ao,bK<|N _<|by simp[bdZ,bf]⟩;have bg:=aNR e4;obtain⟨o,hr⟩:aF (L w.ac) x.a/\fR (gd w.ac x.a.toNat)=U:=(by rcases ad with h|h|h|h;omega;omega;exact h.2;omega);obtain⟨ao,ap⟩:=aG o hr;simp only[A.bm,A.b8,A.b1,c7,R,H,u0,u1,aj,ix,aC6,rk,ap,↓uL];refine⟨ao,?_⟩;have aP:(∀y∈c.order,aF (L w.ac) y)/\aF (L w.ac) x.a/\L c.order<1000:=(by refine⟨λy hy=>?_,o,by omega⟩;rw[g.od] at hy;simp only[bdT,dN,fq] at hy;obtain⟨i,hi,rfl⟩:=hy;exact dJ hi);have ab:x.a.toNat<L w.ac:=(by have:=o.1;have:=o.2;omega);have bn:((x.a.toNat:Nat):Int)=x.a:=(by have:=o.1;omega);have aE:bsD w x.a c.order (-1)=aTH w (gd w.ac x.a.toNat) x.a.toNat:=(by have:=bBh ab;rw[bn] at this;rw[g.od];exact this);simp only[jA,c6,H,aY,bx,rk,u0,u1,jM,kU,jt,sH,ar,byn,aP,aE,aOe,GL,aj,uO,bie,↓uL];exact⟨⟨aP.1,trivial⟩,bK<|N _<|by simp[bdZ,bg]⟩;refine Z z1 ?_ D1;rw[bBY λ_=>?_];exact A;have:x.kind≠1/\x.kind≠2/\x.kind≠3/\x.kind≠4:=⟨bpF n1,bpF n2,bpF n3,bpF n4⟩;rw[bA];simp[bdZ,this];have P:k=L (cw w):=bP hk<|bw h;rw[P,byW] at S;obtain⟨zs,bF,bG⟩:=S.b6;have r2:∀{a b:AV},aN (V 2) [a,b]=V (.a [a,b]):=λ{a b}=>rfl;simp only[S.bm,u0,u1,r2,J3,↓uL];refine stW bG bF rfl λr F bz=>?_;simp only[bz,u0,u1,r2,J3,↓uL];have aJ:qc r 4 1 (.m u<|L<|(aH<|L<|cw w).map λj=>bdZ w<|gd (cw w) j) (((aH<|L<|cw w).map λj=>bdZ w<|gd (cw w) j).map cb):=bc.p (.inr ⟨u,by simp,F.keep _ _ (by simp;intro e;rw[e] at B;simp at B) S.bb⟩);have bj:qc r 3 1 (.m C<|L<|bdT<|L w.ac) ((bdT<|L w.ac).map ci):=bc.p (.inr ⟨C,by simp,F.keep _ _ (by simp;intro e;rw[e] at E;simp at E) S.bi⟩);have bs:(aH<|L<|cw w).map (λj=>bdZ w<|gd (cw w) j)=(cw w).map (bdZ w):=(by refine biF (by simp) λi h1 h2=>?_;simp only[bt5,RS];rw[bT<|by simpa using h2]);refine aOH (Q:=(·= .t [.a [sl cb<|(cw w).map<|bdZ w,sl ci<|bdT<|L w.ac],bv U])) (vs':=[.a [sl cb<|(cw w).map<|bdZ w,sl ci<|bdT<|L w.ac],bv U]) ?_ (by simp[iX,eN,sl]) rfl;rw[bs] at aJ⊢;simp only[fzT,ji,mU,aBr aJ,aBr bj];rfl
def by7:FT:=mT byx
def bAO{w Lw K}:=f110 by7 byx w Lw K
def bAp:dO:=(17,by7)::byS
def bBV:eJ bAp:=ve (pg byx)<|bAo
def bAX:=ai @bAO<|@byn

def aN6{α:Type}(f:α->α->Bool):List α->List α->Bool|[],[]=>U|a::l,b::m=>f a b&&aN6 f l m|_,_=>I
theorem aOC{α:Type}{f:α->α->Bool}(c:∀a b,f a b=U->a=b):∀{l m:List α},aN6 f l m=U->l=m
 |[],[],_=>rfl
 |a::l,b::m,h=>by
  simp only[aN6,bN] at h
  rw[c a b h.1,aOC c h.2]
 |[],_::_,h=>by cases h
 |_::_,[],h=>by cases h
def xqV:Nat->Value->Value->Bool
 |0,_,_=>I
 |n+1,x,y=>
  match x,y with
  | .int k a, .int c b=>Q (k=c)&&Q (a=b)
  | .bool a, .bool b=>a==b
  | .string a, .string b=>Q<|a.data.toList=b.data.toList
  | .agg a, .agg b=>aN6 (xqV n) a.toList b.toList
  | .pointer none, .pointer none=>U
  | .nilFunc, .nilFunc=>U
  | .nilIface, .nilIface=>U
  | .map none, .map none=>U
  |_,_=>I
theorem bhK:∀{n:Nat} {a b:Value},xqV n a b=U->a=b:=by intro n;induction n with|zero=>intro a b h;cases h|succ n c=>intro a b h;simp only[xqV] at h;(split at h<;>first|rfl|(cases h;done)|skip);simp_all;simp_all;rename_i a b;have h:=aNR h;obtain⟨⟨a⟩⟩:=a;simp_all;rename_i a b;have h:=aOC (λa b=>c) h;simp_all
def xqA:Nat->AV->AV->Bool
 |0,_,_=>I
 |n+1,x,y=>
  match x,y with
  | .s v, .s w=>xqV 4 v w
  | .u, .u=>U
  | .l r t o, .l D E o'=>(t==E&&o==o')&&aN6 (aN6<|xqA n) r D
  | .a c, .a e=>aN6 (xqA n) c e
  | .t c, .t e=>aN6 (xqA n) c e
  | .q c, .q e=>aN6 (xqA n) c e
  | .p b i j, .p h z A=>Q<|b=h/\i=z/\j=A
  | .m b i, .m h z=>Q<|b=h/\i=z
  | .g k b i j, .g B h z A=>Q<|k=B/\b=h/\i=z/\j=A
  | .f k c d, .f B e C=>Q (k=B)&&(aN6 (xqA n) c e&&aN6 (xqA n) d C)
  |_,_=>I
def aYn:∀{n:Nat} {a b:AV},xqA n a b=U->a=b:=by intro n;induction n with|zero=>intro a b h;cases h|succ n c=>intro a b h;simp only[xqA] at h;grind [bhK,aOC]
def eqB(x y:bY):Bool:=Q (x.elem=y.elem/\x.size=y.size/\x.own=y.own/\x.var=y.var)&&aN6 (aN6<|xqA 9) x.bA y.bA
theorem bbh{x y:bY}(h:eqB x y=U):x=y:=by unfold eqB at h;rw[bN] at h;obtain⟨c,d,e,f⟩:=aNR h.1;have g:=aOC (λa b=>aOC<|λa b=>aYn) h.2;cases x;simp_all
def kpS(a b:vG):Bool:=Nat.ble a.I6 b.I6&&(aH<|a.I6+1).all λv=>match a.val v with|none=>U|some x=>match b.val v with|some y=>eqB x y|none=>I
def kpB:ae->ae->Bool:=eqLs' kpS
where eqLs' (f:vG->vG->Bool):ae->ae->Bool
 |[],[]=>U
 |a::l,b::m=>f a b&&eqLs' f l m
 |_,_=>I
def a6R:∀{Y Y':ae},kpB Y Y'=U->L Y'=L Y/\∀k,kpS (aZ Y k) (aZ Y' k)=U
 |[],[],_=>⟨rfl,λk=>by simp only[aZ,List.getD_nil];rfl⟩
 |a::l,b::m,h=>by
  have h:(kpS a b&&kpB.eqLs' kpS l m)=U:=h
  rw[bN] at h
  have c:=a6R (Y:=l) (Y':=m) h.2
  refine⟨by simp[c.1],λk=>?_⟩
  cases k with
  |zero=>exact h.1
  |succ k=>exact c.2 k
 |[],_::_,h=>by cases h
 |_::_,[],h=>by cases h
theorem bdG{Y Y':ae}(h:kpB Y Y'=U):Kp Y Y':=by obtain⟨a,c⟩:=a6R h;refine⟨a,λk=>?_,λb x d=>?_⟩;simp_all [kpS];have h:=c b.1;unfold kpS at h;grind [box,Nat.le_trans,Nat.le_of_ble_eq_true,bbh]
section
variable(P:Program)(G:zp)
abbrev aPc:=FuncId->List AV->ae->Nat->Option (AV×ae)
abbrev aQb:=Code->List AV->ae->Option (Exit×List AV×ae)
def aWf(a:aPc)(b:List AV)(Y:ae)(o:Oper):Option (AV×ae):=
 match dz P (du G b) Y o.op with
 |some av=>V (av,Y)
 |none=>
  match eA P (du G b) Y (o.dst.getD 0) o.op with
  |some p=>V p
  |none=>
   match o.op with
   | .call c=>
    match c.callee with
    | .value f=>
     match du G b f with
     | .f fn first cap=>a fn (first++c.args.toList.map (du G b)++cap) Y (o.dst.getD 0)
     |_=>J
    |_=>J
   |_=>J
def aS9(b:aPc)(ops:Array Oper)(a:List AV)(Y:ae)(o:Oper):Option (List AV×ae):=
 match rh ops a o with
 |some true=>match aWf P G b a Y o with|some p=>V (ge a o.dst p.1,p.2)|none=>J
 |some false=>V (ge a o.dst<|.t [],Y)
 |none=>J
def aRK(a:aPc)(ops:Array Oper):List Oper->List AV->ae->Option (List AV×ae)
 |[],b,Y=>V (b,Y)
 |o::l,b,Y=>match aS9 P G a ops b Y o with|some p=>aRK a ops l p.1 p.2|none=>J
def aS8(b:aPc)(ops:Array Oper):List Oper->List fY->List AV->ae->Option (List fY×List AV×ae)
 |[],a,c,Y=>V (a,c,Y)
 |o::l,a,c,Y=>match aS9 P G b ops c Y o with|some p=>aS8 b ops l (a++[lab P G ops c Y o]) p.1 p.2|none=>J
def aQ0:Exit->Bool| .normal| .ret=>U|_=>I
def a6k(Y:ae)(d:Nat)(c:ae)(r:AV):Option (AV×ae):=
 match r with
 | .l [] true true=>V (.l [] U U,Y)
 | .m b n=>match box c b with|some x=>if qA x=U then V (.m (zt Y d) n,put Y d x) else J|none=>J
 | .a cs=>if(wn cs).Nodup then(match gU c d Y cs with|some p=>V (.a p.1,p.2)|none=>J) else J
 |_=>J
abbrev aSo:=List<|FuncId×List AV×AV
structure aPP where
 l:aSo
 cl:List (FuncId×TypeId×Nat)
def known(fn:FuncId)(ys:List AV):aSo->Option AV|[]=>J|p::T=>bif aOU fn p.1&&aN6 (xqA 9) ys p.2.1 then V p.2.2 else known fn ys T
def aRG(fn:FuncId):List (FuncId×TypeId×Nat)->Option (TypeId×Nat)|[]=>J|p::T=>bif aOU fn p.1 then V p.2 else aRG fn T
def aWe(Y:ae)(d:Nat)(p:TypeId×Nat)(ys:List AV):Option (AV×ae):=
 match ys with
 |[.l [] false false]=>V (.l [] U U,Y)
 |[.l (r::bA) false false]=>
  if((r::bA).all λr=>aOU (L r) p.2&&r.all gY)=U/\L (r::bA)<1000000 then V (.m (zt Y d)<|L (r::bA),put Y d ⟨p.1,p.2,U,I,r::bA⟩) else J
 |_=>J
def aRJ(T:aPP)(E:aQb):aPc:=λfn xs Y d=>
 match P.funcs[fn]? with
 |none=>J
 |some f=>
  match f.body with
  |none=>J
  |some c=>
   if(f.name== "runtime.NumGoroutine")=U then J
   else if G.nw fn=U then
    if(xs.map<|dG Y).all iX=U/\aRI Y d=U then
     match aRG fn T.cl with
     |some p=>aWe Y d p<|xs.map<|dG Y
     |none=>
     match E c (start f<|xs.map<|dG Y) eK with
     |some (e,b,a)=>if aQ0 e=U then(match wG P f b a with|some r=>a6k Y d a r|none=>J) else J
     |none=>J
    else J
   else if G.imp fn=U then
    match E c (start f xs) Y with
    |some (e,b,a)=>
     if aQ0 e=U then
      match wG P f b a with
      |some r=>
       if L a=L Y then
        if G.rd fn=U then(if kpB Y (kills a<|eB r)=U/\kG (eR a r)=U then V (eR a r,Y) else J)
        else V (r,a)
       else J
      |none=>J
     else J
    |none=>J
   else if(xs.map<|dG Y).all iX=U/\L (xs.map<|dG Y)<=f.ntmps then
    match known fn (xs.map<|dG Y) T.l with
    |some r=>if kG r=U/\(nA Y xs=I\/uN r=U) then V (r,Y) else J
    |none=>
    match E c (start f<|xs.map<|dG Y) (ly f) with
    |some (e,b,a)=>
     if aQ0 e=U then
      match yB P f b a with
      |some r=>if kG r=U/\(nA Y xs=I\/uN r=U) then V (r,Y) else J
      |none=>J
     else J
    |none=>J
   else J
def aRL(T:aPP)(E:aQb):aQb:=λc a Y=>
 match c with
 | .skip=>V (.normal,a,Y)
 | .label _=>V (.normal,a,Y)
 | .region _ ops false=>match aRK P G (aRJ P G T E) ops ops.toList a Y with|some p=>V (.normal,p.1,p.2)|none=>J
 | .region _ ops true=>
  if rG G ops.toList=U then match aRK P G (aRJ P G T E) ops ops.toList a Y with|some p=>V (.normal,p.1,p.2)|none=>J
  else match aS8 P G (aRJ P G T E) ops ops.toList [] a Y with|some p=>if xG ops p.1=U then V (.normal,p.2.1,p.2.2) else J|none=>J
 | .seq x y=>match E x a Y with|some (.normal,τ',Y')=>E y τ' Y'|r=>r
 | .cond c x y=>match du G a c with| .s (.bool t)=>if t=U then E x a Y else E y a Y|_=>J
 | .block b c=>match E c a Y with|some (.exit j,τ',Y')=>if j=b then V (.normal,τ',Y') else V (.exit j,τ',Y')|r=>r
 | .loop c=>match E c a Y with|some (.normal,τ',Y')=>E (.loop c) τ' Y'|r=>r
 | .exit b=>V (.exit b,a,Y)
 | .ret=>V (.ret,a,Y)
 |_=>J
def ev(T:aPP):Nat->aQb|0=>λ_ _ _=>J|n+1=>aRL P G T<|ev T n
end
section
variable{P:Program}{G:zp}
def Xcl(P:Program)(G:zp)(fn:FuncId)(xs:List AV)(Y:ae)(d:Nat)(K:be):Prop:=
 if G.nw fn=U then tS P G fn xs Y d K else if G.imp fn=U then tR P G fn xs Y d K else Kh P G fn xs Y λr=>K r Y
def aRe(P:Program)(G:zp)(a:aPc):Prop:=∀fn xs Y d r Y',a fn xs Y d=V (r,Y')->∀K:be,K r Y'->Xcl P G fn xs Y d K
def aUx(P:Program)(G:zp)(E:aQb):Prop:=∀c a Y e τ' Y',E c a Y=V (e,τ',Y')->∀Q:QX,Q e τ' Y'->iq P G c Q a Y
theorem bbm{a:aPc}(g:aRe P G a){b:List AV}{Y Y':ae}{o:Oper}{r:AV}(h:aWf P G a b Y o=V (r,Y')){K:be}(d:K r Y'):j0 P G b Y o K:=by unfold aWf at h;unfold j0;split at h;simp_all;rename_i l;rw[l];simp only;split at h;simp_all;rename_i i;rw[i];simp only;split at h;rename_i c k;rw[k];simp only;split at h;rename_i f j;rw[j];simp only;split at h;rename_i fn first cap e;rw[e];exact g _ _ _ _ _ _ h K d;(cases h);(cases h);cases h
theorem a6l{a:aPc}(d:aRe P G a){ops:Array Oper}{b τ':List AV}{Y Y':ae}{o:Oper}(h:aS9 P G a ops b Y o=V (τ',Y')){K:aG}(c:K τ' Y'):kS P G ops o K b Y:=by grind [aS9,kS,bbm]
theorem a6m{a:aPc}(d:aRe P G a){ops:Array Oper}{K:aG}:∀{l:List Oper} {b τ':List AV} {Y Y':ae},aRK P G a ops l b Y=V (τ',Y')->K τ' Y'->rE P G ops l K b Y:=by intro l;induction l with|nil=>intro b τ' Y Y' h c;cases h;exact c|cons o l f=>intro b τ' Y Y' h c;simp only[aRK] at h;split at h;rename_i p e;exact a6l d (τ':=p.1) (Y':=p.2) e<|f h c;cases h
theorem bbk{b:aPc}(e:aRe P G b){ops:Array Oper}{K:List fY->aG}:∀{l:List Oper} {a ls:List fY} {c τ':List AV} {Y Y':ae},aS8 P G b ops l a c Y=V (ls,τ',Y')->K ls τ' Y'->qq P G ops l a K c Y:=by intro l;induction l with|nil=>intro a ls c τ' Y Y' h d;cases h;exact d|cons o l g=>intro a ls c τ' Y Y' h d;simp only[aS8] at h;split at h;rename_i p f;exact a6l e (τ':=p.1) (Y':=p.2) f<|g h d;cases h
def aWD{e:Exit}(h:aQ0 e=U):e= .normal\/e= .ret:=by cases e<;>first|exact .inl rfl|exact .inr rfl|cases h
theorem a6j(o:tQ P){E:aQb}(j:aUx P G E){fn:FuncId}{f:Func}{c:Code}(n:P.funcs[fn]?=V f)(l:f.body=V c)(p:¬(f.name== "runtime.NumGoroutine")=U){xs g:List AV}{Y d:ae}{e:Exit}{r:AV}(h:E c (start f xs) Y=V (e,g,d))(m:aQ0 e=U)(i:wG P f g d=V r):cZ P G fn xs Y r d:=by obtain⟨q,Y',⟨rfl,rfl⟩,k⟩:=aBf (R:=λa b=>a=r/\b=d) o n l (by grind) (j _ _ _ _ _ _ h (QB P f λa b=>a=r/\b=d)<|by rcases aWD m with rfl|rfl<;>exact⟨r,i,rfl,rfl⟩);exact k
def aYw(P:Program)(G:zp)(T:aSo):Prop:=∀p∈T,zm P G p.1 p.2.1 (·=p.2.2)
def a78(P:Program)(G:zp)(T:List<|FuncId×TypeId×Nat):Prop:=∀p∈T,∀bA:List (List AV),(∀r∈bA,L r=p.2.2)->L bA<1000000->∃r a,cZ P G p.1 [.l bA I I] eK r a/\(bA=[]->r= .l [] U U)/\(bA≠[]->∃b,r= .m b (L bA)/\box a b=V ⟨p.2.1,p.2.2,U,I,bA⟩)
structure aSn(P:Program)(G:zp)(T:aPP):Prop where
 fp:∀fn,G.fp fn=J
 l:aYw P G T.l
 cl:a78 P G T.cl
def a6Q{fn:FuncId}{ys:List AV}{r:AV}:∀{T:aSo},aYw P G T->known fn ys T=V r->zm P G fn ys (·=r)
 |[],_,h=>by cases h
 |p::T,d,h=>by
  simp only[known] at h
  cases c:(aOU fn p.1&&aN6 (xqA 9) ys p.2.1) with
  |true=>
   rw[c] at h
   rw[bN] at c
   have e:=Nat.eq_of_beq_eq_true c.1
   have f:=aOC (λa b=>aYn) c.2
   obtain rfl:=Option.some.inj h
   subst e f
   exact d p (by simp)
  |false=>
   rw[c] at h
   exact a6Q (λq g=>d q<|by simp[g]) h
theorem a6a{fn:FuncId}{p:TypeId×Nat}:∀{T:List (FuncId×TypeId×Nat)},aRG fn T=V p->(fn,p)∈T
 |[],h=>by cases h
 |q::T,h=>by
  simp only[aRG] at h
  cases a:aOU fn q.1 with
  |true=>
   grind [Nat.eq_of_beq_eq_true]
  |false=>rw[a] at h;exact List.mem_cons_of_mem _<|a6a h
theorem bbj{T:aPP}(l:aSn P G T){fn:FuncId}{p:TypeId×Nat}{xs:List AV}{Y Y':ae}{d:Nat}{r:AV}(o:aRG fn T.cl=V p)(i:(xs.map<|dG Y).all iX=U/\aRI Y d=U)(h:aWe Y d p (xs.map<|dG Y)=V (r,Y')){K:be}(g:K r Y'):zI P G fn xs Y d K:=by have f:=l.cl _<|a6a o;refine⟨i.1,i.2,?_⟩;generalize xs.map (dG Y)=ys at*;unfold aWe at h;split at h;(cases h);obtain⟨r,a,c,j,_⟩:=f [] (by simp) (by decide);exact⟨r,a,c, .inl ⟨j rfl,g⟩⟩;rename_i q bA;split at h;rename_i e;cases h;obtain⟨e,n⟩:=e;rw[List.all_eq_true] at e;obtain⟨r,a,c,_,k⟩:=f (q::bA) (by simp_all) n;obtain⟨b,rfl,m⟩:=k (by simp);refine⟨_,a,c, .inr ⟨b,_,_,rfl,m,?_,g⟩⟩;grind [qA];(cases h);cases h
theorem bbi(z:tQ P){T:aPP}(t:aSn P G T){E:aQb}(s:aUx P G E):aRe P G (aRJ P G T E):=by intro fn xs Y d r Y' h K k;unfold aRJ at h;unfold Xcl;split at h;(cases h);rename_i f v;split at h;(cases h);rename_i c u;split at h;(cases h);rename_i C;split at h;rename_i A;rw[lC A];split at h;rename_i a;split at h;rename_i p y;exact .inl<|bbj t y a h k;split at h;rename_i e F q o;split at h;rename_i m;split at h;rename_i B g;have j:=a6j z s v u C o m g;unfold a6k at h;split at h;(cases h);exact .inl ⟨a.1,a.2,_,_,j, .inl ⟨rfl,k⟩⟩;rename_i b n;split at h;rename_i x O;split at h;rename_i M;cases h;exact .inl ⟨a.1,a.2,_,_,j,by grind⟩;(cases h);(cases h);rename_i cs;split at h;rename_i D;split at h;rename_i p y;cases h;exact .inr<|.inr ⟨a.1,a.2,cs,q,p.1,p.2,j,D,y,k⟩;(cases h);(cases h);(cases h);(cases h);(cases h);(cases h);(cases h);rename_i A;rw[j5 A];split at h;rename_i w;rw[lC w];split at h;rename_i e F q o;split at h;rename_i m;split at h;rename_i B g;have j:=a6j z s v u C o m g;split at h;rename_i H;split at h;grind [tR,aPf,bdG];rename_i N;cases h;unfold tR aPf;rw[t.fp fn];exact⟨_,_,j,H,by simp_all⟩;(cases h);(cases h);(cases h);(cases h);rename_i w;rw[j5 w];split at h;rename_i a;split at h;rename_i B g;split at h;rename_i i;cases h;exact⟨_,a6Q t.l g,a.1,i.1,i.2,k⟩;(cases h);split at h;rename_i e F q o;split at h;rename_i m;split at h;rename_i B g;split at h;rename_i i;cases h;refine⟨_,aBh z v u (by grind) a.2<|s _ _ _ _ _ _ o (QR P f (·=_)) ?_,a.1,i.1,i.2,k⟩;rcases aWD m with rfl|rfl<;>exact⟨_,g,i.1,rfl⟩;(cases h);(cases h);(cases h);(cases h);cases h
theorem bdK{p:Nat->Prop}:∀{n:Nat},p n->∃m,p m/\∀k,p k->m<=k:=by intro n;induction n using Nat.strongRecOn with|_ n a=>grind
theorem bbl(F:tQ P){T:aPP}(D:aSn P G T):∀n,aUx P G (ev P G T n):=by intro n;induction n using Nat.strongRecOn with|_ n A=>cases n with|zero=>intro c b Y e τ' Y' h;cases h|succ n=>have g:=A n<|Nat.lt_succ_self n;have C:=bbi (G:=G) F D g;intro c b Y e τ' Y' h Q f;have M:=h;change aRL P G T (ev P G T n) c b Y=_ at h;unfold aRL at h;split at h;(cases h;exact f);(cases h;exact f);split at h;rename_i p E;cases h;exact a6m C E f;(cases h);show sF P G _ _ _ _;grind [sF,a6m,bbk];rename_i x y;show iq P G x _ _ _;split at h;rename_i l u d;exact g _ _ _ _ _ _ d _<|g _ _ _ _ _ _ h _ f;rename_i q;refine g _ _ _ _ _ _ h _ ?_;(cases e<;>first|exact f|simp_all);rename_i cc x y;show(match du G b cc with| .s (.bool t)=>if t=U then iq P G x Q b Y else iq P G y Q b Y|_=>False);split at h;rename_i t N;split at h;rename_i d;rw[lC d];exact g _ _ _ _ _ _ h _ f;rename_i d;rw[j5 d];exact g _ _ _ _ _ _ h _ f;(cases h);rename_i H c;show iq P G c _ _ _;split at h;rename_i j l u d;refine g _ _ _ _ _ _ d _ ?_;show(if j=H then Q .normal _ _ else Q (.exit j) _ _);grind;rename_i q;refine g _ _ _ _ _ _ h _ ?_;(cases e<;>first|exact f|simp_all);rename_i c;clear h;let r:List AV->ae->Nat->Prop:=λb Y m=>ev P G T m (.loop c) b Y=V (e,τ',Y');let a:aG:=λb Y=>∃m,m<=n+1/\r b Y m;have i:∀b Y,∃m,a b Y->r b Y m/\(∀k,r b Y k->m<=k):=(by intro b Y;by_cases hI:a b Y;obtain⟨m,_,z⟩:=hI;obtain⟨k,d,v⟩:=bdK z;grind;simp_all);refine⟨a,λb Y=>Classical.choose<|i b Y,(by grind),?_⟩;intro b Y hI;obtain⟨d,v⟩:=Classical.choose_spec (i b Y) hI;generalize z:Classical.choose (i b Y)=m at d v;have K:m<=n+1:=(by grind);(cases m with|zero=>(cases d)|succ k=>have o:=A k (by omega);change aRL P G T (ev P G T k) (.loop c) b Y=_ at d;unfold aRL at d;simp only at d;split at d;rename_i l u B;refine o _ _ _ _ _ _ B _ ?_;have w:a l u:=⟨k,by omega,d⟩;refine⟨w,?_⟩;grind;rename_i q;refine o _ _ _ _ _ _ d _ ?_;cases e<;>first|exact f|simp_all);(cases h;exact f);(cases h;exact f);cases h
end
end Go.Ab
