/- Part of the proof of EncodeRecorded. -/
import Derived.Test.YtcceijpmabdflaaGreatDoorE
set_option linter.all false
set_option maxRecDepth 100000
open And renaming intro->ai
open Bool renaming and_eq_false_iff->bik,and_eq_true->bN,eq_false_or_eq_true->sq,false->I,false_eq_true->eE,not_eq_false'->fK,not_eq_true'->eH,not_false->kN,not_true->fh,or_eq_false_iff->cP,or_eq_true->fH,or_true->wY,true->U
open Decidable renaming decide->Q,not_not->aNS
open Go.IntKind renaming i64->dq
open Go.Proofs.Tryz renaming f181->CH,prog->aS
open Int renaming not_lt->aqC,toNat_natCast->bh
open List renaming all_eq_true->dV,append_nil->cL,cons.injEq->kO,cons_append->zn,drop_length->Gz,drop_succ_cons->nM,drop_zero->J3,ext_getElem?->aqI,flatMap_cons->Cz,flatMap_nil->RN,foldl_nil->aRl,getD_eq_getElem?_getD->eI,getElem?_append_left->xe,getElem?_cons_zero->qh,getElem?_eq_getElem->eC,getElem?_map->bj9,getElem_of_mem->ou,length->L,length_append->a6G,length_drop->oz,length_map->bJ,length_nil->aO1,length_set->zq,length_take->gC,map_append->dg,map_cons->ji,map_map->vA,map_nil->mU,map_set->vB,mem_append->dF,mem_cons->eW,mem_filter->jW,mem_flatMap->iI,mem_map->dN,mem_map_of_mem->CA,mem_of_mem_drop->CB,mem_of_mem_take->bnL,mem_or_eq_of_mem_set->CC,mem_range->fq,mem_singleton->cE,nil_append->dW,not_mem_nil->ql,range->aH,range_succ->qn,replicate->er,set_cons_zero->RY,take_length->gV,take_of_length_le->oB,take_succ_eq_append_getElem->iJ
open Nat renaming le_antisymm->bP,le_of_lt->aYB,le_refl->dA,lt_of_lt_of_le->bkb,lt_or_ge->jj,reduceAdd->dc,zero_add->aj
open Ne renaming symm->Sa
open Option renaming bind_some->aQd,map_some->df,none->J,some->V
namespace Go.Ab
open Go Go.RowKit Go.Proofs
section
variable{Y:ae}{P:List Int->Prop}{n:Nat}{d:Nat}{K:be}
def ba0{i:aNZ}{q ev:Int}{a1 f:AV}{y7:List Int}{J6:List (List Int)}(o:L Y=4096)(S:TSt Y P n a1 f y7 J6)(l:1<=i.op/\i.op<=5)(p:n<=1000)(g:P [])(k:∀a b,P a->P b->P (mP a b))(j:∀a,P a->L a<=1000)(m:∀r e,aSq Y P n a1 f ev r e->K r e):cB 267 [.a i.c, .a [iv q,a1,f,iv ev]] Y d K:=by refine jH rfl (bdr o S l p g k j) ?_;intro r e h;exact⟨h.1.len,m r e h⟩
theorem alD{g ev:Int}{f x2:AV}{y7:List Int}{J6:List (List Int)}(m:L Y=4096)(i:SlR Y 1 f<|y7.map ci)(j:SlR Y 1 x2<|J6.map cl)(o:∀q∈aA f,q.1≠1/\q.1≠3)(p:L y7=n)(s:L J6=n)(w:n<=1000)(l:∀t∈J6,P t)(v:∀a,P a->L a<=1000)(k:∀a1 c b,TSt b P n a1 c y7 J6->Fx Y b []->(∀q∈aA a1++aA c,ig Y q)->K (.a [iv g,a1,c,iv ev]) b):cB 266 [.a [iv g,f,x2,iv ev]] Y d K:=by refine jH rfl (a6M m i j o (by omega) (by omega)<|by simp_all) ?_;rintro r b ⟨a1,c,rfl,g1,h,F,p1,u⟩;refine⟨F.len,k a1 c b ⟨g1,h,p,s,l,λq e=>(p1 q e).2,λq e=>(u q e).2⟩ F λq e=>?_⟩;grind
end
def Tn(l:List Int):Prop:=jC l/\∀x∈l,0<=x/\x<1000
theorem Tn.len{l:List Int}(h:Tn l):L l<=1000:=by have key:∀i,i<L l->(i:Int)<=gd l i:=(by intro i;induction i with|zero=>intro a;exact(h.2 _<|asq a).1|succ i c=>intro a;have:=c (by omega);have:=h.1 i a;omega);rcases Nat.eq_zero_or_pos (L l) with b|b;omega;have:=key (L l-1) (by omega);have:=(h.2 _<|asq (l:=l) (k:=L l-1)<|by omega).2;omega
theorem Tn.nil:Tn []:=⟨λi a=>by simp at a,by simp⟩
theorem Tn.one{x:Int}(h:0<=x/\x<1000):Tn [x]:=⟨λi a=>by simp at a,by simpa using h⟩
theorem Tn.put{l:List Int}{x:Int}(h:Tn l)(b:0<=x/\x<1000):Tn (fk l x):=⟨Nz h.1,λy a=>(an1 a).elim (by omega)<|h.2 y⟩
def Tn.fold:∀(a:List Int) {l:List Int},Tn l->(∀x∈a,0<=x/\x<1000)->Tn (a.foldl fk l)|[],_,h,_=>h|x::a,_,h,b=>Tn.fold a (h.put<|b x<|by simp) (by simp_all)
def Tn.un(a b:List Int)(c:Tn a)(e:Tn b):Tn (mP a b):=by simp only[mP,jh,gV];exact Tn.fold b (Tn.fold a Tn.nil c.2) e.2
def ts0:aNQ:=⟨0,[],[],0⟩
def aQG(s s':aNQ):Prop:=(∀t∈s'.J6,Tn t)/\L s'.y7<=1000/\L s'.J6<=1000/\(s'.ac=s.ac\/s'.ac=0)
def bdq{Y:ae}{c:aTo}{s:aNQ}{x1 x2:AV}(hl:L Y=4096)(a7:SlR Y 1 x1<|s.y7.map ci)(a8:SlR Y 1 x2<|s.J6.map cl)(hp:∀q∈aA x1,q.1≠1/\q.1≠3)(p1:c.y7<=1000)(p2:L c.bid<1000000)(p3:L s.y7<1000000)(p4:L s.J6<1000000)(p5:∀t∈s.J6,Tn t):
  ∃r Y1,((∃(j:Bool) (s':aNQ),r= .t [.a s'.c,bv j]/\aQG s s')/\Fx Y Y1 [])/\cZ aS GG 235 [.a c.c, .a [iv s.pc,x1,x2,iv s.ac]] Y r Y1:=by
 generalize hQ:(λ(r:AV) (y:ae)=>(∃(j:Bool) (s':aNQ),aOo y r= .t [.a s'.c,bv j]/\aQG s s')/\Fx Y (kills y<|aNW r) [])=Qq
 refine aQR (R:=Qq) ?_ (by grind)
 refine bhd hl rfl rfl λs4 v2 v3 K4 bG nf2 bI b1 b2=>?_
 have M:Fx Y s4 []:=K4.fx []
 have aw:=M.len.trans hl
 have H1:=a7.fx M (by simp)
 have H2:=a8.fx M (by simp)
 simp only[aVc]
 refine ic aw λv5 s5 z N5 c5=>?_
 have d1:=z.kq b1
 have d2:=z.kq b2
 have ax:=z.len.trans aw
 have E:∀{x:List AV} {y:AV},aN J (y::x)=V y:=λ{x y}=>by cases y<;>rfl
 have G:∀{a b c d:AV},aN (V 4) [a,b,c,d]=V (.a [a,b,c,d]):=rfl
 have w:Fx Y s5 []:=M.trans z
 have aC:∀{x:ae} {cs:List AV} {s':aNQ} {j:Bool},cs.map (lz x)=s'.c->aQG s s'->Fx Y x []->(∀q∈cs.flatMap iR,∀y,box Y q≠V y)->aNN Qq x [.a cs,bv j]:=λ{x cs s' j} e h F hn=>by
  show Qq (.t [.a cs,bv j]) x
  rw[<-hQ]
  have e1:aOo x (.t [.a cs,bv j])= .t [.a s'.c,bv j]:=by
   show AV.t [nrm<|eR x<|.a cs,bv j]=_
   have:nrm (eR x<|.a cs)= .a (cs.map<|lz x):=by simp only[eR,nrm,vA];rfl
   rw[this,e]
  refine⟨⟨j,s',e1,h⟩,(F.trans<|aOp _ _).mono λq o=> .inr<|hn q ?_⟩
  grind [aNW,eB,iR]
 have n5:∀y,box Y (4,v5)≠V y:=(N5.old M).no
 have g:∀{x:ae} (j:Bool),Fx Y x []->box x (4,v5)=V ⟨251,4,U,U,[aoB]⟩->sV (aK 4 x (.p (4,v5) 0 0)<|.a aoB) λy=>rV (vp (V 4) y<|.p (4,v5) 0 0) λt=>aNN Qq y [t,bv I]:=λ{x} j F hb=>by
  refine stW hb rfl rfl λs6 D b6=>?_
  rw[aEa b6 rfl]
  exact aC (s':=ts0) rfl ⟨by simp[ts0],by simp[ts0],by simp[ts0], .inr rfl⟩ ((F.trans D).mono<|by simp_all) (by simp[iR])
 have X:fS s5 x1=V (iv<|L s.y7):=by rw[(H1.fx z<|by simp).ln,bJ]
 have aB:fS s5 x2=V (iv<|L s.J6):=by rw[(H2.fx z<|by simp).ln,bJ]
 rcases l:Q ((L s.y7:Int)≠c.y7) with _|_
 ·have q1:(L s.y7:Int)=c.y7:=by grind
  rcases C:Q ((L s.J6:Int)≠c.y7) with _|_
  ·have q2:(L s.J6:Int)=c.y7:=by grind
   simp only[qz 6,u0,u1,d1,d2,pz,E,X,aB,aj,l,C,↓jA,↓iB,G]
   refine alD (P:=Tn) (n:=L s.y7) ax (H1.fx z<|by simp) (H2.fx z<|by simp) hp rfl (by omega) (by omega) p5 (λa h=>h.len) λa1 T s6 S6 D N6=>?_
   simp only[qz 10,qy 12]
   have aX:=D.kq d1
   have a0:=D.kq d2
   have aV:=D.kq c5
   refine stW a0 rfl rfl λs7 N b7=>?_
   have aZ:=N.kq aX
   have aW:=N.kq aV
   have S7:=S6.fx N (by simp)
   have a5:=(N.len.trans D.len).trans ax
   refine yV (L c.bid+1) (λk _ x=>∃u y7 J6,Fx Y x []/\L x=4096/\box x (2,v2)=V ⟨247,2,U,U,[c.c]⟩/\box x (3,v3)=V ⟨251,4,U,U,[[iv u,a1,T,iv s.ac]]⟩/\box x (4,v5)=V ⟨251,4,U,U,[aoB]⟩/\TSt x Tn (L s.y7) a1 T y7 J6) ⟨_,_,_,((w.trans D).trans N).mono (by grind),a5,aZ,b7,aW,S7⟩ ?_
   rintro k _ x hk ⟨u,y7,J6,H,az,m1,Z,m3,S⟩
   have kk:∀{y:AV},Q ((k:Int)<=(L c.bid:Int))=U->k<L c.bid+1:=(by grind)
   rcases hx:Q ((k:Int)<=(L c.bid:Int)) with _|_
   ·simp only[qz 43,qy 14,qy 16,qy 34,au,aI,u0,u1,m1,Z,pz,E,aj,hx,↓iB]
    exact g I H m3
   have bD:k<=L c.bid:=by grind
   rcases l:Q (u<0) with _|_
   ·rcases C:Q (u>=(L c.bid:Int)) with _|_
    ·have a3:aF (L c.bid) u:=by
      simp only[aNK] at l C
      exact⟨by omega,by omega⟩
     simp only[qz 43,qy 16,qy 34,au,aI,u0,u1,m1,Z,rk,pz,E,aj,hx,l,C,ixv,↓jA,↓iC,↓iB]
     refine⟨a3,anu az λv7 s8 A N8 b8=>?_⟩
     have n1:=A.kq m1
     have n2:=A.kq Z
     have n3:=A.kq m3
     have S8:=S.fx A (by simp)
     have ay:=A.len.trans az
     generalize hI:gd c.bid u.toNat=i at b8⊢
     have ri:aN (V 6) i.c=V (.a i.c):=rfl
     rcases hs:(Q (1<=i.op)&&Q (i.op<=5)) with _|_
     ·simp only[qz 18,qy 20,qy 22,u0,u1,n2,b8,pz,G,aj,ar,aTd,rr,hs,↓iC]
      refine stW n3 rfl rfl λs9 B b9=>?_
      simp only[b9,aQd,qh,df,G,aY]
      have m:=S8.fx B (by simp)
      exact aC (s':=⟨u,y7,J6,s.ac⟩) (by simp only[ji,mU,aQ5,aOb m.g1,aOb m.g2];rfl) ⟨m.hP,by have:=m.n1;simp only;omega,by have:=m.n2;simp only;omega, .inl rfl⟩ (((H.trans A).trans B).mono<|by grind) (λq o=>by
       have e9:([iv u,a1,T,iv s.ac]:List AV).flatMap iR=aA a1++aA T:=by simp only[Cz,RN,aQX m.g1,aQX m.g2];simp[iR]
       rw[e9] at o
       exact((N6 q o).old w).no)
     have a6:1<=i.op/\i.op<=5:=by grind
     rcases o:Q ((k:Int)=(L c.bid:Int)) with _|_
     ·simp only[qz 18,qy 20,u0,u1,n1,n2,b8,pz,G,ri,aj,ar,aTd,rr,hs,o,↓iB]
      refine ba0 ay S8 a6 (by omega) Tn.nil Tn.un (λa h=>h.len) λr s9 h9=>?_
      obtain⟨B,h9⟩:=h9
      have bH:∀{b:Id},b.1≠12->b.1≠31->b∉aA a1++aA T:=λl C o=>by
       rcases dF.1 o with h|h
       ·exact l (S.p1 _ h)
       ·exact C (S.p2 _ h)
      have o1:=B.keep _ _ (by grind) n1
      have o2:=B.keep _ _ (by grind) n2
      have o3:=B.keep _ _ (by grind) n3
      have W:=B.len.trans ay
      have O:Fx Y s9 []:=((H.trans A).trans B).mono λq o=> .inr ((N6 q<|by grind).old w).no
      rcases h9 with rfl|⟨ba,j,ap,ab,rfl,m⟩
      ·simp only[qz 24,qy 26,oJ,pG,aY]
       refine anu W λbd bb f aO av=>?_
       have q1:=f.kq o1
       have q2:=f.kq o2
       have q3:=f.kq o3
       simp only[qz 28,qy 30,u0,u1,↓iC]
       exact g I (O.trans f) q3
      ·simp only[qz 24,qy 26,oJ,pG,aY]
       refine anu W λbd bb f aO av=>?_
       have q1:=f.kq o1
       have q2:=f.kq o2
       have q3:=f.kq o3
       have aQ:=m.fx f (by simp)
       cases j with
       |false=>
        simp only[qz 28,qy 30,u0,u1,↓iC]
        exact g I (O.trans f) q3
       |true=>
        simp only[qz 28,u0,u1,av,G,↓iB]
        refine stW q2 rfl rfl λbK v aU=>?_
        simp only[qz 32,au,u0,u1]
        have bF:k≠L c.bid:=by grind
        exact dR (mk:=λ(_:Unit) i=>[iv i]) (s:=()) (s':=()) (λ_ _=>rfl) (by omega) (by omega) ⟨ba,ap,ab,((O.trans f).trans v).mono (by grind),(v.len.trans f.len).trans W,v.kq q1,aU,v.kq q3,aQ.fx v<|by simp⟩
     ·simp only[qz 18,qy 20,qy 22,u0,u1,n1,n2,b8,pz,G,aj,ar,aTd,rr,hs,o,↓iB,↓iC]
      exact g I (H.trans A) n3
    ·simp only[qz 43,qy 14,qy 34,au,aI,u0,u1,m1,Z,pz,E,aj,hx,l,C,↓jA,↓iC,wY]
     exact g I H m3
   ·simp only[qz 43,qy 14,qy 16,qy 34,au,aI,u0,u1,m1,Z,pz,E,aj,hx,l,↓jN,aUw,↓iC]
    exact g I H m3
  ·simp only[qz 6,qy 8,u0,u1,d1,d2,pz,E,X,aB,aj,l,C,↓jA,↓iC,wY]
   exact g I w c5
 ·simp only[qz 6,qy 8,u0,u1,d1,d2,pz,E,X,aj,l,↓jN,aUw,↓iC,G]
  exact g I w c5
def baY{Y:ae}{c:aTo}{s:aNQ}{b x2:AV}{d:Nat}{K:be}(g:L Y=4096)(e:SlR Y 1 b<|s.y7.map ci)(f:SlR Y 1 x2<|s.J6.map cl)(h:∀q∈aA b,q.1≠1/\q.1≠3)(p1:c.y7<=1000)(j:L c.bid<1000000)(k:L s.y7<1000000)(l:L s.J6<1000000)(m:∀t∈s.J6,Tn t)(o:∀(i:Bool) (s':aNQ) Y1,aQG s s'->Fx Y Y1 []->K (.t [.a s'.c,bv i]) Y1):cB 235 [.a c.c, .a [iv s.pc,b,x2,iv s.ac]] Y d K:=by refine jH rfl (bdq g e f h p1 j k l m) ?_;grind [Fx.len]
def aYd:dO:=a7E
def a7n:eJ aYd:=a7m
def bcx:=@aTd
section
attribute[local irreducible] aX
def aSz a b R:=(.mk _:NF<|zF GGV aYd atW Tryz.f234 [.u] [a] b<|QDb Tryz.f234 R).p
def bhg{c0:List AV}{s0:ae}{R:be}(hs:L s0=4096)(l0:L c0=7)(h:HB1 124 7 1 c0 s0 λc b=>aSz c b R):EB 234 [.a c0] s0 R:=aTc<|zB1 atW (aQ9 a7n) Tryz.func234 hs l0 h
end
section
variable{ks:List Nat}{l l':List Id}{Y Y' Y1:ae}
theorem aTi{e:TypeId}{z:Nat}{a:AV}{bA:List (List AV)}(g:qc Y e z a bA):∀q∈aA a,∃x,box Y q=V x:=by rcases g with⟨_,rfl⟩|⟨b,m,rfl,h⟩;simp[aA];grind [aA]
theorem aQu{e:TypeId}{z k:Nat}{a:AV}{bA:List (List AV)}(g:qc Y e z a bA)(h:k∈dK a):∃q∈aA a,q.1=k:=by rcases g with⟨_,rfl⟩|⟨b,m,rfl,_⟩;grind [k1l];grind [k1m,aA]
end
def baT{y ev:Int}{A x2:AV}{y7:List Int}{J6:List (List Int)}{Y:ae}{d:Nat}{K:be}(O:L Y=4096)(E:A=sl ci y7)(G:x2=sl cl J6)(B:L y7<=1000)(C:L J6<=1000)(D:∀t∈J6,L t<=1000)(l:List Id)(W:∀p∈l,∃e z a bA,qc Y e z a bA/\p∈aA a)(X:∀p∈l,p.1=12\/p.1=31)(M:∀a1 b Y',qc Y' 2 1 a1 (y7.map ci)->qc Y' 38 1 b (J6.map cl)->Kx [12,31] Y Y'->(∀{e z a bA},qc Y e z a bA->(∀q∈aA a,q∈l)->qc Y' e z a bA)->(∀q∈aA a1,q∉l/\q.1=12)->(∀q∈aA b,q∉l/\q.1=31)->K (.a [iv y,a1,b,iv ev]) Y'):cV 266 [.a [iv y,A,x2,iv ev]] Y d K:=by subst E G;have o:L (bim [12,31] l Y)=4096:=aOr.trans O;have T:∀{l':List Id} {q:Id},q.1=12\/q.1=31->q∈l'->okI [12,31] l' q:=λh H=>⟨by rcases h with h|h<;>simp[h],H⟩;have N:∀{e z a bA},qc Y e z a bA->(∀q∈aA a,q∈l)->qc (bim [12,31] l Y) e z a bA:=(by grind [a6y]);refine aQN rfl rfl l (λx j=>?_) ?_ (a6M o (.inl ⟨_,_,rfl⟩) (.inl ⟨_,_,rfl⟩) (by simp[aA,sl]) B C D) ?_;simp only[cE] at j;subst j;intro c g;simp only[eW,ql,bjz] at g;rcases g with rfl|rfl|rfl|rfl;trivial;exact .inl (by simp[eN]);exact .inl (by simp[eN]);trivial;intro p s x j R;grind [aOV,aNO];rintro r Y1 ⟨a1,b,rfl,g1,m,F,p1,S⟩;have i:L Y1=L Y:=F.len.trans aOr;have v:∀q∈aA a1,okI [12,31] (l++(aA a1++aA b)) q:=(by grind);have w:∀q∈aA b,okI [12,31] (l++(aA a1++aA b)) q:=(by grind);have P:∀q∈l,∃x,box (bim [12,31] l Y) q=V x:=(by grind [aTi,aOV]);refine⟨i,l++(aA a1++aA b),λp s x j R=>?_,λc g=>?_,M a1 b _ (aRR i g1 v) (aRR i m w) Kx.mix (by grind [aRR,qc.fx]) (λq k=>⟨λu=>?_,(p1 q k).2⟩) λq k=>⟨λu=>?_,(S q k).2⟩⟩;grind [Fx.keep,aNO,aOV];simp only[eW,ql,bjz] at g;rcases g with rfl|rfl|rfl|rfl;trivial;exact aQw g1 v;exact aQw m w;trivial;grind [ig.no];grind [ig.no]
def aTn{b:Id}{i j:Nat}:m8 (.p b i j)=[b.1]:=rfl
def a6H{r:List (List AV)}{t o:Bool}:m8 (.l r t o)=[]:=rfl
def bc7{α:Type}{f:α->List AV}{l:List α}:m8 (sl f l)=[]:=rfl
def aWx{Y:ae}{ds:List Nat}{e:TypeId}{z:Nat}{a:AV}{bA:List (List AV)}(g:Gr Y ds e z a bA):qc Y e z a bA/\∀q∈aA a,q.1∈ds:=by rcases g with⟨b,c⟩|⟨d,v,b,c,h⟩;exact⟨.inl ⟨b,c⟩,by grind [aA]⟩;refine⟨.inr ⟨_,[],b,by simpa using h⟩,?_⟩;grind [aA]
def bnf{Y:ae}{x:Int}{o p r:TypeId}{z1 z2 z3 i j m:Nat}{a1 b c:AV}{w y z:List (List AV)}(g1:qc Y o z1 a1 w)(s:qc Y p z2 b y)(t:qc Y r z3 c z)(p1:∀q∈aA a1,q.1=i)(u:∀q∈aA b,q.1=j)(v:∀q∈aA c,q.1=m):∀k∈m8 (.a [a1,iv x,b,c]),k=i\/k=j\/k=m:=λk g=>by
 have e:m8 (.a [a1,iv x,b,c])=dK a1++(dK b++dK c):=by simp[m8,dC,dK]
 rw[e] at g
 simp only[dF] at g
 rcases g with h|h|h
 ·obtain⟨q,d,rfl⟩:=aQu g1 h;exact .inl<|p1 q d
 ·obtain⟨q,d,rfl⟩:=aQu s h;exact .inr<|.inl<|u q d
 ·obtain⟨q,d,rfl⟩:=aQu t h;exact .inr<|.inr<|v q d
def bjx{s:aW}{Y:ae}{d:Nat}{K:be}(z:L Y=4096)(i:L s.ak<100000/\L s.done<100000/\L s.ay<100000/\∀l∈s.ak,L l.bk<1000000)(E:∀a1 b e Y',Kx [10,14,41] Y Y'->qc Y' 184 2 a1 (s.ak.map cg.c)->qc Y' 4 1 b (s.done.map cb)->qc Y' 138 3 e (s.ay.map aoC.c)->(∀q∈aA a1,q.1=41)->(∀q∈aA b,q.1=10)->(∀q∈aA e,q.1=14)->K (.a [a1,iv s.tx,b,e]) Y'):cV 177 [.a s.c] Y d K:=by have m:L (bim [10,14,41] [] Y)=4096:=aOr.trans z;refine aQN rfl rfl [] (λx j=>?_) (by intro p i;simp at i) (aCH s m i) ?_;simp only[cE] at j;subst j;intro c g;simp only[aW.c,eW,ql,bjz] at g;rcases g with rfl|rfl|rfl|rfl;exact .inl (by simp[eN]);trivial;exact .inl (by simp[eN]);exact .inl (by simp[eN]);rintro r Y1 ⟨⟨a1,b,e,rfl,g1,o,t⟩,F⟩;obtain⟨v,M⟩:=aWx g1;obtain⟨w,N⟩:=aWx o;obtain⟨y,O⟩:=aWx t;have k:L Y1=L Y:=F.1.trans aOr;have H:∀{q:Id},q.1=10\/q.1=14\/q.1=41->q∈aA a1++(aA b++aA e)->okI [10,14,41] (aA a1++(aA b++aA e)) q:=λh u=>⟨by rcases h with h|h|h<;>simp[h],u⟩;have A:∀q∈aA a1,okI [10,14,41] (aA a1++(aA b++aA e)) q:=(by grind);have B:∀q∈aA b,okI [10,14,41] (aA a1++(aA b++aA e)) q:=(by grind);have C:∀q∈aA e,okI [10,14,41] (aA a1++(aA b++aA e)) q:=(by grind);refine⟨k,aA a1++(aA b++aA e),λp D x j G=>?_,λc g=>?_,by grind [Kx.mix,aRR]⟩;grind [aNO];simp only[eW,ql,bjz] at g;rcases g with rfl|rfl|rfl|rfl;exact aQw v A;trivial;exact aQw w B;exact aQw y C
def baS{s:aW}{Y:ae}{d:Nat}{K:be}(m:L Y=4096)(o:L s.ak<100000/\L s.done<100000/\L s.ay<100000/\∀l∈s.ak,L l.bk<1000000)(i:∀a1 b e Y',Kx [10,14,41] Y Y'->(∀k∈m8 (.a [a1,iv s.tx,b,e]),k=10\/k=14\/k=41)->K (.a [a1,iv s.tx,b,e]) Y'):cV 177 [.a s.c] Y d K:=bjx m o λa1 b e Y' iq g1 g h p1 p q=>i a1 b e Y' iq λk j=>by have:=bnf g1 g h p1 p q k j;omega
def alx(f:Nat->AV×AV)(ss:List aNQ)(n:Nat):List (List AV):=(aH n).map λk=>[iv (gd ss k).pc,(f k).1,(f k).2,iv (gd ss k).ac]
def G2(vr:Bool)(Y:ae)(a:AV)(t:List<|List Int):Prop:=bif vr then t=er (L t) []/\∃b,a= .m b (L t)/\box Y b=V ⟨38,1,U,U,er (L t) [.l [] U U]⟩ else qc Y 38 1 a (t.map cl)
theorem G2.fx{vr:Bool}{Y Y':ae}{a:AV}{t:List (List Int)}{Lw:List Id}(g:G2 vr Y a t)(F:Fx Y Y' Lw)(h:∀q∈aA a,q∉Lw):G2 vr Y' a t:=by cases vr with|false=>exact qc.fx g F h|true=>obtain⟨c,b,rfl,d⟩:=g;exact⟨c,b,rfl,F.keep _ _ (h b<|by simp[aA]) d⟩
def aWh{Y:ae}{e:TypeId}{z:Nat}{a:AV}{bA:List (List AV)}(g:qc Y e z a bA):frN Y a= .l bA I I:=by rcases g with⟨rfl,rfl⟩|⟨b,m,rfl,c⟩;rfl;simp[frN,aOn,c,gK]
theorem G2.fr{vr:Bool}{Y:ae}{a:AV}{t:List (List Int)}(g:G2 vr Y a t):frN Y a=sl cl t:=by cases vr with|false=>exact aWh g|true=>obtain⟨i,b,rfl,e⟩:=g;have d:(((er (L t) [AV.l [] U U]).take<|L t).all λr=>r.all λc=>eN<|frM Y c)=U:=(by rw[dV];intro r h;rw[(List.mem_replicate.1<|bnL h).2];rfl);simp only[frN,aOn,e,d,aPI,gK];grind [sl,List.map_replicate,frM,gi,gK,cl]
structure TTs(pl:Nat×Nat×Nat)(vr:Bool)(Y:ae)(a:AV)(f:Nat->AV×AV)(ss:List aNQ)(n:Nat):Prop where
 bx:(n=0/\a= .l [] U U)\/∃b,a= .m b n/\b.1=pl.2.2/\box Y b=V ⟨251,4,U,U,alx f ss n⟩
 g1:∀k,k<n->qc Y 2 1 (f k).1 ((gd ss k).y7.map ci)
 g2:∀k,k<n->G2 vr Y (f k).2 (gd ss k).J6
 p1:∀k,k<n->∀q∈aA (f k).1,q.1=pl.1
 p2:∀k,k<n->∀q∈aA (f k).2,q.1=pl.2.1
 d1:∀i j,i<n->j<n->i≠j->∀q∈aA (f i).1,q∉aA (f j).1
 d2:∀i j,i<n->j<n->i≠j->∀q∈aA (f i).2,q∉aA (f j).2
theorem aQ8{f:Nat->AV×AV}{ss:List aNQ}{n:Nat}:L (alx f ss n)=n:=by simp[alx]
def aTy{f:Nat->AV×AV}{ss:List aNQ}{n k:Nat}(h:k<n):(alx f ss n)[k]?=V [iv (gd ss k).pc,(f k).1,(f k).2,iv (gd ss k).ac]:=by simp[alx,bj9,List.getElem?_range h]
def ext(f:Nat->AV×AV)(n:Nat)(x:AV×AV):Nat->AV×AV:=λk=>if k=n then x else f k
theorem be5{f:Nat->AV×AV}{ss:List aNQ}{n:Nat}{x:AV×AV}:alx (ext f n x) ss (n+1)=alx f ss n++[[iv (gd ss n).pc,x.1,x.2,iv (gd ss n).ac]]:=by simp only[alx,qn,dg,ji,mU,ext,aPI];grind [List.map_congr_left]
section
variable{pl:Nat×Nat×Nat}{vr:Bool}{Y Y':ae}{a:AV}{f:Nat->AV×AV}{ss:List aNQ}{n:Nat}
def aPi(f:Nat->AV×AV)(n:Nat):List Id:=(aH n).flatMap λk=>aA (f k).1++aA (f k).2
theorem aXS{q:Id}(h:q∈aPi f n):∃k,k<n/\(q∈aA (f k).1\/q∈aA (f k).2):=by grind [aPi]
theorem aWy{k:Nat}(b:k<n):∀q∈aA (f k).1,q∈aPi f n:=(by grind [aPi])
theorem aWz{k:Nat}(b:k<n):∀q∈aA (f k).2,q∈aPi f n:=(by grind [aPi])
theorem TTs.fx(T:TTs pl vr Y a f ss n){Lw:List Id}(F:Fx Y Y' Lw)(d:∀q∈Lw,q.1≠pl.1/\q.1≠pl.2.1/\q.1≠pl.2.2):TTs pl vr Y' a f ss n:=⟨(by grind [TTs.bx,Fx.keep]),λk b=>(T.g1 k b).fx F λq c h=>(d q h).1<|T.p1 k b q c,λk b=>(T.g2 k b).fx F λq c h=>(by grind [TTs.p2]),T.p1,T.p2,T.d1,T.d2⟩
theorem TTs.ids(T:TTs pl vr Y a f ss n):∀q∈aA a,q.1=pl.2.2:=by rcases T.bx with⟨_,rfl⟩|⟨b,rfl,h,_⟩;simp[aA];grind [aA]
theorem TTs.ce(T:TTs pl vr Y a f ss n):eY a=V [a]:=by rcases T.bx with⟨_,rfl⟩|⟨b,rfl,h,_⟩<;>rfl
theorem a7Q{r ev:Int}{p x2:AV}{o d by':Nat}{zs z0:List AV}{K:AV->be}(T:TTs pl vr Y a f ss n)(hz:L zs=4)(A:L z0=4)(G:o<L Y)(O:d=pl.2.2)(al:d<L Y)(h3:pl.2.2≠pl.1/\pl.2.2≠pl.2.1)(hb:(n+1)*(by'+1)<=1099511627776)(R:r=(gd ss n).pc)(P:ev=(gd ss n).ac)(g1:qc Y 2 1 p<|(gd ss n).y7.map ci)(Z:G2 vr Y x2 (gd ss n).J6)(p1:∀q∈aA p,q∉aPi f n/\q.1=pl.1)(D:∀q∈aA x2,q∉aPi f n/\q.1=pl.2.1)(hK:∀y M Y',(∃v,y= .m (o,v) 1)->TTs pl vr Y' M (ext f n (p,x2)) ss (n+1)->Fx Y Y' (aA a)->(∀q∈aA M,∀x,box Y q≠V x)->K y M Y'):eV (lvS 251 zs 1 Y o [(0, .a [iv r,p,x2,iv ev])]) λy s=>eV (avA 251 z0 by' s d a y) (K y):=by subst R P;have h1:lvS 251 zs 1 Y o [(0, .a [iv (gd ss n).pc,p,x2,iv (gd ss n).ac])]=V (.m (zt Y o) 1,put Y o ⟨251,L zs,U,U,[[iv (gd ss n).pc,p,x2,iv (gd ss n).ac]]⟩):=(by grind [lvS,eY,aRI]);rw[h1];show eV (avA 251 z0 by' (put Y o _) d a<|.m (zt Y o) 1)<|K<|.m (zt Y o) 1;have u:Fx Y (put Y o ⟨251,L zs,U,U,[[iv (gd ss n).pc,p,x2,iv (gd ss n).ac]]⟩) []:=kH G;have N:=be7 (x:=(⟨251,L zs,U,U,[[iv (gd ss n).pc,p,x2,iv (gd ss n).ac]]⟩:bY)) G;generalize put Y o ⟨251,L zs,U,U,[[iv (gd ss n).pc,p,x2,iv (gd ss n).ac]]⟩=B at*;have X:=T.fx u (by simp);have am:=u.len;have S:aEx U B (.m (zt Y o) 1)=V [[iv (gd ss n).pc,p,x2,iv (gd ss n).ac]]:=(by simp[aEx,N]);have mk:∀(C:ae) (b:Id),b.1=pl.2.2->(∀x,box Y b≠V x)->Fx Y C (aA a)->box C b=V ⟨251,4,U,U,alx f ss n++[[iv (gd ss n).pc,p,x2,iv (gd ss n).ac]]⟩->K (.m (zt Y o) 1) (.m b<|n+1) C:=λC b ak hn F W=>(by have H:∀q∈aA a,q.1≠pl.1/\q.1≠pl.2.1:=λq g=>(by grind [TTs.ids]);refine hK _ _ C ⟨_,rfl⟩ ⟨(by grind [be5]),λk z=>?_,λk z=>?_,λk z=>?_,λk z=>?_,λi j hi hj t=>?_,λi j hi hj t=>?_⟩ F λq g=>?_;by_cases e:k=n;subst e;simp only[ext,aPI];grind [qc.fx];simp only[ext,j5 e];exact(T.g1 k<|by omega).fx F λq g h=>(H q h).1 (T.p1 k (by omega) q g);by_cases e:k=n;subst e;simp only[ext,aPI];grind [G2.fx];simp only[ext,j5 e];exact(T.g2 k<|by omega).fx F λq g h=>(H q h).2 (T.p2 k (by omega) q g);by_cases e:k=n;subst e;simp only[ext,aPI];grind;simp only[ext,j5 e];exact T.p1 k (by omega);by_cases e:k=n;subst e;simp only[ext,aPI];grind;simp only[ext,j5 e];exact T.p2 k (by omega);intro q g c;by_cases e:i=n;subst e;simp only[ext,aPI,j5<|Sa t] at g c;exact(p1 q g).1 (aWy (by omega) q c);by_cases w:j=n;subst w;simp only[ext,aPI,j5 e] at g c;exact(p1 q c).1 (aWy (by omega) q g);simp only[ext,j5 e,j5 w] at g c;exact T.d1 i j (by omega) (by omega) t q g c;intro q g c;by_cases e:i=n;subst e;simp only[ext,aPI,j5<|Sa t] at g c;exact(D q g).1 (aWz (by omega) q c);by_cases w:j=n;subst w;simp only[ext,aPI,j5 e] at g c;exact(D q c).1 (aWz (by omega) q g);simp only[ext,j5 e,j5 w] at g c;exact T.d2 i j (by omega) (by omega) t q g c;grind [aA]);unfold avA;rw[S];simp only[List.length_cons,aO1];rw[j5 (by decide),lC ⟨by omega,by simp[aRI];omega,by simp[A]⟩];rcases X.bx with⟨h0,rfl⟩|⟨b,rfl,ah,E⟩;subst h0;simp only;rw[lC ⟨by simp,by grind [lx]⟩];refine mk _ (zt B d) O (λx W=>(qQ B d).no x<|u.kq W) ((u.trans<|kH<|by omega).mono<|by simp) ?_;rw[<-A];exact be7 (by omega);simp only[E];rw[lC ⟨trivial,trivial,A.symm,by simp[aQ8],by grind [lx]⟩];have z:d<L (kill B b):=(by rw[yg];omega);refine mk _ (zt B d) O (by grind [ig.no,qQ,Fx.keep]) (((u.trans<|Le E).trans<|kH z).mono<|by simp[aA]) ?_;grind [anF,aQ8,be7]
end
def TTs.fz{pl:Nat×Nat×Nat}{vr:Bool}{Y:ae}{a:AV}{f:Nat->AV×AV}{ss:List aNQ}(T:TTs pl vr Y a f ss<|L ss):fz Y a=sl aNQ.c ss:=by rcases T.bx with⟨m,rfl⟩|⟨b,rfl,_,p⟩;have:=List.length_eq_zero_iff.1 m;subst this;rfl;have h:(alx f ss<|L ss).map (·.map (frN Y))=ss.map aNQ.c:=(by refine aqI λk=>?_;rcases jj k (L ss) with d|d;rw[bj9,aTy d,bj9,eC d];have i:=aWh<|T.g1 k d;have j:=(T.g2 k d).fr;simp only[df,ji,mU,i,j,bT d];rfl;grind [aQ8]);have e:(alx f ss<|L ss).take (L ss)=alx f ss (L ss):=(by grind [aQ8]);have o:((alx f ss<|L ss).all λr=>r.all λc=>eN<|frN Y c)=U:=(by rw[dV];intro r q;rw[dV];intro c t;have g:=CA (f:=(·.map (frN Y))) q;rw[h] at g;obtain⟨s,_,hs⟩:=dN.1 g;grind [CA,aNQ.c,eN,sl]);simp only[Ab.fz,dQ,p,e,o,aPI,h];rw[j5<|by decide];rfl
theorem Kx.fx{ks:List Nat}{Y Y' b:ae}{Lw:List Id}(k:Kx ks Y Y')(F:Fx Y' b Lw)(h:∀q∈Lw,q.1∈ks\/∀x,box Y q≠V x):Kx ks Y b:=⟨F.len.trans k.len,by grind [Fx.keep,Kx.keep]⟩
theorem Kx.kx{ks ks':List Nat}{Y Y' b:ae}(k:Kx ks Y Y')(c:Kx ks' Y' b)(h:∀n∈ks',n∈ks):Kx ks Y b:=⟨c.len.trans k.len,by grind [Kx.keep]⟩
theorem Kx.no{ks:List Nat}{Y Y':ae}{b:Id}(k:Kx ks Y Y')(c:b.1∉ks)(h:∀x,box Y' b≠V x):∀x,box Y b≠V x:=(by grind [Kx.keep])
def a79(Y:ae)(s:atC)(r:AV)(Y1:ae):Prop:=∃a1 d e c b a f,r= .a [a1,iv s.gp.tx,d,e,c,b,a]/\(∀k∈m8 (.a [a1,iv s.gp.tx,d,e]),k=10\/k=14\/k=41)/\qc Y1 2 1 c (s.cells.map ci)/\qc Y1 2 1 b (s.bU.map ci)/\TTs (12,31,33) I Y1 a f s.ay (L s.ay)/\Kx [10,12,14,31,41] Y Y1/\(∀q∈aA c,q.1=11/\∀x,box Y q≠V x)/\(∀q∈aA b,q.1=15/\∀x,box Y q≠V x)/\∀q∈aA a,∀x,box Y q≠V x
def bds{s:atC}{Y:ae}(hl:L Y=4096)(h1:L s.gp.ak<100000/\L s.gp.done<100000/\L s.gp.ay<100000/\∀l∈s.gp.ak,L l.bk<1000000)(h2:L s.cells<=1000)(K:L s.bU<=1000)(h4:L s.ay<=1000)(h5:∀t∈s.ay,L t.y7<=1000/\L t.J6<=1000/\∀x∈t.J6,L x<=1000):∃r Y1,a79 Y s r Y1/\cZ aS GG 234 [.a s.c] Y r Y1:=by refine bhg hl rfl λs2 v1 K2 ca nf b1=>?_;have F2:Fx Y s2 []:=K2.fx [];have ah:=F2.len.trans hl;simp only[aSz];refine ic ah λv2 s3 F3 N3 b3=>?_;have c1:=F3.kq b1;have al:=F3.len.trans ah;have k1:∀{x:List AV} {y:AV},aN J (y::x)=V y:=λ{x y}=>(by cases y<;>rfl);have k7:=@r7A;simp only[qz 4,qy 6,u0,u1,c1,pz,aj];refine baS al h1 λa1 D E s8 W bg=>?_;have bj:=W.len.trans al;have af:=W.kq c1;have a0:=W.kq b3;simp only[nS,bQ,qz 8,qy 10,u0,u1,af,pz,aj];refine apV (bA:=[]) (e:=2) (z:=1) (new:=s.cells.map ci) (.inl ⟨rfl,rfl⟩) rfl rfl (by decide) (by omega) (by simp) fF (by simp;omega) λB s9 X F9 P9=>?_;simp only[dW] at X;have A:Fx s8 s9 []:=F9.mono (by simp[aA]);have ab:∀q∈aA B,ig s8 q/\q.1=11:=(by grind [aA]);have bl:=A.len.trans bj;have ag:=A.kq af;have a6:=A.kq a0;simp only[qz 12,u0,u1,ag,pz,aj];refine apV (bA:=[]) (e:=2) (z:=1) (new:=s.bU.map ci) (.inl ⟨rfl,rfl⟩) rfl rfl (by decide) (by omega) (by simp) fF (by simp;omega) λC ap Z aP b9=>?_;simp only[dW] at Z;have o:Fx s9 ap []:=aP.mono (by simp[aA]);have F:∀q∈aA C,ig s9 q/\q.1=15:=(by grind [aA]);have M:=o.len.trans bl;have aC:=o.kq ag;have az:=o.kq a6;have a8:=X.fx o (by simp);have be:bM aOO anY [(0, .a [a1,iv s.gp.tx,D,E]),(1,B),(2,C)]=V (.a [a1,iv s.gp.tx,D,E,B,C, .l [] U U]):=(by rcases X with⟨_,rfl⟩|⟨q4,m4,rfl,_⟩<;>rcases Z with⟨_,rfl⟩|⟨q5,m5,rfl,_⟩<;>rfl);simp only[qz 14,qy 16,be,aY];refine ic M λv3 b5 aq aR ax=>?_;refine stW ax rfl rfl λbq ar aW=>?_;have w:Fx ap bq []:=(aq.trans ar).mono (by grind [ig.no]);have aD:=w.kq aC;have aB:=w.kq az;have aE:=a8.fx w (by simp);have aF:=Z.fx w (by simp);have aK:=w.len.trans M;have X3:Kx [10,12,14,31,41] Y s3:=((F2.trans F3).kx<|by simp);have H:=X3.kx W (by simp);have ad:=(H.fx A<|by simp).fx o (by simp);have aU:=ad.fx w (by simp);have an:∀{q:Id},q∈aA B->q.1=11/\∀x,box Y q≠V x:=λ{q} d=>⟨(ab q d).2,H.no (by grind) (ab q d).1.no⟩;have ao:∀{q:Id},q∈aA C->q.1=15/\∀x,box Y q≠V x:=λ{q} d=>⟨(F q d).2,(H.fx A<|by simp).no (by grind) (F q d).1.no⟩;have cc:∀x,box Y (3,v3)≠V x:=ad.no (by simp) aR.no;have cb:∀x,box Y (2,v2)≠V x:=(F2.kx (ks:=[])<|by simp).no (by simp) N3.no;simp only[qz 18];refine dT ?_ ?_;have h4:3∉m8 B:=λh=>(by rcases SlR.keys (P:=λp=>p=11) (.of X) (by grind) with e|⟨p,e,e'⟩<;>rw[e] at h<;>simp at h;omega);have h5:3∉m8 C:=λh=>(by rcases SlR.keys (P:=λp=>p=15) (.of Z) (by grind) with e|⟨p,e,e'⟩<;>rw[e] at h<;>simp at h;omega);have h0:3∉m8 (.a [a1,iv s.gp.tx,D,E]):=(by grind);generalize AV.a [a1,iv s.gp.tx,D,E]=b0 at h0⊢;simp[eL,lb,Cz,aTn,a6H,bc7];grind;refine yV (L s.ay) (λk _ x=>∃a f,L x=4096/\box x (1,v1)=V ⟨124,7,U,U,[s.c]⟩/\box x (2,v2)=V ⟨124,7,U,U,[aOO]⟩/\box x (3,v3)=V ⟨124,7,U,U,[[a1,iv s.gp.tx,D,E,B,C,a]]⟩/\qc x 2 1 B (s.cells.map ci)/\qc x 2 1 C (s.bU.map ci)/\TTs (12,31,33) I x a f s.ay k/\Kx [10,12,14,31,41] Y x/\∀q∈aA a,∀y,box Y q≠V y) ⟨.l [] U U,λ_=>(.u, .u),aK,aD,aB,aW,aE,aF,⟨.inl ⟨rfl,rfl⟩,by simp,by simp,by simp,by simp,by simp,by simp⟩,aU,by simp[aA]⟩ ?_;rintro k _ x hk ⟨a,f,am,m1,m2,m3,ga,gb,T,iq,na⟩;simp only[qz 25,qy 28,au,aI,u0,u1,m1,m3,rk,pz,k1,k7,aj,ixv,bh];refine⟨λh=>?_,λh=>?_⟩;have N:=aL h;refine⟨dJ N,?_⟩;obtain⟨q1,q2,q3⟩:=h5 _<|asq N;show cV 266 [.a [iv (gd s.ay k).pc,sl ci (gd s.ay k).y7,sl cl (gd s.ay k).J6,iv (gd s.ay k).ac]] _ _ _;refine baT am rfl rfl q1 q2 q3 (aPi f k) (λp hp=>?_) (λp hp=>?_) λS x2 y G1 aa Y R P1 P2=>?_;obtain⟨j,m,h|h⟩:=aXS hp;exact⟨_,_,_,_,T.g1 j m,h⟩;exact⟨_,_,_,_,T.g2 j m,h⟩;obtain⟨j,m,h|h⟩:=aXS hp;exact .inl<|T.p1 j m p h;exact .inr<|T.p2 j m p h;have Ty:TTs (12,31,33) I y a f s.ay k:=⟨T.bx.elim .inl λ⟨b,h1,h2,K⟩=> .inr ⟨b,h1,h2,Y.keep _ _ (by simp[h2]) K⟩,λj m=>R (T.g1 j m)<|aWy m,λj m=>R (T.g2 j m)<|aWz m,T.p1,T.p2,T.d1,T.d2⟩;have bm:=Y.len.trans am;have o1:=Y.kq m1;have o2:=Y.kq m2;have o3:=Y.kq m3;have ba:=Y.gr ga λq d=>(by simp[(an d).1]);have bc:=Y.gr gb λq d=>(by simp[(ao d).1]);have Xy:=iq.kx Y (by simp);simp only[qz 20,qy 22];refine a7Q Ty rfl rfl (by omega) rfl (by omega) (by decide) (by omega) rfl rfl G1 aa P1 P2 λz a' br hz G g aT=>?_;obtain⟨vz,rfl⟩:=hz;have bW:∀q∈aA a,q.1=33:=T.ids;have o4:=g.keep _ _ (by grind) o3;simp only[qz 24,u0,u1,o4,aj];refine A0 o4 G.ce (by simp) λcd v aZ=>?_;simp only[qz 26];refine dT ?_ ?_;have hx:∀j∈m8 (.a [iv (gd s.ay k).pc,S,x2,iv (gd s.ay k).ac]),j=12\/j=31:=λj m=>(by have e:m8 (.a [iv (gd s.ay k).pc,S,x2,iv (gd s.ay k).ac])=dK S++dK x2:=(by simp[m8,dC,dK]);rw[e] at m;rcases dF.1 m with h|h;obtain⟨q,d,rfl⟩:=aQu G1 h;grind;obtain⟨q,d,rfl⟩:=aQu aa h;grind);have K:3∉m8 (.a [iv (gd s.ay k).pc,S,x2,iv (gd s.ay k).ac]):=(by grind);generalize AV.a [iv (gd s.ay k).pc,S,x2,iv (gd s.ay k).ac]=b0 at K⊢;simp[eL,lb,Cz,aTn,K];simp only[au,u0,u1];have O:∀{b:Id},b.1≠33->b∉aA a:=(by grind);refine dR (mk:=λ(_:Unit) i=>[iv i]) (s:=()) (s':=()) (λ_ _=>rfl) N (by omega) ⟨a',_,(v.len.trans g.len).trans bm,v.kq<|g.keep _ _ (O<|by simp) o1,v.kq<|g.keep _ _ (O<|by simp) o2,aZ,(ba.fx g<|by grind).fx v λq d e=>?_,(bc.fx g<|by grind).fx v λq d e=>?_,G.fx v (by simp),(Xy.fx g<|by grind).fx v λq d=> .inr (by simp at d;grind),λq d=>Xy.no (by rw[G.ids q d];decide)<|aT q d⟩;simp at e;grind;simp at e;grind;have bf:k=L s.ay:=(by grind);subst bf;refine stW m2 rfl rfl λbr g aX=>?_;simp only[aX,aQd,qh,df,k7,aY];refine⟨a1,D,E,B,C,a,f,rfl,bg,ga.fx g λq d e=>?_,gb.fx g λq d e=>?_,T.fx g (by simp),(by grind [Kx.fx]),λq d=>an d,λq d=>ao d,na⟩;grind;grind
def a7F:dO:=aYd
def aX6:eJ a7F:=a7n
def aWl:=@bcx
section
attribute[local irreducible] aX
def a9M:=lA 14 [(6,([5],[2,3]))]
def a38 a b c R:=(.mk _:NR a7F a9M Tryz.f263 [.u, .u] [a,b] c R).p
def bhl{c0:List AV}{b:List AV}{R:j4}(l0:L c0=7)(l1:L b=7)(h:H2 129 7 2 c0 124 7 3 b λia c d=>a38 ia c d R):Ct 263 [.a c0, .a b] R:=z2 a9M aX6 Tryz.func263 l0 l1 h
def a9L:=lA 24 [(7,([4],[1,2,3])),(13,([5],[1,2,3])),(19,([6],[1,2,3]))]
def a3D a b R:=(.mk _:NR a7F a9L Tryz.f121 [.u] [a] b R).p
def bhj{c0:List AV}{R:j4}(l0:L c0=7)(h:H1 129 7 1 c0 λia b=>a3D ia b R):Ct 121 [.a c0] R:=z1 a9L aX6 Tryz.func121 l0 h
end
def aYu(c:aTo)(s:aNQ):Prop:=aF (L c.bid) s.pc/\(L s.y7:Int)=c.y7/\(L s.J6:Int)=c.y7
def aSm(c:aBY)(s:atC):Prop:=aPU c/\lh c.aQ s.gp=U/\L s.cells=L c.aQ.cells/\L s.bU=L c.aQ.bU/\L s.ay=L c.ay/\∀k,k<L c.ay->aYu (gd c.ay k) (gd s.ay k)
def aP4{w:J9}(h:mQ w=U):L w.cells<=12/\L w.ak<=4/\L w.bC<=2/\L w.bU<=2/\L w.ay<=4/\L w.dU<=60:=by grind [mQ,wJ]
def aXu(c:aBY)(s:atC)(E:aOc c/\L c.aQ.bC<4611686018427387904):Ct 263 [.a c.c, .a s.c] (λr=>∃b,r=bv b/\(b=U->aSm c s)):=by obtain⟨m,n⟩:=E;refine bhl rfl rfl λK D f g O=>?_;simp+contextual only[a38,u0,u1,f,g,pz,aj,ar,Fa,aWl,rr,aTv,aPA,eE,aQ6,aNV,m,n];intro b B h;simp only[cP,fK,aNK,aNS,Int.ofNat_inj,bsM] at h;obtain⟨⟨⟨⟨g1,w⟩,y⟩,z⟩,A⟩:=h;have o:=B g1;have M:L c.ay<1000:=m.1;refine yV (L c.ay) (λk _ x=>Fx K x []/\∀j,j<k->aYu (gd c.ay j) (gd s.ay j)) ⟨Fx.refl _ _,by simp⟩ ?_;rintro k _ x P ⟨F,hI⟩;have l:=F.kq f;have t:=F.kq g;have p:=F.len.trans D;simp only[qz 37,qy 6,aI,au,u0,u1,l,t,rk,pz,aj,ixv,bh,aPA];refine⟨λh=>?_,λh _=>⟨o,w,y,z,A,λj C=>hI j<|bkb C<|bw h⟩⟩;have d:=aL h;refine⟨dJ (by omega),anu p λv x2 e N q=>?_⟩;have u:=e.kq l;simp+contextual only[qz 8,au,u0,u1,u,q,rk,pz,ixv,aj,bh,dJ d,aPA,eE,aQ6,aNV,GL];intro h;simp only[cP,aNK,aNS,bsM] at h;obtain⟨⟨⟨R,S⟩,G⟩,H⟩:=h;exact dR (mk:=λ(_:Unit) i=>[iv i]) (s:=()) (s':=()) (λ_ _=>rfl) d (by omega) ⟨F.trans e,a6p hI ⟨⟨by omega,by omega⟩,G,H⟩⟩
def aUl:FT:=pn aXu
def bcc{c s Lw K}:=f211 aUl aXu c s Lw K (j:=by simp+contextual only[ij,ijv])
def ThB(k:Nat)(s:aNQ):Prop:=L s.y7<=1000/\L s.J6<=1000/\(∀t∈s.J6,Tn t)/\0<=s.ac/\s.ac<=k
def a68{α:Type}{n:Nat}{x y:α}(h:y∈er n x):y=x:=(by simp_all)
structure StB(k:Nat)(s:atC):Prop where
 sy:jX k s.gp
 ce:L s.cells<=12
 fu:L s.bU<=2
 tl:L s.ay<=4
 th:∀t∈s.ay,ThB k t
structure SJ(x:ae)(v2:Nat)(c:aBY)(a1 a2 a3:AV):Prop where
 hl:L x=4096
 b1:box x (1,1)=V ⟨129,7,U,U,[c.c]⟩
 b2:box x (2,v2)=V ⟨124,7,U,U,[aOO]⟩
 g1:qc x 184 2 a1 ((er (L c.aQ.ak) (⟨-1,[]⟩:cg)).map cg.c)
 g2:qc x 4 1 a2 ((er (L c.aQ.bU) I).map cb)
 g3:qc x 138 3 a3 ((qZ<|L c.aQ.ay).map aoC.c)
 ids:∀q∈aA a1++(aA a2++aA a3),q.1=13
theorem SJ.fx{x y:ae}{e:Nat}{c:aBY}{a1 a b:AV}{Lw:List Id}(S:SJ x e c a1 a b)(F:Fx x y Lw)(f:∀q∈Lw,q.1≠1/\q.1≠2/\q.1≠13):SJ y e c a1 a b:=⟨F.len.trans S.hl,(by grind [Fx.keep,SJ.b1]),(by grind [Fx.keep,SJ.b2]),S.g1.fx F λq d h=>(by grind [SJ.ids]),S.g2.fx F λq d h=>(by grind [SJ.ids]),S.g3.fx F λq d h=>(by grind [SJ.ids]),S.ids⟩
def aPn(c:aTo):aNQ:=⟨0,er c.y7.toNat 0,er c.y7.toNat [],0⟩
def aTA(w:J9):aW:=⟨er (L w.ak) ⟨-1,[]⟩,-1,er (L w.bU) I,qZ<|L w.ay⟩
def aPK(c:aBY):atC:=⟨aTA c.aQ,c.aQ.cells.map (·.init),er (L c.aQ.bU) 0,c.ay.map aPn⟩
theorem bfv{c:aBY}(d:aPU c):StB 0 (aPK c):=by obtain⟨g,h,b⟩:=d;have hs:=aP4 g;refine⟨⟨by simp[aPK,aTA];omega,by simp[aPK,aTA];omega,by simp[aPK,aTA,qZ];omega,λl f=>by rw[a68 f];simp⟩,by simp[aPK];omega,by simp[aPK];omega,by simp[aPK];omega,λt a=>?_⟩;simp only[aPK,dN] at a;obtain⟨k,e,rfl⟩:=a;obtain⟨i,j,_⟩:=b k e;refine⟨by simp[aPn];omega,by simp[aPn];omega,λt a=>?_,by simp[aPn],by simp[aPn]⟩;rw[a68 a];exact Tn.nil
def aXs(c:aBY)(hp:aPU c/\aOc c):Ct 121 [.a c.c] (λr=>∃s:atC,r= .a s.c/\StB 0 s):=by obtain⟨hc,hb⟩:=hp;have bG:=aP4 hc.1;have bD:=hb.1;generalize hQ:(λ(r:AV)=>∃s:atC,r= .a s.c/\StB 0 s)=Qq;refine aDq (bhj rfl λs2 E P h0=>?_);simp only[a3D];refine ic E λv2 s3 F3 N3 b3=>?_;have c1:=F3.kq P;have ba:=F3.len.trans E;have k1:∀{x:List AV} {y:AV},aN J (y::x)=V y:=λ{x y}=>(by cases y<;>rfl);have k7:=@r7A;have hz:bM aOO anY []=V (.a aOO):=rfl;simp only[qz 4,qy 6,u0,u1,c1,pz,aj,ar,Fa,aWl,rr,aTv];refine⟨hb,λb bC=>⟨λh=>?_,λh=>?_⟩⟩;simp only[hz,aY];refine stW b3 rfl rfl λs4 F4 b4=>?_;simp only[b4,aQd,qh,df,k7,aY];refine aOv (v':= .a<|atC.c ⟨⟨[],0,[],[]⟩,[],[],[]⟩) rfl rfl ?_;rw[<-hQ];exact⟨_,rfl,⟨by simp,by simp,by simp,by simp⟩,by simp,by simp,by simp,by simp⟩;refine a57 (by omega) (by omega) (by omega) (by omega) λa1 B C s4 g1 g2 g3 F4 P4=>?_;have S4:SJ s4 v2 c a1 B C:=⟨F4.len.trans ba,F4.kq c1,F4.kq b3,g1.p,g2.p,g3.p,λq d=>(P4 q d).2⟩;have a4:bM aOO anY [(0, .a [a1,iv<|-1,B,C])]=V (.a [a1,iv<|-1,B,C, .l [] U U, .l [] U U, .l [] U U]):=rfl;simp only[qz 8,qy 10,qy 12,a4,aY];refine anu S4.hl λv3 s5 F5 N5 b5=>?_;have S5:=S4.fx F5 (by simp);have a5:∀{x:ae} {y:Int},aX yW 1 x [(0,iv y)]=V (.l ([y].map ci) U U,x):=λ{x y}=>iz;refine yV (L c.aQ.cells) (λk _ x=>∃a,SJ x v2 c a1 B C/\box x (3,v3)=V ⟨124,7,U,U,[[a1,iv<|-1,B,C,a, .l [] U U, .l [] U U]]⟩/\qc x 2 1 a (((c.aQ.cells.take k).map (·.init)).map ci)/\∀q∈aA a,q.1=33) ⟨_,S5,b5, .inl ⟨by simp,rfl⟩,by simp[aA]⟩ ?_;rintro k _ x hk ⟨a,S,A,D,pa⟩;have m1:=S.b1;simp only[qz 43,qy 14,au,aI,u0,u1,m1,A,rk,pz,k1,ix,aj,bh,a5];refine⟨λh=>?_,λh=>?_⟩;have g:=aL h;refine⟨dJ g,?_⟩;refine apQ D S.hl fF fF (by simp) (by simp;omega) λa' s6 W v P6=>?_;have H:=S.fx v (λq d=>by have:=pa q d;omega);have G:=v.keep _ _ (λd=>by have:=pa _ d;simp at this) A;simp only[qz 16,u0,u1,G,aj];refine A0 G W.p.ce (by simp) λs7 w R=>?_;simp only[qz 18];refine dT (by simp[eL,lb,m8,dC,dK]) ?_;simp only[au,u0,u1];refine dR (mk:=λ(_:Unit) i=>[iv i]) (s:=()) (s':=()) (λ_ _=>rfl) g (by omega) ⟨a',H.fx w (by simp),R,?_,λq d=>(P6 q d).2⟩;rw[iJ g,<-bT g,dg,dg];exact W.p.fx w (by grind);have F:k=L c.aQ.cells:=(by grind);subst F;rw[gV] at D;clear m1;refine yV (L c.aQ.bU) (λk _ x=>∃N,SJ x v2 c a1 B C/\box x (3,v3)=V ⟨124,7,U,U,[[a1,iv<|-1,B,C,a,N, .l [] U U]]⟩/\qc x 2 1 a ((c.aQ.cells.map (·.init)).map ci)/\qc x 2 1 N ((er k (0:Int)).map ci)/\∀q∈aA N,q.1=46) ⟨_,S,A,D, .inl ⟨by simp,rfl⟩,by simp[aA]⟩ ?_;rintro k _ x hk ⟨N,S,A,D,X,pb⟩;have m1:=S.b1;have a0:∀{x:ae},aX yW 1 x [(0,iv 0)]=V (.l ([(0:Int)].map ci) U U,x):=λ{x}=>iz;simp only[qz 79,qy 20,au,aI,u0,u1,m1,A,pz,k1,aj,a0];refine⟨λh=>?_,λh=>?_⟩;have g:=aL h;refine apQ X S.hl fF fF (by simp) (by simp;omega) λa' s6 W v P6=>?_;have H:=S.fx v (λq d=>by have:=pb q d;omega);have G:=v.keep _ _ (λd=>by have:=pb _ d;simp at this) A;simp only[qz 22,u0,u1,G,aj];refine A0 G W.p.ce (by simp) λs7 w R=>?_;simp only[qz 24,au,u0,u1];refine dR (mk:=λ(_:Unit) i=>[iv i]) (s:=()) (s':=()) (λ_ _=>rfl) g (by omega) ⟨a',H.fx w (by simp),R,(D.fx v<|by grind).fx w (by grind),?_,λq d=>(P6 q d).2⟩;rw[List.replicate_succ',dg];exact W.p.fx w (by grind);have F:k=L c.aQ.bU:=(by grind);subst F;clear m1;refine yV (L c.ay) (λk _ x=>∃t f,SJ x v2 c a1 B C/\box x (3,v3)=V ⟨124,7,U,U,[[a1,iv<|-1,B,C,a,N,t]]⟩/\qc x 2 1 a ((c.aQ.cells.map (·.init)).map ci)/\qc x 2 1 N ((er (L c.aQ.bU) (0:Int)).map ci)/\TTs (63,70,73) U x t f (c.ay.map aPn) k) ⟨.l [] U U,λ_=>(.u, .u),S,A,D,X,⟨.inl ⟨rfl,rfl⟩,by simp,by simp,by simp,by simp,by simp,by simp⟩⟩ ?_;rintro k _ x hk ⟨t,f,S,A,D,X,T⟩;have m1:=S.b1;simp only[qz 115,qy 36,au,aI,u0,u1,m1,A,rk,pz,k1,k7,aj,ixv,bh];refine⟨λh=>?_,λh=>?_⟩;have g:=aL h;refine⟨dJ g,?_⟩;obtain⟨q1,q2,_⟩:=hc.2.2 _<|asq g;obtain⟨n,hn⟩:∃n:Nat,(gd c.ay k).y7=n:=⟨(gd c.ay k).y7.toNat,by omega⟩;rw[hn] at q2⊢;refine AP (by decide) (by decide) (by rw[S.hl];decide) (by omega) λe1 s6 ad N6 v b6=>?_;have H:=S.fx v (by simp);have bb:=H.b1;simp only[qz 26,au,u0,u1,bb,rk,pz,aj,ixv,bh,hn];refine⟨dJ g,?_⟩;refine AP (by decide) (by decide) (by rw[H.hl];decide) (by omega) λe2 s7 af N7 w R=>?_;have S7:=H.fx w (by simp);have aP:=w.kq b6;have bc:=w.kq<|v.kq A;have aU:=(D.fx v<|by simp).fx w (by simp);have aV:=(X.fx v<|by simp).fx w (by simp);have T7:=(T.fx v<|by simp).fx w (by simp);have a6:bM aoB brF [(1, .m e1 n),(2, .m e2 n)]=V (.a [iv 0, .m e1 n, .m e2 n,iv 0]):=rfl;simp only[qz 28,qy 30,a6,aY];have M:gd (c.ay.map aPn) k=⟨0,er n 0,er n [],0⟩:=(by rw[bT (by grind),List.getElem_map,<-bT g];simp[aPn,hn]);have Z:∀{q:Id},(∀y,box x q≠V y)->q∉aPi f k:=λ{q} bF d=>(by obtain⟨j,hj,h|h⟩:=aXS d;obtain⟨y,hy⟩:=aTi (T.g1 j hj) q h;grind;obtain⟨_,b,e,hy⟩:=T.g2 j hj;grind [aA]);refine a7Q T7 rfl rfl (by rw[S7.hl];decide) rfl (by rw[S7.hl];decide) (by decide) (by omega) (by rw[M]) (by rw[M]) (.inr ⟨e1,[],by grind,by rw[M,aP];simp;exact⟨rfl, .inr rfl⟩⟩) (by rw[M];exact⟨by simp,e2,by simp,by rw[R];simp;exact⟨rfl, .inr rfl⟩⟩) (λq d=>?_) (λq d=>?_) λz t' ag aw O o bB=>?_;simp only[aA,cE] at d;subst d;exact⟨Z N6.no,ad⟩;simp only[aA,cE] at d;subst d;exact⟨Z<|λy hy=>N7.no y<|v.kq hy,af⟩;obtain⟨vz,rfl⟩:=aw;have bd:∀q∈aA t,q.1=73:=T.ids;have aB:∀{b:Id},b.1≠73->b∉aA t:=(by grind);have aG:=S7.fx o (λq d=>by have:=bd q d;omega);have aa:=o.keep _ _ (aB<|by simp) bc;simp only[qz 32,u0,u1,aa,aj];refine A0 aa O.ce (by simp) λbH K aM=>?_;simp only[qz 34];refine dT (by simp[eL,lb,au,sl,ad,af,m8,dC,dK]) ?_;simp only[au,u0,u1];refine dR (mk:=λ(_:Unit) i=>[iv i]) (s:=()) (s':=()) (λ_ _=>rfl) g (by omega) ⟨t',_,aG.fx K (by simp),aM,(aU.fx o<|by grind).fx K λq d e=>?_,(aV.fx o<|by grind).fx K λq d e=>?_,O.fx K<|by simp⟩;grind;grind;have F:k=L c.ay:=(by grind);subst F;refine stW S.b2 rfl rfl λag o aK=>?_;simp only[aK,aQd,qh,df,k7,aY];have nd:∀{q:Id},q.1≠2->q∉[((2,v2):Id)]:=(by grind);have O:=T.fx o (by simp);have al:TTs (63,70,73) U ag t f (c.ay.map aPn) (L<|c.ay.map aPn):=(by grind);have x1:=aBr (S.g1.fx o λq d=>(by grind));have x2:=aBr (S.g2.fx o λq d=>(by grind));have x3:=aBr (S.g3.fx o λq d=>(by grind));have x4:=aBr (D.fx o λq d=>nd<|by rw[pa q d];decide);have x5:=aBr (X.fx o λq d=>nd<|by rw[pb q d];decide);refine aOv (v':= .a (aPK c).c) ?_ (by simp[iX,atC.c,aW.c,eN,sl]) (by grind [bfv]);simp only[fzT,ji,mU,x1,x2,x3,x4,x5,al.fz,aWt];rfl
def aUj:FT:=om aXs
def bca{c Lw K}:=f111 aUj aXs c Lw K (j:=by simp+contextual only[ij,ijv])
def a7G:dO:=(263,aUl)::(121,aUj)::a7F
def a7o:eJ a7G:=ve (aN0 aXu)<|ve (rj aXs)<|aX6
def aWm:=ai @bcc<|ai @bca<|@aWl
section
attribute[local irreducible] aX
def a9K:=lA 28 [(20,([],[6,8,9,10])),(23,([98],[6,8,9,10])),(25,([],[6,10]))]
def a3l a b c d R:=(.mk _:NR a7G a9K Tryz.f233 [.u, .u,c] [a,b] d R).p
def bhh{c0:List AV}{b:List AV}{c:AV}{R:j4}(l0:L c0=7)(l1:L b=7)(h:H2 129 7 3 c0 124 7 4 b λia d e=>a3l ia d c e R):Ct 233 [.a c0, .a b,c] R:=z2 a9K a7o Tryz.func233 l0 l1 h
end
def aQs(c:aBY)(s:atC)(t:Int):aNZ:=gd (gd c.ay t.toNat).bid (gd s.ay t.toNat).pc.toNat
def PK(k:Int)(i:aNZ):Prop:=(k=3\/k=23->i.a∈a6z i)/\(k=4\/k=22->i.b∈a6z i)/\(k=5->i.a∈a6z i)
def EvL(e:aP):Prop:=L e.dI<=1000/\L e.ep<=1000
def bdY{i:aNZ}:PK (aPY i.op) i:=by rcases i with⟨op,a,b,k,n,st⟩;simp only[PK,aPY,cond_eq_ite];by_cases h:op<6\/28<op;simp_all;rw[j5<|by simpa using h];have c:op=6\/op=7\/op=8\/op=9\/op=10\/op=11\/op=12\/op=13\/op=14\/op=15\/op=16\/op=17\/op=18\/op=19\/op=20\/op=21\/op=22\/op=23\/op=24\/op=25\/op=26\/op=27\/op=28:=(by omega);rcases c with rfl|rfl|rfl|rfl|rfl|rfl|rfl|rfl|rfl|rfl|rfl|rfl|rfl|rfl|rfl|rfl|rfl|rfl|rfl|rfl|rfl|rfl|rfl<;>simp[gd,aXK,a6z]
def aXq(c:aBY)(s:atC)(t:Int)(hp:aPU c/\aOc c/\∃k,StB k s):Ct 233 [.a c.c, .a s.c,iv t] (λr=>∃(e:aP) (ok:Bool),r= .t [.a e.c,bv ok]/\EvL e/\(ok=U->aSm c s/\aF (L c.ay) t/\PK e.kind (aQs c s t))):=by
 obtain⟨hc,E,K,hs⟩:=hp
 have cD:=aP4 hc.1
 have cx:=E.1
 generalize hQ:(λ(r:AV)=>∃(e:aP) (ok:Bool),r= .t [.a e.c,bv ok]/\EvL e/\(ok=U->aSm c s/\aF (L c.ay) t/\PK e.kind (aQs c s t)))=Qq
 refine aDq (bhh rfl rfl λs4 hl b1 b2 h0=>?_)
 simp only[a3l]
 refine ic hl λv6 s6 F6 N6 b6=>?_
 have c1:=F6.kq b1
 have c2:=F6.kq b2
 have a1:=F6.len.trans hl
 have k1:∀{x:List AV} {y:AV},aN J (y::x)=V y:=λ{x y}=>by cases y<;>rfl
 have k7:=@r7A
 have hz:bM bnk aOG []=V (.a bnk):=rfl
 simp only[qz 6,qy 8,qy 10,u0,u1,c1,c2,pz,aj,ar,Fa,aWm,rr,aTv]
 refine⟨⟨E,by omega⟩,λb bg=>?_⟩
 have D:∀{x:ae},box x (6,v6)=V ⟨62,7,U,U,[bnk]⟩->sV (aK 7 x (.p (6,v6) 0 0)<|.a bnk) λy=>rV (vp (V 7) y<|.p (6,v6) 0 0) λt=>aE (λr=>Qq<|bm1 r) y [t,bv I]:=λ{x} E=>by
  refine stW E rfl rfl λs7 F7 b7=>?_
  rw[aEa b7 rfl]
  refine aOH (vs':=[.a<|aP.c ⟨0,0,0,0,0,[],[]⟩,bv I]) rfl rfl ?_
  rw[<-hQ];exact⟨_,_,rfl,⟨by simp,by simp⟩,by simp⟩
 cases b with
 |false=>
  simp only[u0,↓jN,aUw,↓iC,hz]
  exact D b6
 |true=>
 obtain⟨hF⟩:Nonempty (aSm c s):=⟨bg rfl⟩
 have bR:=hF
 obtain⟨_,f1,f2,f3,f4,f5⟩:=bR
 rcases h1:Q (t<0) with _|_
 rotate_left
 ·simp only[u0,u1,↓jN,aUw,↓iC,wY,hz,h1]
  exact D b6
 rcases h2:Q (t>=(L c.ay:Int)) with _|_
 rotate_left
 ·simp only[u0,u1,c1,pz,↓jA,↓iC,wY,hz,h1,h2]
  exact D b6
 simp only[aNK] at h1 h2
 have cy:aF (L c.ay) t:=⟨by omega,by omega⟩
 obtain⟨m,rfl⟩:∃m:Nat,t=m:=⟨t.toNat,by omega⟩
 have hm:m<L c.ay:=by omega
 obtain⟨p1,p2,p3⟩:=f5 m hm
 obtain⟨r1,r2,r3⟩:=hc.2.2 _<|asq hm
 have bO:Q ((m:Int)<0)=I:=bmL h1
 have bQ:Q ((m:Int)>=(L c.ay:Int))=I:=bmL h2
 have b0:(gd s.ay m).pc.toNat<L (gd c.ay m).bid:=by have:=p1.1;have:=p1.2;omega
 have S:∀j∈a6z (aQs c s m),aF (L (gd s.ay m).J6) j/\aF (L (gd s.ay m).y7) j:=λj hj=>by
  have:=r3 _ b0 j hj
  exact⟨⟨this.1,by omega⟩,⟨this.1,by omega⟩⟩
 have bV:=f1
 obtain⟨_,_,_,ft⟩:=iY bV
 simp only[u0,u1,c1,rk,pz,↓jA,↓iB,bO,bQ,ixv,bh]
 refine⟨by simp_all,anu a1 λv8 s8 F8 N8 b8=>?_⟩
 have bF:=F8.kq c1
 have bH:=F8.kq c2
 have bw:=F8.kq b6
 have a2:=F8.len.trans a1
 simp only[qz 12,qy 14,u0,u1,bF,b8,rk,pz,aj,ixv,bh]
 refine⟨dJ hm,p1,ic a2 λv9 cG bs N9 bC=>?_⟩
 refine stW bC rfl rfl λs9 bt b9=>?_
 have F9:Fx s8 s9 []:=(bs.trans bt).mono (by grind [ig.no])
 have bI:=F9.kq bH
 have bx:=F9.kq bw
 have bB:=F9.kq b8
 have a3:=F9.len.trans a2
 simp only[qz 16,qy 18]
 refine dT (by simp[eL,lb,m8,dC,dK,sl,aNZ.c]) ?_
 generalize hi:gd (gd c.ay m).bid (gd s.ay m).pc.toNat=i at*
 have bW:aQs c s m=i:=by simp[aQs,hi]
 rw[bW] at S
 have bU:bM bnk aOG [(0,iv m),(4,iv i.site)]=V (.a [iv m,iv 0,iv 0,iv 0,iv i.site, .l [] U U, .l [] U U]):=rfl
 simp only[u0,u1,b9,pz,aj,bU]
 refine anu a3 λab cF T cw W=>?_
 have R:=T.kq bI
 have M:=T.kq bx
 have av:=T.kq bB
 have C:=T.kq b9
 have bj:=T.len.trans a3
 have aw:∀{x:ae} {k o u:Int} {d f:AV} {ds fs:List Int},box x (6,v6)=V ⟨62,7,U,U,[bnk]⟩->qc x 3 1 d (ds.map ci)->qc x 3 1 f (fs.map ci)->(∀q∈aA d++aA f,q.1≠6)->L ds<=1000->L fs<=1000->PK k i->sV (aK 7 x (.p (6,v6) 0 0)<|.a [iv m,iv k,iv o,iv 0,iv u,d,f]) λy=>rV (vp (V 7) y<|.p (6,v6) 0 0) λt=>aE (λr=>Qq<|bm1 r) y [t,bv U]:=λ{x k o u d f ds fs} E bL w hq l1 l2 hk=>by
  refine stW E rfl rfl λs7 F7 b7=>?_
  rw[aEa b7 rfl]
  have e1:=aBr (bL.fx F7 λq h e=>(by grind))
  have e2:=aBr (w.fx F7 λq h e=>(by grind))
  refine aOH (vs':=[.a<|aP.c ⟨m,k,o,0,u,ds,fs⟩,bv U]) (by simp only[ji,mU,fzT,aWt,e1,e2];rfl) (by simp[iX,aP.c,eN,sl]) ?_
  rw[<-hQ];exact⟨_,_,rfl,⟨l1,l2⟩,by simp_all⟩
 have a0:∀{x:ae} {l:List (List Int)} {j:Int} {K:j4},rV (cz 1 x (sl cl l)<|iv j) K=(aF (L l) j/\K (.q<|cl<|gd l j.toNat)):=aBz λ_=>rfl
 have a4:∀{x:ae} {l:List Int},vp J x (.q<|cl l)=V (sl ci l):=rfl
 have aZ:∀t∈(gd s.ay m).J6,Tn t:=(hs.th _<|asq<|by omega).2.2.1
 have nil:∀{x:ae},qc x 3 1 (.l [] U U) (([]:List Int).map ci):=λ{x}=> .inl ⟨rfl,rfl⟩
 have aa:aF (L s.gp.ay) (m:Int):=by rw[ft,<-hc.2.1];omega
 rcases q1:Q ((gd s.gp.ay m).cQ=1) with _|_
 rotate_left
 ·have bT:bM bnk aOG [(0,iv m),(1,iv 1),(2,iv<|-1),(4,iv<|-1)]=V (.a [iv m,iv 1,iv<|-1,iv 0,iv<|-1, .l [] U U, .l [] U U]):=rfl
  simp only[qz 20,qy 22,qy 30,u0,u1,R,C,rk,pz,aj,ix,bh,q1,↓iC,bT]
  refine⟨aa,?_⟩
  exact aw M nil nil (by simp[aA]) (by simp) (by simp) (by simp[PK])
 rcases q2:Q ((gd s.gp.ay m).cQ=4) with _|_
 rotate_left
 ·simp only[qz 20,qy 22,qy 30,u0,u1,R,C,W,rk,pz,aj,ix,bh,q1,q2,↓iC,↓iB]
  refine⟨aa,aa,?_⟩
  refine A0 W rfl (by simp) λca G X=>?_
  have af:=G.kq M
  simp only[qz 24,u0,u1,X,aj]
  refine A0 X rfl (by simp) λA H v=>?_
  have B:=H.kq af
  simp only[qz 26,qy 28]
  refine dT (by simp[eL,lb,m8,dC,dK,sl,aoC.c]) ?_
  simp only[u0,u1,v,List.set_cons_succ,RY,k7]
  exact aw B nil nil (by simp[aA]) (by simp) (by simp) (by simp[PK])
 rcases q3:Q ((gd s.gp.ay m).cQ=2) with _|_
 ·simp only[qz 20,qy 22,qy 30,u0,u1,R,C,W,rk,pz,aj,ix,bh,q1,q2,q3,↓iB,hz]
  exact⟨aa,D M⟩
 simp only[qz 20,qy 22,qy 30,u0,u1,R,av,C,W,rk,pz,aj,ix,ar,Fa,aWm,rr,bh,q1,q2,q3,↓iC,↓iB]
 refine⟨aa,λZ=>(S _ ?_).2,λo=>?_⟩
 ·rcases i with⟨op,a,b,k,n,st⟩
  simp only at Z⊢
  rcases Z with rfl|rfl<;>simp[a6z]
 refine A0 W rfl (by simp) λca G X=>?_
 have af:=G.kq M
 have a9:=G.kq av
 have ba:=G.kq C
 simp only[qz 32,u0,u1,X,aj]
 refine A0 X rfl (by simp) λA H v=>?_
 have B:=H.kq af
 have N:=H.kq a9
 have O:=H.kq ba
 have aD:=(H.len.trans G.len).trans bj
 simp only[List.set_cons_succ,RY] at v
 rcases q4:Q (aPY i.op=0) with _|_
 rotate_left
 ·simp only[qz 34,qy 36,u0,u1,v,k1,nM,J3,aj,q4,↓iC,hz]
  exact D B
 simp only[qz 34,u0,u1,v,k1,nM,J3,aj,q4,↓iB]
 refine bsK (λg=>∀{x:ae} {d:AV} {ds:List Int},L x=4096->box x (6,v6)=V ⟨62,7,U,U,[bnk]⟩->box x (8,v8)=V ⟨251,4,U,U,[(gd s.ay m).c]⟩->box x (9,v9)=V ⟨264,6,U,U,[i.c]⟩->box x (10,ab)=V ⟨62,7,U,U,[[iv m,iv<|aPY i.op,iv o,iv 0,iv i.site,d, .l [] U U]]⟩->qc x 3 1 d (ds.map ci)->(∀q∈aA d,q.1≠6/\q.1≠10)->L ds<=1000->g [] x) (λ{x d ds} cA E h8 h9 he g1 hq l1=>?_) λaV aB=>?_
 ·simp only[qz 123,aI]
  refine bpD (λg=>∀{x:ae} {d f:AV} {ds fs:List Int},box x (6,v6)=V ⟨62,7,U,U,[bnk]⟩->box x (10,ab)=V ⟨62,7,U,U,[[iv m,iv<|aPY i.op,iv o,iv 0,iv i.site,d,f]]⟩->qc x 3 1 d (ds.map ci)->qc x 3 1 f (fs.map ci)->(∀q∈aA d++aA f,q.1≠6)->L ds<=1000->L fs<=1000->g [] x) (λ{x d f ds fs} E he g1 g2 hq l1 l2=>?_) λaW aC=>?_
  ·simp only[qz 153,qy 50,aI,u0,u1,he,k7]
   exact aw E g1 g2 hq l1 l2 bdY
  have go:∀{y:ae} {f:AV} {fs:List Int},Fx x y []->qc y 3 1 f (fs.map ci)->(∀q∈aA f,ig x q/\q.1=132)->L fs<=1000->sV (aK 1 y (.p (10,ab) 0 6) f) λs=>aW [] s:=λ{y f fs} F w hf lf=>by
   refine A0 (F.kq he) w.ce (by simp) λs2 F2 b2=>?_
   refine aC (F2.kq<|F.kq E) b2 ((g1.fx F<|by simp).fx F2 λq h e=>?_) (w.fx F2 λq h e=>?_) (λq h=>?_) l1 lf
   ·simp at e;subst e;exact(hq _ h).2 rfl
   ·simp at e;subst e;have:=(hf _ h).2;simp at this
   ·rcases dF.1 h with h|h
    ·exact(hq q h).1
    ·rw[(hf q h).2];decide
  have dn:(Q (i.op=8)||Q (i.op=9)||Q (i.op=26))=I->aW [] x:=λ_=>aC E he g1 nil (λq h=>by
   rcases dF.1 h with h|h
   ·exact(hq q h).1
   ·simp[aA] at h) l1 (by simp)
  have up:(Q (i.op=8)||Q (i.op=9)||Q (i.op=26))=U->∀{K:be},(∀(f:AV) (y:ae) (fs:List Int),Fx x y []->qc y 3 1 f (fs.map ci)->(∀q∈aA f,ig x q/\q.1=132)->L fs<=1000->K f y)->rV (cz 1 x (sl cl (gd s.ay m).J6)<|iv i.b) λbo=>rV (vp J x bo) λbp=>eV (Gy 3 fB 8 x 132 (.l [] U U) bp) K:=λZ {K} hK=>by
   have hr:=S i.b (by
    rcases i with⟨op,a,b,k,n,st⟩
    simp only[fH,yp] at Z⊢
    rcases Z with(rfl|rfl)|rfl<;>simp[a6z])
   rw[a0]
   refine⟨hr.1,?_⟩
   simp only[a4,aY]
   have hT:=aZ _ (asq (l:=(gd s.ay m).J6) (k:=i.b.toNat) (by have:=hr.1.1;have:=hr.1.2;omega))
   refine apV (bA:=[]) (e:=3) (z:=1) (.inl ⟨rfl,rfl⟩) rfl rfl (by decide) (by omega) (by simp) fF (by simp;have:=hT.len;omega) λf y w F P=>?_
   exact hK f y _ (F.mono<|by simp[aA]) w (λq h=>(P q h).elim (λh=>by simp[aA] at h) id) hT.len
  rcases z1:Q (i.op=8) with _|_<;>rcases z2:Q (i.op=9) with _|_<;>rcases z3:Q (i.op=26) with _|_<;>simp only[z1,z2,z3,wY,Bool.or_false] at up dn<;>simp only[qz 155,u0,u1,h9,he,h8,z1,z2,z3,pz,k1,aj,↓jA,↓jN,aUw,↓iC,↓iB,wY]
  all_goals first|exact dn rfl|exact dn trivial|(refine up trivial λf y fs F w P l=>?_;simp only[qz 46,qy 48,u0,u1,F.kq he,aj];exact go F w P l)
 simp only[qz 125,u0,u1,O,v,N,pz,k1,aj]
 have aX:∀{y:ae} {f:AV} {fs:List Int} {pl:Nat},Fx A y []->qc y 3 1 f (fs.map ci)->(∀q∈aA f,ig A q/\q.1=pl)->pl≠10->pl≠6->L fs<=1000->sV (aK 1 y (.p (10,ab) 0 5) f) λs2=>aV [] s2:=λ{y f fs pl} F w hf hp cB lf=>by
  refine A0 (F.kq v) w.ce (by simp) λs2 F2 b2=>?_
  have ao:∀{q:Id} {z:bY},q≠(10,ab)->box A q=V z->box s2 q=V z:=λh hz=>F2.keep _ _ (by simpa using h)<|F.kq hz
  exact aB ((F2.len.trans F.len).trans aD) (ao (by simp) B) (ao (by simp) N) (ao (by simp) O) b2 (w.fx F2 λq h e=>by simp at e;subst e;exact hp (hf _ h).2.symm) (λq h=>by rw[(hf q h).2];omega) lf
 have ap:∀{j:Int} {pl:Nat} {K:be},j∈a6z i->pl<4096->(∀(f:AV) (y:ae) (fs:List Int),Fx A y []->qc y 3 1 f (fs.map ci)->(∀q∈aA f,ig A q/\q.1=pl)->L fs<=1000->K f y)->rV (cz 1 A (sl cl (gd s.ay m).J6)<|iv j) λbq=>rV (vp J A bq) λbr=>eV (Gy 3 fB 8 A pl (.l [] U U) br) K:=λ{j pl K} hj cC hK=>by
  have hr:=S j hj
  rw[a0]
  refine⟨hr.1,?_⟩
  simp only[a4,aY]
  have hT:=aZ _ (asq (l:=(gd s.ay m).J6) (k:=j.toNat) (by have:=hr.1.1;have:=hr.1.2;omega))
  refine apV (bA:=[]) (e:=3) (z:=1) (.inl ⟨rfl,rfl⟩) rfl rfl (by decide) (by omega) (by simp) fF (by simp;have:=hT.len;omega) λf y w F P=>?_
  exact hK f y _ (F.mono<|by simp[aA]) w (λq h=>(P q h).elim (λh=>by simp[aA] at h) id) hT.len
 refine⟨λZ=>?_,λZ=>?_⟩
 ·have a5:=aNR Z
  refine ap (j:=i.a) (pl:=96) (by rcases i with⟨op,a,b,k,n,st⟩;simp only at a5⊢;subst a5;simp[a6z]) (by decide) λf y fs F w P lf=>?_
  simp only[qz 38,qy 40,u0,u1,F.kq v,aj]
  exact aX F w P (by decide) (by decide) lf
 ·have bK:aV [] A:=aB aD B N O v nil (by simp[aA]) (by simp)
  refine bsp (λg=>(i.op=7\/i.op=9->g [bv U])/\g [bv I]) ⟨λh=>?_,?_⟩ λg al=>?_
  ·simp only[qz 141,au,aI]
   simp only[u0,u1,O,v,N,pz,k1,aj,↓iC]
   refine ap (j:=i.k) (pl:=109) (by rcases i with⟨op,a,b,k,n,st⟩;simp only at h⊢;rcases h with rfl|rfl<;>simp[a6z]) (by decide) λf y fs F w P lf=>?_
   simp only[qz 42,qy 44,u0,u1,F.kq v,aj]
   exact aX F w P (by decide) (by decide) lf
  ·simp only[qz 141,au,aI,↓iB]
   exact bK
  rcases z1:Q (i.op=7) with _|_<;>rcases z2:Q (i.op=9) with _|_<;>simp only[qz 143,u0,u1,z1,z2,↓iC,↓iB]
  ·exact al.2
  ·exact al.1 (.inr<|aNR z2)
  ·exact al.1 (.inl<|aNR z1)
  ·exact al.1 (.inl<|aNR z1)
def aUh:FT:=vn aXq
def bb8{c s t Lw K}:=f311 aUh aXq c s t Lw K (j:=by simp+contextual only[ij,ijv])
def aYe:dO:=(233,aUh)::a7G
def a7p:eJ aYe:=ve (By aXq)<|a7o
def aWn:=ai @bb8<|@aWm
section
attribute[local irreducible] aX
def a5I:=lA 39 [(15,([16],[3,4,5,6,7,9,14,15])),(17,([78],[3,4,5,6,7,9,14,15,16,77])),(30,([],[3,4,5,6,7,9,14,16])),(35,([],[4,5,6,7,9,14]))]
def aVk b c a d R:=(.mk _:NR aYe a5I Tryz.f187 [.u, .u, .u] [b,c,a] d R).p
def bhk{c0:List AV}{b:List AV}{c:List AV}{R:j4}(l0:L c0=7)(l1:L b=7)(d:L c=2)(h:H3 129 7 3 c0 124 7 4 b 170 2 5 c λf g i e=>aVk f g i e R):Ct 187 [.a c0, .a b, .a c] R:=z3 a5I a7p Tryz.func187 l0 l1 d h
end
def bg(s:sA)(t:Int):Prop:=aF (L s.count) t/\1<=gd s.count t.toNat
structure StI(w:J9)(s:sA)(j:Nat):Prop where
 r:0<=(gd s.gp.ay j).cQ/\(gd s.gp.ay j).cQ<=5
 fr:((gd s.gp.ay j).cQ=0\/(gd s.gp.ay j).cQ=1)↔gd s.count j=0
 z:j=0->(gd s.gp.ay j).cQ≠0
 wt:((gd s.gp.ay j).cQ=3\/(gd s.gp.ay j).cQ=4)->aF (L w.bC) (gd s.gp.ay j).cond/\(gd s.gp.ak (gd w.bC (gd s.gp.ay j).cond.toNat).eg.toNat).awG≠j
 nw:¬((gd s.gp.ay j).cQ=3\/(gd s.gp.ay j).cQ=4)->(gd s.gp.ay j).cond=0
 at':(gd s.gp.ay j).atomic=U->bg s j
structure LcI(w:J9)(s:sA)(j:Nat):Prop where
 ow:(gd s.gp.ak j).awG≠-1->bg s (gd s.gp.ak j).awG
 rd:(gd s.gp.ak j).bk≠[]->(gd w.ak j).rw=U/\(gd s.gp.ak j).awG= -1
 rb:∀x∈(gd s.gp.ak j).bk,bg s x
 inc:jC (gd s.gp.ak j).bk
structure SI(w:J9)(s:sA)(n:Nat):Prop where
 fit:fN w s=U
 c0:∀c∈s.count,0<=c
 sum:s.count.sum=n
 st:∀j,j<L s.gp.ay->StI w s j
 lk:∀j,j<L s.gp.ak->LcI w s j
 tx:s.gp.tx≠-1->bg s s.gp.tx
 fu:∀j,j<L s.bU->gd s.gp.done j=I->gd s.bU j=0
theorem gdS{α:Type}[Inhabited α]{l:List α}{i j:Nat}{x:α}:gd (l.set i x) j=if i=j/\j<L l then x else gd l j:=by grind [gd]
theorem aTf{α:Type}[Inhabited α]{l:List α}{i j:Nat}{x:α}(h:i≠j):gd (l.set i x) j=gd l j:=by grind [gdS]
theorem aTe{α:Type}[Inhabited α]{l:List α}{i:Nat}{x:α}(h:i<L l):gd (l.set i x) i=x:=by grind [gdS]
structure Mk(s s':aW):Prop where
 lk:s'.ak=s.ak
 tx:s'.tx=s.tx
 dn:s'.done=s.done
 len:L s'.ay=L s.ay
 th:∀j,gd s'.ay j=gd s.ay j\/((gd s.ay j).cQ=3/\gd s'.ay j={gd s.ay j with cQ:=4})
theorem Mk.refl(s:aW):Mk s s:=⟨rfl,rfl,rfl,rfl,λ_=> .inl rfl⟩
def aYj{s:aW}{c u:Int}(h:u∈fO s c):aF (L s.ay) u/\(gd s.ay u.toNat).cQ=3/\(gd s.ay u.toNat).cond=c:=by unfold fO eh at h;simp only[dN,jW,fq] at h;obtain⟨i,⟨b,a⟩,rfl⟩:=h;simp only[pe,bN,yp] at a;refine⟨⟨by omega,by omega⟩,?_⟩;grind
theorem Mk.one{s s':aW}(h:Mk s s'){u:Int}(a:(gd s.ay u.toNat).cQ=3):Mk s (ni s' u {fA s' u with cQ:=4}):=by refine⟨h.lk,h.tx,h.dn,by simp[ni,h.len],λj=>?_⟩;simp only[ni,fA,gdS];grind [Mk.th]
def Mk.fold{s:aW}:∀(l:List Int) {s':aW},Mk s s'->(∀u∈l,(gd s.ay u.toNat).cQ=3)->Mk s (l.foldl (λs u=>ni s u {fA s u with cQ:=4}) s')|[],_,h,_=>h|u::l,_,h,a=>Mk.fold l (h.one<|a u<|by simp) (by simp_all)
theorem bhI{s:aW}{f8 amt:Int}(h:fO s f8≠[]):(gd s.ay (tD s f8 amt).toNat).cQ=3:=by unfold tD;split;rename_i b;exact(aYj b).2.1;cases d:fO s f8 with|nil=>simp_all|cons a l=>exact(aYj (c:=f8)<|by grind [gd]).2.1
theorem a6V{w:J9}{s:aW}{t f8 amt:Int}:Mk s (cU w s t 18 f8 amt).1:=by simp only[cU];grind [Mk.one,Mk.refl,bhI]
theorem a6W{w:J9}{s:aW}{t f8 amt:Int}:Mk s (cU w s t 19 f8 amt).1:=by simp only[cU];simp only[show¬(19:Int)=1 by decide,show¬(19:Int)=2 by decide,show¬((19:Int)=6\/(19:Int)=10) by decide,show¬((19:Int)=7\/(19:Int)=11) by decide,show¬(19:Int)=8 by decide,show¬(19:Int)=9 by decide,show¬(19:Int)=12 by decide,show¬(19:Int)=13 by decide,show¬(19:Int)=14 by decide,show¬(19:Int)=15 by decide,show¬(19:Int)=16 by decide,show¬(19:Int)=17 by decide,show¬(19:Int)=18 by decide,brW,aPI];exact Mk.fold _ (Mk.refl s) (λu a=>(aYj a).2.1)
section
variable{w:J9}{s s':sA}{t:Nat}
structure Ct1(s s':sA)(t:Nat):Prop where
 lt:t<L s.count
 e:s'.count=s.count.set t (gd s.count t+1)
 p:0<=gd s.count t
theorem Ct1.len(h:Ct1 s s' t):L s'.count=L s.count:=by rw[h.e];simp
theorem Ct1.at(h:Ct1 s s' t):gd s'.count t=gd s.count t+1:=by rw[h.e,aTe h.lt]
theorem Ct1.ne(h:Ct1 s s' t){j:Nat}(a:j≠t):gd s'.count j=gd s.count j:=by rw[h.e,aTf<|Sa a]
theorem Ct1.bg(h:Ct1 s s' t){x:Int}(a:Ab.bg s x):Ab.bg s' x:=by refine⟨by rw[h.len];exact a.1,?_⟩;by_cases e:x.toNat=t;rw[e,h.at];have:=h.p;omega;rw[h.ne e];exact a.2
theorem Ct1.own(h:Ct1 s s' t):Ab.bg s' (t:Int):=by refine⟨⟨by omega,by rw[h.len];have:=h.lt;omega⟩,?_⟩;rw[bh,h.at];have:=h.p;omega
theorem StI.keep(c:Ct1 s s' t){j:Nat}(b:j≠t)(a:gd s'.gp.ay j=gd s.gp.ay j)(d:∀l,(gd s'.gp.ak l).awG=(gd s.gp.ak l).awG\/(gd s'.gp.ak l).awG=t\/(gd s'.gp.ak l).awG= -1)(h:StI w s j):StI w s' j:=by refine⟨by rw[a];exact h.r,by rw[a,c.ne b];exact h.fr,by rw[a];exact h.z,λhs=>?_,by rw[a];exact h.nw,by grind [Ct1.bg,StI.at']⟩;grind [StI.wt]
theorem StI.own(c:Ct1 s s' t){x:aoC}(f:gd s'.gp.ay t=x)(b:x.cQ=2\/x.cQ=5)(d:x.cond=0):StI w s' t:=by have a:=c.own;have e:¬gd s'.count t=0:=(by rw[c.at];have:=c.p;omega);refine⟨by grind,by grind,by grind,by grind,by simp_all,λ_=>a⟩
theorem LcI.keep(c:Ct1 s s' t){j:Nat}(a:gd s'.gp.ak j=gd s.gp.ak j)(h:LcI w s j):LcI w s' j:=⟨by grind [Ct1.bg,LcI.ow],by rw[a];exact h.rd,by grind [Ct1.bg,LcI.rb],by rw[a];exact h.inc⟩
end
def bfw{l:List Int}:∀{i:Nat} {x:Int},i<L l->(l.set i x).sum=l.sum-gd l i+x:=by induction l with|nil=>simp|cons a l b=>intro i x h;cases i with|zero=>simp[gd];omega|succ i=>grind [gd]
def aWu{l:List Int}:(∀c∈l,0<=c)->∀i,gd l i<=l.sum/\0<=l.sum:=by induction l with|nil=>intro _ i;simp[gd]|cons a l b=>intro h i;have d:=h a (by simp);obtain⟨e,f⟩:=b (by simp_all)<|i-1;grind [gd,Nat.add_sub_cancel]
section
variable{w:J9}{s s':sA}{t n:Nat}
theorem SI.next(h:SI w s n)(c:Ct1 s s' t)(a:fN w s'=U)(m:∀j,j<L s.gp.ay->StI w s' j)(l:∀j,j<L s.gp.ak->LcI w s' j)(g:L s'.gp.ay=L s.gp.ay)(i:L s'.gp.ak=L s.gp.ak)(k:s'.gp.tx=s.gp.tx\/s'.gp.tx=t\/s'.gp.tx= -1)(d:∀j,j<L s'.bU->gd s'.gp.done j=I->gd s'.bU j=0):SI w s' (n+1):=by refine⟨a,?_,?_,by simp_all,by simp_all,λb=>?_,d⟩;intro x b;rw[c.e] at b;rcases CC b with f|rfl;exact h.c0 x f;have:=c.p;omega;rw[c.e,bfw c.lt,h.sum];omega;grind [Ct1.bg,SI.tx,Ct1.own]
theorem SI.mk1(h:SI w s n)(c:Ct1 s s' t)(a:fN w s'=U)(f:∀j,j≠t->gd s'.gp.ay j=gd s.gp.ay j)(b:L s'.gp.ay=L s.gp.ay)(e:L s'.gp.ak=L s.gp.ak)(k:StI w s' t)(m:∀l,(gd s'.gp.ak l).awG=(gd s.gp.ak l).awG\/(gd s'.gp.ak l).awG=t\/(gd s'.gp.ak l).awG= -1)(i:∀j,j<L s.gp.ak->LcI w s' j)(g:s'.gp.tx=s.gp.tx\/s'.gp.tx=t\/s'.gp.tx= -1)(d:∀j,j<L s'.bU->gd s'.gp.done j=I->gd s'.bU j=0):SI w s' (n+1):=by grind [SI.next,StI.keep,SI.st]
end
theorem a97{w:J9}{s:aW}{t k f8 amt:Int}:L (cU w s t k f8 amt).1.ak=L s.ak/\L (cU w s t k f8 amt).1.done=L s.done/\L (cU w s t k f8 amt).1.ay=L s.ay:=by by_cases a:k=18;grind [a6V,Mk.lk,Mk.dn,Mk.len];by_cases b:k=19;grind [a6W,Mk.lk,Mk.dn,Mk.len];unfold cU;by_cases q:k=1;grind [ni,I9];rw[j5 q];clear q;by_cases q:k=2;grind [ni,I9];rw[j5 q];clear q;by_cases q:k=6\/k=10;grind [ni,I9];rw[j5 q];clear q;by_cases q:k=7\/k=11;grind [ni,I9];rw[j5 q];clear q;by_cases q:k=8;grind [ni,I9];grind [ni,I9]
def bfb{w:J9}{s:sA}{e:aP}(h:fN w s=U):fN w (oc w s e)=U:=by grind [a97,og,fN,lh,oc]
theorem SI.step{w:J9}{s:sA}{e:aP}{n:Nat}(h:SI w s n)(hv:∀j,j<L w.bC->uh w j=I)(hn:n<100000)(P:be3 w s e=U):SI w (oc w s e) (n+1):=by
 simp only[be3,eH,cP] at P
 obtain⟨R,_,_,_,b5⟩:=P
 simp only[aOL,cP,fK,aNK] at R
 obtain⟨⟨⟨⟨hf,ht⟩,k1⟩,k2⟩,he⟩:=R
 have q:=bfb (e:=e) hf
 simp only[jm,bN] at he
 obtain⟨ad,_,i,g⟩:=he
 obtain⟨W,f2,f3,f4⟩:=iY ad
 have F:=dX.1 ht
 have av:L s.count=L w.ay:=by grind [fN]
 have ax:L s.bU=L w.bU:=by grind [fN]
 obtain⟨K,kd,f8,val,site,dI,ep⟩:=e
 simp only at ht F k1 k2 i g
 obtain⟨t,rfl⟩:∃t:Nat,K=t:=⟨K.toNat,by have:=F.1;omega⟩
 have aB:t<L w.ay:=by have:=F.2;omega
 have H:=h.st t (by omega)
 have ab:0<=gd s.count t/\gd s.count t<=n:=by
  have D:=aWu h.c0 t
  rw[h.sum] at D
  exact⟨h.c0 _<|asq<|by omega,D.1⟩
 have c:Ct1 s (oc w s ⟨t,kd,f8,val,site,dI,ep⟩) t:=⟨by omega,by grind [oc,bh,eM],ab.1⟩
 have af:kd=1\/kd=2\/kd=3\/kd=4\/kd=5\/kd=6\/kd=7\/kd=8\/kd=9\/kd=10\/kd=11\/kd=12\/kd=13\/kd=14\/kd=15\/kd=16\/kd=17\/kd=18\/kd=19\/kd=20\/kd=21\/kd=22\/kd=23:=by omega
 generalize hS:oc w s ⟨t,kd,f8,val,site,dI,ep⟩=S at*
 have ag:S.gp=(cU w s.gp t kd f8<|og ⟨t,kd,f8,val,site,dI,ep⟩).1:=by rw[<-hS];rfl
 have z:kd≠22->S.bU=s.bU:=(by grind [oc])
 have v:S.bU=s.bU->S.gp.done=s.gp.done->∀j,j<L S.bU->gd S.gp.done j=I->gd S.bU j=0:=(by grind [SI.fu])
 have G:S.gp.ak=s.gp.ak->∀j,j<L s.gp.ak->LcI w S j:=(by grind [LcI.keep,SI.lk])
 generalize og ⟨t,kd,f8,val,site,dI,ep⟩=wk at ag
 have ao:kd=22->S.bU=s.bU.set f8.toNat val:=(by grind [oc])
 clear hS
 have aC:Mk s.gp S.gp->kd≠22->(gd s.gp.ay t).cQ=2->SI w S (n+1):=λm a X=>by
  refine h.next c q (λj A=>?_) (G m.lk) m.len (by rw[m.lk]) (.inl m.tx) (v (z a) m.dn)
  by_cases T:j=t
  ·grind [Mk.th,StI.own,StI.nw]
  ·have ae:=h.st j A
   rcases m.th j with D|⟨D,Z⟩
   ·grind [StI.keep,Mk.lk]
   ·have e4:=ae.wt<|.inl D
    refine⟨by simp_all,by grind [Ct1.ne,StI.fr],by grind,(by grind [Mk.lk]),by simp_all,by grind [Ct1.bg,StI.at']⟩
 have al:S.gp=s.gp->kd≠22->(gd s.gp.ay t).cQ=2->SI w S (n+1):=(by grind [SI.mk1,StI.own,StI.nw])
 have one:∀x:aoC,S.gp=ni s.gp t x->kd≠22->x.cQ=2\/x.cQ=5->x.cond=0->SI w S (n+1):=λx b a X Z=>by
  refine h.mk1 c q (by grind [ni,bh,aTf]) (by grind [ni]) (by rw[b];rfl) (by grind [StI.own,ni,bh,aTe]) (λl=> .inl<|by rw[b];rfl) (G<|by rw[b];rfl) (.inl<|by rw[b];rfl) (v (z a)<|by rw[b];rfl)
 have lock:∀(k:Nat) (x:cg),S.gp={s.gp with ak:=s.gp.ak.set k x}->kd≠22->(gd s.gp.ay t).cQ=2->(x.awG=(gd s.gp.ak k).awG\/x.awG=t\/x.awG= -1)->(x.bk≠[]->(gd w.ak k).rw=U/\x.awG= -1)->(∀y∈x.bk,y=t\/y∈(gd s.gp.ak k).bk)->jC x.bk->k<L s.gp.ak->SI w S (n+1):=λk x b a X Z h4 h5 h6 P=>by
  have C:∀j,gd S.gp.ak j=if k=j/\j<L s.gp.ak then x else gd s.gp.ak j:=(by grind [gdS])
  refine h.mk1 c q (λj _=>by rw[b]) (by rw[b]) (by rw[b];simp) (by grind [StI.own,StI.nw]) (λl=>?_) (λj A=>?_) (.inl<|by rw[b]) (by grind)
  ·grind
  ·by_cases B:k=j
   ·subst B
    have p:gd S.gp.ak k=x:=by simp_all
    have l0:=h.lk k A
    refine⟨by grind [Ct1.bg,LcI.ow,Ct1.own],by simp_all,by grind [Ct1.own,Ct1.bg,LcI.rb],by simp_all⟩
   grind [LcI.keep,SI.lk]
 rcases af with rfl|rfl|rfl|rfl|rfl|rfl|rfl|rfl|rfl|rfl|rfl|rfl|rfl|rfl|rfl|rfl|rfl|rfl|rfl|rfl|rfl|rfl|rfl
 all_goals simp[lc] at g
 ·exact one {gd s.gp.ay t with cQ:=2} (by grind [cU,fA]) (by decide) (.inl rfl) (H.nw<|by omega)
 ·exact one {gd s.gp.ay t with cQ:=5} (by grind [cU,fA]) (by decide) (.inr rfl) (H.nw<|by omega)
 ·grind [cU]
 ·grind [cU]
 ·grind [cU]
 ·
  have f:=mJ i (by decide) (by decide)
  have d:f8.toNat<L s.gp.ak:=by have:=f.1;have:=f.2;omega
  have l0:=h.lk _ d
  simp[named] at i
  exact lock f8.toNat {cH s.gp f8 with awG:=t} (by grind [cU,I9]) (by decide) g.1 (.inr<|.inl rfl) (λa=>by have:=(l0.rd a).1;grind) (λy o=> .inr o) l0.inc d
 ·have f:=mJ i (by decide) (by decide)
  have d:f8.toNat<L s.gp.ak:=by have:=f.1;have:=f.2;omega
  have l0:=h.lk _ d
  exact lock f8.toNat {cH s.gp f8 with awG:= -1} (by grind [cU,I9]) (by decide) g.1 (.inr<|.inr rfl) (λa=>⟨(l0.rd a).1,rfl⟩) (λy o=> .inr o) l0.inc d
 ·
  have f:=mJ i (by decide) (by decide)
  have d:f8.toNat<L s.gp.ak:=by have:=f.1;have:=f.2;omega
  have l0:=h.lk _ d
  simp[named] at i
  have e0:mP (cH s.gp f8).bk [(t:Int)]=fk (cH s.gp f8).bk t:=Ro l0.inc
  exact lock f8.toNat {cH s.gp f8 with bk:=mP (cH s.gp f8).bk [(t:Int)]} (by grind [cU,I9]) (by decide) g.1 (.inl rfl) (λ_=>⟨i.2,g.2.1⟩) (λy o=>by rw[e0] at o;exact an1 o) (by rw[e0];exact Nz l0.inc) d
 ·
  have f:=mJ i (by decide) (by decide)
  have d:f8.toNat<L s.gp.ak:=by have:=f.1;have:=f.2;omega
  have l0:=h.lk _ d
  exact lock f8.toNat {cH s.gp f8 with bk:=fJ (cH s.gp f8).bk t} (by grind [cU,I9]) (by decide) g.1 (.inl rfl) (λa=>l0.rd<|λe=>a<|by simp[cH,e,fJ]) (λy o=> .inr (jW.1 o).1) (amF.2<|(amF.1 l0.inc).filter _) d
 ·
  have f:=mJ i (by decide) (by decide)
  have d:f8.toNat<L s.gp.ak:=by have:=f.1;have:=f.2;omega
  have l0:=h.lk _ d
  exact lock f8.toNat {cH s.gp f8 with awG:=t} (by grind [cU,I9]) (by decide) g.1 (.inr<|.inl rfl) (λa=>aPo g.2.2 a) (λy o=> .inr o) l0.inc d
 ·have f:=mJ i (by decide) (by decide)
  have d:f8.toNat<L s.gp.ak:=by have:=f.1;have:=f.2;omega
  have l0:=h.lk _ d
  exact lock f8.toNat {cH s.gp f8 with awG:= -1} (by grind [cU,I9]) (by decide) g.1 (.inr<|.inr rfl) (λa=>⟨(l0.rd a).1,rfl⟩) (λy o=> .inr o) l0.inc d
 ·
  have b:S.gp={s.gp with tx:=(t:Int)}:=by grind [cU]
  grind [SI.mk1,StI.own,StI.nw]
 ·have b:S.gp={s.gp with tx:= -1}:=by grind [cU]
  grind [SI.mk1,StI.own,StI.nw]
 ·exact one {gd s.gp.ay t with atomic:=U} (by grind [cU,fA]) (by decide) (.inl g.1) (H.nw<|by omega)
 ·exact one {gd s.gp.ay t with atomic:=I} (by grind [cU,fA]) (by decide) (.inl g.1) (H.nw<|by omega)
 ·
  have f:=oT i (by decide) (by decide)
  have r:f8.toNat<L w.bC:=by have:=f.1;have:=f.2;omega
  have hm:=W _<|asq r
  have u:(gd w.bC f8.toNat).eg.toNat<L s.gp.ak:=by omega
  have l0:=h.lk _ u
  generalize M:(gd w.bC f8.toNat).eg=m at*
  have b:S.gp=ni (I9 s.gp m {cH s.gp m with awG:= -1}) t {fA s.gp t with cQ:=3,cond:=f8}:=by grind [cU]
  have C:∀j,gd S.gp.ak j=if m.toNat=j/\j<L s.gp.ak then{cH s.gp m with awG:= -1} else gd s.gp.ak j:=λj=>by rw[b];exact gdS
  have N:gd S.gp.ay t={fA s.gp t with cQ:=3,cond:=f8}:=by grind [ni,bh,aTe,I9]
  refine h.mk1 c q (by grind [ni,bh,I9,aTf]) (by grind [ni,I9]) (by grind [ni,I9]) ?_ (λl=>?_) (λj A=>?_) (.inl<|by rw[b];rfl) (v (z<|by decide)<|by rw[b];rfl)
  ·have aw:=c.at
   refine⟨by grind,by grind,by grind,λ_=>?_,by grind,λ_=>c.own⟩
   rw[N]
   refine⟨f,?_⟩
   simp only[M]
   rw[C,lC ⟨rfl,u⟩]
   simp only;omega
  ·grind
  ·by_cases B:m.toNat=j
   ·subst B
    have p:=C m.toNat
    rw[lC ⟨rfl,u⟩] at p
    exact⟨by grind,by rw[p];exactλa=>⟨(l0.rd a).1,rfl⟩,by rw[p];exactλy o=>c.bg<|l0.rb y o,by rw[p];exact l0.inc⟩
   grind [LcI.keep,SI.lk]
 ·
  have f:=oT i (by decide) (by decide)
  have r:f8.toNat<L w.bC:=by have:=f.1;have:=f.2;omega
  have hm:=W _<|asq r
  have E:=hv _ r
  have u:(gd w.bC f8.toNat).eg.toNat<L s.gp.ak:=by omega
  have l0:=h.lk _ u
  simp only[uh,cP] at E
  have aA:=E.2
  clear E
  generalize M:(gd w.bC f8.toNat).eg=m at*
  have b:S.gp=ni (I9 s.gp m {cH s.gp m with awG:=t}) t {fA s.gp t with cQ:=2,cond:=0}:=by grind [cU]
  have C:∀j,gd S.gp.ak j=if m.toNat=j/\j<L s.gp.ak then{cH s.gp m with awG:=(t:Int)} else gd s.gp.ak j:=λj=>by rw[b];exact gdS
  have N:gd S.gp.ay t={fA s.gp t with cQ:=2,cond:=0}:=by grind [ni,bh,aTe,I9]
  refine h.mk1 c q (by grind [ni,bh,I9,aTf]) (by grind [ni,I9]) (by grind [ni,I9]) (StI.own c N (.inl rfl) rfl) (λl=>?_) (λj A=>?_) (.inl<|by rw[b];rfl) (v (z<|by decide)<|by rw[b];rfl)
  ·grind
  ·by_cases B:m.toNat=j
   ·subst B
    have p:=C m.toNat
    rw[lC ⟨rfl,u⟩] at p
    exact⟨by grind [Ct1.own],by rw[p];exactλa=>aPo (l0.rd a).1 (by simp_all),by rw[p];exactλy o=>c.bg<|l0.rb y o,by rw[p];exact l0.inc⟩
   grind [LcI.keep,SI.lk]
 ·grind [a6V]
 ·grind [a6W]
 ·
  have r:=Eb i (by decide) (by decide)
  have az:f8.toNat<L w.ay:=by have:=r.1;have:=r.2;omega
  have a:f8.toNat≠t:=by grind
  have O:=h.st f8.toNat (by omega)
  have b:S.gp=ni s.gp f8 {fA s.gp f8 with cQ:=1}:=by grind [cU]
  have C:∀j,gd S.gp.ay j=if f8.toNat=j/\j<L s.gp.ay then{fA s.gp f8 with cQ:=1} else gd s.gp.ay j:=λj=>by rw[b];exact gdS
  refine h.next c q (λj A=>?_) (G<|by rw[b];rfl) (by grind [ni]) (by rw[b];rfl) (.inl<|by rw[b];rfl) (v (z<|by decide)<|by rw[b];rfl)
  by_cases B:f8.toNat=j
  ·subst B
   have p:=C f8.toNat
   rw[lC ⟨rfl,A⟩] at p
   have h0:gd s.count f8.toNat=0:=O.fr.1<|.inl g.2.2
   refine⟨by grind,by grind [Ct1.ne],by grind,by grind,by rw[p];intro _;exact O.nw (by omega),by rw[p];exactλha=>c.bg<|O.at' ha⟩
  ·by_cases T:j=t
   ·grind [StI.own,StI.nw]
   ·exact StI.keep c T (by grind) (λl=> .inl<|by rw[b];rfl) (h.st j A)
 ·grind [cU]
 ·
  have b:S.gp={s.gp with done:=s.gp.done.set f8.toNat U}:=by grind [cU]
  grind [SI.mk1,StI.own,StI.nw,gdS,SI.fu]
 grind [cU]
structure PB(x:ae)(v6 v7:Nat)(c:aBY)(ch:BF):Prop where
 hl:L x=4096
 b1:box x (3,1)=V ⟨129,7,U,U,[c.c]⟩
 b3:box x (5,1)=V ⟨170,2,U,U,[ch.c]⟩
 b6:box x (6,v6)=V ⟨124,7,U,U,[aOO]⟩
 b7:box x (7,v7)=V ⟨62,7,U,U,[bnk]⟩
theorem PB.kx{x y:ae}{v6 v7:Nat}{c:aBY}{ch:BF}{ks:List Nat}(P:PB x v6 v7 c ch)(F:Kx ks x y)(h:3∉ks/\5∉ks/\6∉ks/\7∉ks):PB y v6 v7 c ch:=⟨F.len.trans P.hl,F.keep _ _ h.1 P.b1,F.keep _ _ h.2.1 P.b3,F.keep _ _ h.2.2.1 P.b6,F.keep _ _ h.2.2.2 P.b7⟩
theorem PB.fx{x y:ae}{v6 v7:Nat}{c:aBY}{ch:BF}{Lw:List Id}(P:PB x v6 v7 c ch)(F:Fx x y Lw)(h:∀q∈Lw,q.1≠3/\q.1≠5/\q.1≠6/\q.1≠7):PB y v6 v7 c ch:=⟨F.len.trans P.hl,(by grind [Fx.keep,PB.b1]),(by grind [Fx.keep,PB.b3]),(by grind [Fx.keep,PB.b6]),by grind [Fx.keep,PB.b7]⟩
section
variable{pl:Nat×Nat×Nat}{x:ae}{a:AV}{f:Nat->AV×AV}{ss:List aNQ}{n u:Nat}
def TTs.ix(T:TTs pl I x a f ss n)(h:u<n){K:j4}(g:∀b,a= .m b n->box x b=V ⟨251,4,U,U,alx f ss n⟩->K (.p b u 0)):rV (cz 4 x a<|iv u) K:=by rcases T.bx with⟨j,_⟩|⟨b,rfl,_,d⟩;omega;have:cz 4 x (.m b n) (iv u)=V (.p b u 0):=(by simp[cz,d,h]);rw[this];exact g b rfl d
def be4{b:Id}{e:TypeId}{z:Nat}{o v:Bool}(d:box x b=V ⟨e,z,o,v,alx f ss n⟩)(g:u<n):vp (V 4) x (.p b u 0)=V (.a [iv (gd ss u).pc,(f u).1,(f u).2,iv (gd ss u).ac]):=by simp only[vp,iE,d,aQd,aTy g];rfl
theorem a7b{s:aNQ}(b:s.pc=(gd ss u).pc)(d:s.ac=(gd ss u).ac):alx f (ss.set u s) n=alx f ss n:=by grind [alx,gdS]
theorem bfD(T:TTs pl I x a f ss n)(z:u<n)(O:n<=L ss){m:Nat}(N:m<L (gd ss u).y7){v:Int}{K:be}(H:pl.1≠pl.2.1/\pl.1≠pl.2.2)(D:∀p y,TTs pl I y a f (ss.set u {gd ss u with y7:=(gd ss u).y7.set m v}) n->Fx x y (aA (f u).1)->K p y):rV (cz 1 x (f u).1<|iv m) λp=>sV (aK 1 x p<|iv v) (K p):=by refine ixG (T.g1 u z) (by grind [dJ]) λd m1 j t=>?_;rw[bh];have G:d.1=pl.1:=T.p1 u z d (by grind [aA]);refine aQz (x:=iv v) (r:=[iv<|gd (gd ss u).y7 m]) t (by grind [bT]) (by simp) rfl rfl rfl λy F o=>?_;have l:((gd ss u).y7.map ci++m1).set m ([iv<|gd (gd ss u).y7 m].set 0<|nrm<|eR x<|iv v)=((gd ss u).y7.set m v).map ci++m1:=(by rw[List.set_append_left _ _ (by grind),vB];rfl);rw[l] at o;have E:aA (f u).1=[d]:=(by rw[j];rfl);have w:∀k,k<n->k≠u->∀q∈aA (f k).1,q∉[d]:=(by grind [TTs.d1]);refine D _ y ⟨T.bx.elim .inl λ⟨b,B,C,M⟩=> .inr ⟨b,B,C,?_⟩,λk g=>?_,λk g=>?_,T.p1,T.p2,T.d1,T.d2⟩ (by simp_all);grind [a7b,Fx.keep];rw[gdS];by_cases e:u=k;subst e;rw[lC ⟨rfl,by omega⟩];exact .inr ⟨d,m1,by rw[j];simp,o⟩;rw[j5<|λh=>e h.1];exact(T.g1 k g).fx F<|w k g<|Sa e;rw[gdS];have A:G2 I y (f k).2 (gd ss k).J6:=(T.g2 k g).fx F (by grind [TTs.p2]);grind
theorem bfE(T:TTs pl I x a f ss n)(D:u<n)(R:n<=L ss){m:Nat}(B:m<L (gd ss u).J6){l:List Int}{t o:Bool}{K:ae->Prop}(O:pl.2.1≠pl.1/\pl.2.1≠pl.2.2)(H:∀y,TTs pl I y a f (ss.set u {gd ss u with J6:=(gd ss u).J6.set m l}) n->Fx x y (aA (f u).2)->K y):rV (cz 1 x (f u).2<|iv m) λp=>sV (aK 1 x p<|.l (l.map ci) t o) K:=by have v:qc x 38 1 (f u).2 ((gd ss u).J6.map cl):=T.g2 u D;refine ixG v (by grind [dJ]) λd m1 j A=>?_;rw[bh];have N:d.1=pl.2.1:=T.p2 u D d (by grind [aA]);refine aQz (x:= .l (l.map ci) t o) (r:=[sl ci<|gd (gd ss u).J6 m]) A (by rw[xe (by grind),bj9,eC B,bT B];rfl) (by simp) rfl rfl rfl λy F z=>?_;have w:((gd ss u).J6.map cl++m1).set m ([sl ci<|gd (gd ss u).J6 m].set 0<|nrm<|eR x<|.l (l.map ci) t o)=((gd ss u).J6.set m l).map cl++m1:=(by rw[List.set_append_left _ _ (by grind),vB];rfl);rw[w] at z;have M:aA (f u).2=[d]:=(by rw[j];rfl);have C:∀k,k<n->k≠u->∀q∈aA (f k).2,q∉[d]:=(by grind [TTs.d2]);refine H y ⟨T.bx.elim .inl λ⟨b,E,G,P⟩=> .inr ⟨b,E,G,?_⟩,λk g=>?_,λk g=>?_,T.p1,T.p2,T.d1,T.d2⟩ (by simp_all);grind [a7b,Fx.keep];rw[gdS];have g1:qc y 2 1 (f k).1 ((gd ss k).y7.map ci):=(T.g1 k g).fx F (by grind [TTs.p1]);grind;rw[gdS];by_cases e:u=k;subst e;rw[lC ⟨rfl,by omega⟩];show qc y 38 1 (f u).2<|((gd ss u).J6.set m l).map cl;exact .inr ⟨d,m1,by rw[j];simp,z⟩;rw[j5<|λh=>e h.1];exact(T.g2 k g).fx F<|C k g<|Sa e
theorem bfC{b:Id}{r:List AV}{s:aNQ}{y:ae}(T:TTs pl I y (.m b<|L ss) f ss<|L ss){e:TypeId}{z:Nat}{o:Bool}(B:u<L ss)(t:box x b=V ⟨e,z,o,U,(alx f ss<|L ss).set u r⟩)(w:r.map (frN x)=s.c)(v:∀k,k<L ss->frN x (f k).1=sl ci (gd ss k).y7/\frN x (f k).2=sl cl (gd ss k).J6):fz x (.m b<|L ss)=sl aNQ.c (ss.set u s):=by have h:((alx f ss<|L ss).set u r).map (·.map (frN x))=(ss.set u s).map aNQ.c:=(by rw[vB,vB,w];congr 1;refine aqI λk=>?_;rcases jj k (L ss) with d|d;rw[bj9,aTy d,bj9,eC d];obtain⟨l,p⟩:=v k d;simp only[df,ji,mU,l,p,bT d];rfl;grind [aQ8]);have e:((alx f ss<|L ss).set u r).take (L ss)=(alx f ss<|L ss).set u r:=oB (by grind [aQ8]);have q:(((alx f ss<|L ss).set u r).all λr=>r.all λc=>eN<|frN x c)=U:=(by rw[dV];intro C j;rw[dV];intro c A;have g:=CA (f:=(·.map (frN x))) j;rw[h] at g;obtain⟨s,_,hs⟩:=dN.1 g;grind [CA,aNQ.c,eN,sl]);simp only[Ab.fz,dQ,t,e,q,aPI,h];rw[j5<|by decide];rfl
theorem idb{b q:Id}{k:Nat}(h:q∈[b])(d:b.1=k):q.1=k:=by simp_all
end
def aQc(t b:aNQ):Prop:=L t.y7=L b.y7/\L t.J6=L b.J6/\(∀l∈t.J6,Tn l)/\t.pc=b.pc/\t.ac=b.ac
structure SK(ch:BF)(cc fu:AV)(v15 u:Nat)(s:atC):Prop where
 pc:∀q∈aA cc,q.1=11
 pf:∀q∈aA fu,q.1=15/\q≠(15,v15)
 hu:u<L s.ay
 hch:ch.aq=u
structure SM(x:ae)(v6 v7 v9 v14 v15:Nat)(c:aBY)(ch:BF)(S:aW)(fl:Bool×Bool×Bool×Bool×Bool×Bool)(cc fu ta:AV)(f:Nat->AV×AV)(u:Nat)(s:atC)(e:aP)(i:aNZ):Prop where
 P:PB x v6 v7 c ch
 b4:box x (4,1)=V ⟨124,7,U,U,[eD S fl++[cc,fu,ta]]⟩
 b9:∃v:Int,box x (9,v9)=V ⟨62,7,U,U,[({e with value:=v}:aP).c]⟩
 b14:box x (14,v14)=V ⟨251,4,U,U,[[iv (gd s.ay u).pc,(f u).1,(f u).2,iv (gd s.ay u).ac]]⟩
 b15:box x (15,v15)=V ⟨264,6,U,U,[i.c]⟩
 gc:∃l:List Int,L l=L s.cells/\qc x 2 1 cc (l.map ci)
 gf:∃l:List Int,L l=L s.bU/\qc x 2 1 fu (l.map ci)
 tt:∃ss:List aNQ,L ss=L s.ay/\TTs (12,31,33) I x ta f ss (L ss)/\∀k,k<L ss->aQc (gd ss k) (gd s.ay k)
section
variable{x:ae}{v6 v7 v9 v14 v15:Nat}{c:aBY}{ch:BF}{S:aW}{fl:Bool×Bool×Bool×Bool×Bool×Bool}{cc fu ta:AV}{f:Nat->AV×AV}{u:Nat}{s:atC}{e:aP}{i:aNZ}{K:j4}{K2:be}{KS:ae->Prop}
theorem SM.to(M:SM x v6 v7 v9 v14 v15 c ch S fl cc fu ta f u s e i){y:ae}{Lw:List Id}(F:Fx x y Lw)(h:∀q∈Lw,q.1≠3/\q.1≠4/\q.1≠5/\q.1≠6/\q.1≠7/\q.1≠14/\q≠(15,v15))(b:∃v:Int,box y (9,v9)=V ⟨62,7,U,U,[({e with value:=v}:aP).c]⟩)(d:∃l:List Int,L l=L s.cells/\qc y 2 1 cc (l.map ci))(g:∃l:List Int,L l=L s.bU/\qc y 2 1 fu (l.map ci))(j:∃ss:List aNQ,L ss=L s.ay/\TTs (12,31,33) I y ta f ss (L ss)/\∀k,k<L ss->aQc (gd ss k) (gd s.ay k)):SM y v6 v7 v9 v14 v15 c ch S fl cc fu ta f u s e i:=⟨M.P.fx F (by grind),(by grind [Fx.keep,SM.b4]),b,(by grind [Fx.keep,SM.b14]),(by grind [Fx.keep,SM.b15]),d,g,j⟩
theorem SM.keep9(M:SM x v6 v7 v9 v14 v15 c ch S fl cc fu ta f u s e i){y:ae}{Lw:List Id}(F:Fx x y Lw)(h:∀q∈Lw,q.1≠9):∃v:Int,box y (9,v9)=V ⟨62,7,U,U,[({e with value:=v}:aP).c]⟩:=by grind [SM.b9,Fx.keep]
theorem SM.keepC(M:SM x v6 v7 v9 v14 v15 c ch S fl cc fu ta f u s e i){y:ae}{Lw:List Id}(F:Fx x y Lw)(h:∀q∈aA cc,q∉Lw):∃l:List Int,L l=L s.cells/\qc y 2 1 cc (l.map ci):=by grind [SM.gc,qc.fx]
theorem SM.keepF(M:SM x v6 v7 v9 v14 v15 c ch S fl cc fu ta f u s e i){y:ae}{Lw:List Id}(F:Fx x y Lw)(h:∀q∈aA fu,q∉Lw):∃l:List Int,L l=L s.bU/\qc y 2 1 fu (l.map ci):=by grind [SM.gf,qc.fx]
theorem SM.keepT(M:SM x v6 v7 v9 v14 v15 c ch S fl cc fu ta f u s e i){y:ae}{Lw:List Id}(F:Fx x y Lw)(h:∀q∈Lw,q.1≠12/\q.1≠31/\q.1≠33):∃ss:List aNQ,L ss=L s.ay/\TTs (12,31,33) I y ta f ss (L ss)/\∀k,k<L ss->aQc (gd ss k) (gd s.ay k):=by grind [SM.tt,TTs.fx]
theorem aX3(M:SM x v6 v7 v9 v14 v15 c ch S fl cc fu ta f u s e i)(C:SK ch cc fu v15 u s){v:Int}(h:∀y,SM y v6 v7 v9 v14 v15 c ch S fl cc fu ta f u s e i->KS y):sV (aK 1 x (.p (9,v9) 0 3)<|iv v) KS:=by obtain⟨l,j⟩:=M.b9;refine A0 j rfl (by simp[aP.c]) λy F b=>h y (M.to F (by simp) ⟨v,b⟩ (M.keepC F λq d g=>?_) (M.keepF F λq d g=>?_)<|M.keepT F<|by simp);grind [SK.pc];have k:=(C.pf q d).1;simp_all
theorem aTu{e:TypeId}{a:AV}{l:List Int}(g:qc x e 1 a<|l.map ci){o:Int}(b:aF (L l) o)(d:∀v:Int,K<|iv v):rV (cz 1 x a<|iv o) λp=>rV (vp J x p) K:=by obtain⟨m,rfl⟩:∃m:Nat,o=m:=⟨o.toNat,by have:=b.1;omega⟩;have h:m<L l:=(by have:=b.2;omega);refine(SlR.of g).ix1 (c:=iv<|gd l m) (by grind [bT]) (K:=λ_=>K) λ_ _=>d _
theorem bfe(M:SM x v6 v7 v9 v14 v15 c ch S fl cc fu ta f u s e i){o:Int}(h:aF (L s.cells) o)(b:∀v:Int,K<|iv v):rV (cz 1 x cc<|iv o) λp=>rV (vp J x p) K:=by obtain⟨l,d,g⟩:=M.gc;exact aTu g (by simp_all) b
theorem bff(M:SM x v6 v7 v9 v14 v15 c ch S fl cc fu ta f u s e i){o:Int}(h:aF (L s.bU) o)(b:∀v:Int,K<|iv v):rV (cz 1 x fu<|iv o) λp=>rV (vp J x p) K:=by obtain⟨l,d,g⟩:=M.gf;exact aTu g (by simp_all) b
def aX2(M:SM x v6 v7 v9 v14 v15 c ch S fl cc fu ta f u s e i)(C:SK ch cc fu v15 u s){o:Int}(j:aF (L (gd s.ay u).y7) o)(h:∀v:Int,K<|iv v):rV (cz 1 x (f u).1<|iv o) λp=>rV (vp J x p) K:=by obtain⟨ss,d,T,g⟩:=M.tt;have b:u<L ss:=(by rw[d];exact C.hu);exact aTu (T.g1 u b) (by rw[(g u b).1];exact j) h
theorem aR5{e:TypeId}{a:AV}{l:List Int}(g:qc x e 1 a<|l.map ci){o v:Int}(j:aF (L l) o)(k:∀p y,Fx x y (aA a)->qc y e 1 a ((l.set o.toNat v).map ci)->K2 p y):rV (cz 1 x a<|iv o) λp=>sV (aK 1 x p<|iv v) (K2 p):=by refine ixG g (by grind) λb m q t=>?_;have w:o.toNat<L l:=(by have:=j.1;have:=j.2;omega);refine aQz (x:=iv v) (r:=[iv<|gd l o.toNat]) t (by grind [bT]) (by simp) rfl rfl rfl λy F h=>?_;have d:(l.map ci++m).set o.toNat ([iv<|gd l o.toNat].set 0<|nrm<|eR x<|iv v)=(l.set o.toNat v).map ci++m:=(by rw[List.set_append_left _ _ (by grind),vB];rfl);rw[d] at h;exact k _ y (by grind [aA]) (.inr ⟨b,m,by rw[q];simp,h⟩)
theorem bfg(M:SM x v6 v7 v9 v14 v15 c ch S fl cc fu ta f u s e i)(C:SK ch cc fu v15 u s){o v:Int}(m:aF (L s.cells) o)(h:∀p y,SM y v6 v7 v9 v14 v15 c ch S fl cc fu ta f u s e i->K2 p y):rV (cz 1 x cc<|iv o) λp=>sV (aK 1 x p<|iv v) (K2 p):=by obtain⟨l,d,g⟩:=M.gc;refine aR5 g (by simp_all) λp y F k=>h p y (M.to F (λq b=>?_) (M.keep9 F λq b=>?_) (by grind) (M.keepF F λq b j=>?_)<|M.keepT F λq b=>?_);grind [SK.pc];grind [SK.pc];have d:=(C.pf q b).1;grind [SK.pc];grind [SK.pc]
theorem bfh(M:SM x v6 v7 v9 v14 v15 c ch S fl cc fu ta f u s e i)(C:SK ch cc fu v15 u s){o v:Int}(m:aF (L s.bU) o)(j:∀p y,SM y v6 v7 v9 v14 v15 c ch S fl cc fu ta f u s e i->K2 p y):rV (cz 1 x fu<|iv o) λp=>sV (aK 1 x p<|iv v) (K2 p):=by obtain⟨l,h,g⟩:=M.gf;refine aR5 g (by simp_all) λp y F k=>j p y (M.to F (λq b=>?_) (M.keep9 F λq b=>?_) (M.keepC F λq b d=>?_) (by grind)<|M.keepT F λq b=>?_);grind [SK.pf];have:=(C.pf q b).1;omega;have h:=(C.pf q d).1;grind [SK.pc];have:=(C.pf q b).1;omega
theorem a7e{ss:List aNQ}{t:aNQ}(b:∀k,k<L ss->aQc (gd ss k) (gd s.ay k))(d:aQc t<|gd s.ay u):∀k,k<L (ss.set u t)->aQc (gd (ss.set u t) k) (gd s.ay k):=(by grind [gdS])
theorem bfi(M:SM x v6 v7 v9 v14 v15 c ch S fl cc fu ta f u s e i)(C:SK ch cc fu v15 u s){o v:Int}(l:aF (L (gd s.ay u).y7) o)(r:∀p y,SM y v6 v7 v9 v14 v15 c ch S fl cc fu ta f u s e i->K2 p y):rV (cz 1 x (f u).1<|iv o) λp=>sV (aK 1 x p<|iv v) (K2 p):=by obtain⟨ss,j,T,k⟩:=M.tt;have b:u<L ss:=(by rw[j];exact C.hu);obtain⟨m,rfl⟩:∃m:Nat,o=m:=⟨o.toNat,by have:=l.1;omega⟩;have g:=k u b;refine bfD T b (dA _) (by rw[g.1];have:=l.2;omega) (by decide) λp y t F=>r p y (M.to F (λq d=>?_) (M.keep9 F λq d=>?_) (M.keepC F λq d h=>?_) (M.keepF F λq d h=>?_) ⟨ss.set u {gd ss u with y7:=(gd ss u).y7.set m v},by grind,by simp_all,a7e k ⟨by simpa using g.1,g.2.1,g.2.2.1,g.2.2.2⟩⟩);have:=T.p1 u b q d;grind;have:=T.p1 u b q d;omega;have j:=T.p1 u b q h;grind [SK.pc];have j:=T.p1 u b q h;have w:=(C.pf q d).1;omega
theorem bfj(M:SM x v6 v7 v9 v14 v15 c ch S fl cc fu ta f u s e i)(C:SK ch cc fu v15 u s){o:Int}{l:List Int}{t b:Bool}(E:Tn l)(v:aF (L (gd s.ay u).J6) o)(w:∀y,SM y v6 v7 v9 v14 v15 c ch S fl cc fu ta f u s e i->KS y):rV (cz 1 x (f u).2<|iv o) λp=>sV (aK 1 x p<|.l (l.map ci) t b) KS:=by obtain⟨ss,k,T,r⟩:=M.tt;have d:u<L ss:=(by rw[k];exact C.hu);obtain⟨m,rfl⟩:∃m:Nat,o=m:=⟨o.toNat,by have:=v.1;omega⟩;have h:=r u d;refine bfE T d (dA _) (by rw[h.2.1];have:=v.2;omega) (by decide) λy B F=>w y (M.to F (λq g=>?_) (M.keep9 F λq g=>?_) (M.keepC F λq g j=>?_) (M.keepF F λq g j=>?_) ⟨ss.set u {gd ss u with J6:=(gd ss u).J6.set m l},by grind,by simp_all,a7e r ⟨h.1,by simpa using h.2.1,λz A=>(CC A).elim (h.2.2.1 z) (by simp_all),h.2.2.2⟩⟩);have:=T.p2 u d q g;grind;have:=T.p2 u d q g;simp_all;have k:=T.p2 u d q j;grind [SK.pc];have k:=T.p2 u d q j;have D:=(C.pf q g).1;simp_all
end
section
variable{x:ae}{v6 v7 v9 v14 v15:Nat}{c:aBY}{ch:BF}{S:aW}{fl:Bool×Bool×Bool×Bool×Bool×Bool}{cc fu ta:AV}{f:Nat->AV×AV}{u:Nat}{s:atC}{e:aP}{i:aNZ}{Qq:j4}
structure SB(c:aBY)(s:atC)(u:Nat):Prop where
 hu:u<L c.ay
 rg:(gd c.ay u).y7<=1000
 il:L (gd c.ay u).bid<1000000
 ev:0<=(gd s.ay u).ac/\(gd s.ay u).ac<=900
 rl:L (gd s.ay u).y7<=1000
 tl:L (gd s.ay u).J6<=1000
def aSl(Qq:j4)(S:aW)(s:atC)(e:aP)(u:Nat):Prop:=∀(cells d:List Int) (ss:List aNQ) (v:Int) (b:aNQ),L cells=L s.cells->L d=L s.bU->L ss=L s.ay->(∀k,k<L ss->aQc (gd ss k) (gd s.ay k))->((∀l∈b.J6,Tn l)/\L b.y7<=1000/\L b.J6<=1000/\0<=b.ac/\b.ac<=(gd s.ay u).ac+1)->Qq (.t [.a<|atC.c ⟨S,cells,d,ss.set u b⟩, .a ({e with value:=v}:aP).c,bv U])
end
section
variable{x:ae}{v6 v7 v9 v14 v15:Nat}{c:aBY}{ch:BF}{S:aW}{fl:Bool×Bool×Bool×Bool×Bool×Bool}{cc fu ta:AV}{f:Nat->AV×AV}{u:Nat}{s:atC}{e:aP}{i:aNZ}{Qq:j4}
def aOf{v:Int}:({e with value:=v}:aP).c=[iv e.aq,iv e.kind,iv e.f8,iv v,iv e.site,sl ci e.dI,sl ci e.ep]:=rfl
end
def aQG.b{s s':aNQ}(h:aQG s s'){k:Nat}(d:0<=s.ac/\s.ac<=k):ThB k s':=⟨h.2.1,h.2.2.1,h.1,by rcases h.2.2.2 with e|e<;>omega,by rcases h.2.2.2 with e|e<;>omega⟩
def aXt(c:aBY)(s:atC)(ch:BF)(hp:aPU c/\aOc c/\∃k,k<=900/\StB k s):Ct 187 [.a c.c, .a s.c, .a ch.c] (λr=>∃(s':atC) (e:aP) (ok:Bool),r= .t [.a s'.c, .a e.c,bv ok]/\(ok=U->EvL e/\∀k,k<=900->StB k s->StB (k+1) s')):=by
 obtain⟨hc,hb,K,hK,hs⟩:=hp
 have eg:=aP4 hc.1
 generalize hQ:(λ(r:AV)=>∃(s':atC) (e:aP) (ok:Bool),r= .t [.a s'.c, .a e.c,bv ok]/\(ok=U->EvL e/\∀k,k<=900->StB k s->StB (k+1) s'))=Qq
 refine aDq (bhk rfl rfl rfl λs6 W b1 b2 b3 h0=>?_)
 simp only[aVk,qy 8]
 refine ic W λv6 s7 F7 N7 b6=>?_
 refine ic (F7.len.trans W) λv7 s8 F8 N8 b7=>?_
 have a6:Fx s6 s8 []:=F7.trans F8
 have P:PB s8 v6 v7 c ch:=⟨a6.len.trans W,a6.kq b1,a6.kq b3,F8.kq b6,b7⟩
 have c2:=a6.kq b2
 have G:∀{x:List AV} {y:AV},aN J (y::x)=V y:=λ{x y}=>by cases y<;>rfl
 have hz:bM aOO anY []=V (.a aOO):=rfl
 have cj:bM bnk aOG []=V (.a bnk):=rfl
 have bp:∀{x:ae},PB x v6 v7 c ch->sV (aK 7 x (.p (6,v6) 0 0)<|.a aOO) λy=>sV (aK 7 y (.p (7,v7) 0 0)<|.a bnk) λz=>rV (vp (V 7) z<|.p (6,v6) 0 0) λa=>rV (vp (V 7) z<|.p (7,v7) 0 0) λb=>aE (λr=>Qq<|bm1 r) z [a,b,bv I]:=λ{x} P=>by
  refine stW P.b6 rfl rfl λy F b=>?_
  refine stW (F.kq P.b7) rfl rfl λz F2 b2=>?_
  rw[aEa (F2.kq b) rfl]
  simp only[aY]
  rw[aEa b2 rfl]
  refine aOH (vs':=[.a<|atC.c ⟨⟨[],0,[],[]⟩,[],[],[]⟩, .a<|aP.c ⟨0,0,0,0,0,[],[]⟩,bv I]) rfl rfl ?_
  rw[<-hQ];exact⟨_,_,_,rfl,by simp⟩
 simp only[qz 10,qy 12,u0,u1,P.b1,P.b3,c2,BF.c,pz,G,aj,ar,Fa,aWn]
 refine⟨⟨hc,hb,K,hs⟩,?_⟩
 rintro r ⟨e,ok,rfl,b5,dr⟩
 refine⟨by simp[lo,nA,eB,iR,aBY.c,J9.c,atC.c,aW.c,sl],?_⟩
 simp only[oJ,pG,aY]
 refine anu P.hl λv9 s9 F9 N9 D=>?_
 have P9:=P.fx F9 (by simp)
 have bW:=F9.kq c2
 cases ok with
 |false=>
  simp only[qz 14,qy 16,u0,u1,↓iC,hz,cj]
  exact bp P9
 |true=>
 obtain⟨dp,ca,bd⟩:=dr rfl
 have Z:=hs.sy
 simp only[qz 14,qy 20,u0,u1,P9.b1,P9.b3,bW,D,BF.c,rk,pz,G,aj,ar,aWn,↓iB]
 refine⟨⟨by omega,λl W=>by have:=Z.rd l W;omega,by have:=Z.lo;omega,by have:=Z.dn;omega,by have:=Z.th;omega⟩,?_⟩
 rintro r ⟨fl,rfl⟩
 rcases bY:jm c.aQ s.gp ch.aq e.kind e.f8 with _|_
 ·refine⟨by simp[lo,nA,eB,iR,J9.c,aW.c,sl],?_⟩
  simp only[bkl,oJ,pG,KM,aY]
  refine anu P9.hl λdG dy aD cW bR=>?_
  simp only[qz 22,qy 24,u0,u1,↓iC,hz,cj]
  exact bp (P9.fx aD<|by simp)
 refine⟨by simp[lo,nA,eB,iR,J9.c,aW.c,sl],?_⟩
 simp only[bie,oJ,pG,KM,aY]
 obtain⟨dO,f1,f2,f3,f4,f5⟩:=dp
 simp only[jm,bN] at bY
 obtain⟨_,ei,ce,_⟩:=bY
 obtain⟨u,R⟩:∃u:Nat,ch.aq=u:=⟨ch.aq.toNat,by have:=ca.1;omega⟩
 have aL:u<L c.ay:=by have:=ca.2;omega
 have aM:u<L s.ay:=by omega
 obtain⟨p1,p2,p3⟩:=f5 u aL
 obtain⟨r1,r2,r3⟩:=hc.2.2 _<|asq aL
 have a9:=hs.th _<|asq aM
 generalize hi:aQs c s ch.aq=i at bd
 have b8:gd (gd c.ay u).bid (gd s.ay u).pc.toNat=i:=by grind [aQs]
 have ds:(gd s.ay u).pc.toNat<L (gd c.ay u).bid:=by have:=p1.1;have:=p1.2;omega
 have a5:∀j∈a6z i,aF (L (gd s.ay u).y7) j/\aF (L (gd s.ay u).J6) j:=λj hj=>by
  have:=r3 _ ds j (by rw[b8];exact hj)
  exact⟨⟨this.1,by omega⟩,⟨this.1,by omega⟩⟩
 generalize hS:(cU c.aQ s.gp ch.aq e.kind e.f8 ch.amt).1=S
 generalize(cU c.aQ s.gp ch.aq e.kind e.f8 ch.amt).2=av
 have B:SB c s u:=⟨aL,by omega,hb.2 _<|asq aL,⟨a9.2.2.2.1,by have:=a9.2.2.2.2;omega⟩,a9.1,a9.2.1⟩
 have cH:aSl Qq S s e u:=λcells az ss v t' q1 q2 q3 q4 q5=>by
  rw[<-hQ]
  refine⟨_,_,_,rfl,λ_=>⟨b5,λk hk cf=>?_⟩⟩
  have cI:=cf.th _<|asq aM
  refine⟨by grind [jX.apply,StB.sy],by simp_all,by simp_all,by grind [StB.tl],λt ht=>?_⟩
  rcases CC ht with ht|rfl
  ·obtain⟨j,hj,rfl⟩:=ou ht
   obtain⟨w1,w2,w3,w4,w5⟩:=q4 j hj
   have ba:=cf.th _ (asq (l:=s.ay) (k:=j)<|by omega)
   rw[bT hj] at w1 w2 w3 w4 w5
   exact⟨by rw[w1];exact ba.1,by rw[w2];exact ba.2.1,w3,by rw[w5];exact ba.2.2.2.1,by rw[w5];have:=ba.2.2.2.2;omega⟩
  ·exact⟨q5.2.1,q5.2.2.1,q5.1,q5.2.2.2.1,by have:=cI.2.2.2.2;omega⟩
 refine anu P9.hl λdG dy aD cW bR=>?_
 have bO:=P9.fx aD (by simp)
 have bo:=aD.kq bW
 have ct:=aD.kq D
 have dx:aN (V 7) s.c=V (.a s.c):=rfl
 simp only[qz 22,u0,u1,bo,dx,J3,↓iB]
 refine jH rfl (bds bO.hl ⟨by have:=Z.lo;omega,by have:=Z.dn;omega,by have:=Z.th;omega,λl W=>by have:=Z.rd l W;omega⟩ (by omega) (by omega) (by have:=hs.tl;omega) λt ht=>⟨(hs.th t ht).1,(hs.th t ht).2.1,λz hz=>((hs.th t ht).2.2.1 z hz).len⟩) ?_
 rintro r el ⟨a1,a2,a3,cc,fu,ta,f,rfl,_,gc,gf,T,iq,ek,dv,na⟩
 refine⟨iq.len,?_⟩
 have cY:=bO.kx iq (by simp)
 have cz:=iq.kq bo
 have cu:=iq.kq ct
 have bt:=iq.kq bR
 simp only[qz 28]
 refine stW cz rfl rfl λem N bS=>?_
 have cv:=N.kq cu
 have bu:=N.kq bt
 have cZ:=cY.fx N (by simp)
 have n4:∀{q:Id},q.1≠4->q∉[((4,1):Id)]:=(by grind)
 have cA:=gc.fx N (by grind)
 have cD:=gf.fx N (by grind)
 have c1:=T.fx N (by simp)
 have es:aN (V 4) (eD S fl)=V (.a<|eD S fl):=rfl
 simp only[qz 30,u0,u1,bu,bS,es,J3,aj]
 refine cy (y:=4) (cs:=eD S fl) bS rfl rfl (by simp) λdz aG H=>?_
 have bl:box dz (4,1)=V ⟨124,7,U,U,[eD S fl++[cc,fu,ta]]⟩:=H
 have cw:=aG.kq cv
 have bk:=cZ.fx aG (by simp)
 have cB:=cA.fx aG (by grind)
 have cF:=cD.fx aG (by grind)
 have bQ:=c1.fx aG (by simp)
 have e4:eD S fl++[cc,fu,ta]=[.l (S.ak.map cg.c) fl.1 fl.2.1,iv S.tx, .l (S.done.map cb) fl.2.2.1 fl.2.2.2.1, .l (S.ay.map aoC.c) fl.2.2.2.2.1 fl.2.2.2.2.2,cc,fu,ta]:=rfl
 have bV:=bl
 rw[e4] at bV
 simp only[qz 32,qy 34,u0,u1,bV,bk.b3,BF.c,R,G,nM,J3,aj]
 refine bQ.ix aM λb eh hb=>?_
 simp only[be4 hb aM,aY]
 refine anu bk.hl λv14 dB ao ef O=>?_
 have a7:=bk.fx ao (by simp)
 have cp:=ao.kq bl
 have cx:=ao.kq cw
 have cC:=cB.fx ao (by simp)
 have bq:=cF.fx ao (by simp)
 have c3:=bQ.fx ao (by simp)
 have ri:aN (V 6) i.c=V (.a i.c):=rfl
 have ej:∀{j:Nat},(j:Int).toNat=j:=(by omega)
 simp only[qz 36,qy 38,u0,u1,a7.b1,a7.b3,O,BF.c,R,rk,pz,G,aj,ixv,bh,b8,ri]
 refine⟨dJ aL,p1,ic a7.hl λv15 d8 cm bL co=>?_⟩
 refine stW co rfl rfl λck cn c4=>?_
 have ab:Fx dB ck []:=(cm.trans cn).mono λq A=>by simp at A;subst A;exact .inr bL.no
 have c0:=a7.fx ab (by simp)
 simp only[qz 40]
 refine dT (by simp[eL,lb,m8,dC,dK,sl,aTo.c]) ?_
 have bn:=ab.kq cx
 have a8:=ab.kq O
 have ec:e.c=[iv e.aq,iv e.kind,iv e.f8,iv e.value,iv e.site,sl ci e.dI,sl ci e.ep]:=rfl
 have M:SM ck v6 v7 v9 v14 v15 c ch S fl cc fu ta f u s e i:=⟨c0,ab.kq cp,⟨e.value,bn⟩,a8,c4,⟨s.cells,rfl,cC.fx ab<|by simp⟩,⟨s.bU,rfl,bq.fx ab<|by simp⟩,⟨s.ay,rfl,c3.fx ab (by simp),λk hk=>⟨rfl,rfl,(hs.th _<|asq hk).2.2.1,rfl,rfl⟩⟩⟩
 have C:SK ch cc fu v15 u s:=⟨(by grind),λq A=>⟨(dv q A).1,λeq=>?_⟩,aM,R⟩
 ·simp only[u0,u1,a8,bn,G,J3,aj]
  refine aX3 M C λx M=>?_
  have hA:e.kind=3\/e.kind=23->aF (L (gd s.ay u).y7) i.a/\aF (L (gd s.ay u).J6) i.a:=λh=>a5 _<|bd.1 h
  have hB:e.kind=4\/e.kind=22->aF (L (gd s.ay u).y7) i.b:=λh=>(a5 _<|bd.2.1 h).1
  have hC:e.kind=5->aF (L (gd s.ay u).y7) i.a:=λh=>(a5 _<|bd.2.2 h).1
  have hO:e.kind=3\/e.kind=4->aF (L s.cells) e.f8:=λh=>by rw[f2];exact qP ce (by omega) (by omega)
  have hF:e.kind=22\/e.kind=23->aF (L s.bU) e.f8:=λh=>by rw[f3];exact oU ce (by omega) (by omega)
  simp only[qz 42]
  refine bpD (λo=>∀{x:ae} {nx:Int},SM x v6 v7 v9 v14 v15 c ch S fl cc fu ta f u s e i->o [iv nx] x) (λ{x nx} M=>?_) λo j=>?_
  ·obtain⟨v,D⟩:=M.b9
   simp only[qz 93,aI]
   refine bpD (λo=>∀{x:ae},SM x v6 v7 v9 v14 v15 c ch S fl cc fu ta f u s e i->o [] x) (λ{x} M=>?_) λed j=>?_
   ·have hw:dq.wrap ((gd s.ay u).ac+1)=(gd s.ay u).ac+1:=eM (by have:=B.ev;omega) (by have:=B.ev;omega)
    simp only[qz 183,aI,u0,u1,M.b14,G,nM,J3,aj,hw]
    refine A0 M.b14 rfl (by simp) λx1 F1 b1=>?_
    simp only[List.set_cons_succ,RY] at b1
    simp only[qz 66,au,u0,u1,b1,aj]
    refine A0 b1 rfl (by simp) λx2 F2 b2=>?_
    simp only[RY] at b2
    have F:Fx x x2 [(14,v14)]:=(F1.trans F2).mono λq A=> .inl (by simpa using A)
    have P:=M.P.fx F (by simp)
    have X:=F.kq M.b4
    obtain⟨v,D⟩:=M.keep9 F (by simp)
    obtain⟨cells,dk,gc⟩:=M.keepC F λq A g=>by have:=C.pc q A;simp at g;subst g;simp at this
    obtain⟨az,dm,gf⟩:=M.keepF F λq A g=>by have:=(C.pf q A).1;simp at g;subst g;simp at this
    obtain⟨ss,h1,T,h3⟩:=M.keepT F (by simp)
    have R:u<L ss:=by rw[h1];exact C.hu
    have S3:=h3 u R
    simp only[qz 68]
    refine bpD (λo=>∀{x:ae} {r:List AV} {t':aNQ},PB x v6 v7 c ch->box x (4,1)=V ⟨124,7,U,U,[eD S fl++[cc,fu,ta]]⟩->box x (9,v9)=V ⟨62,7,U,U,[({e with value:=v}:aP).c]⟩->box x (14,v14)=V ⟨251,4,U,U,[r]⟩->qc x 2 1 cc (cells.map ci)->qc x 2 1 fu (az.map ci)->TTs (12,31,33) I x ta f ss (L ss)->(r=t'.c\/∃pc ev,r=[iv pc,(f u).1,(f u).2,iv ev]/\t'=⟨pc,(gd ss u).y7,(gd ss u).J6,ev⟩)->((∀l∈t'.J6,Tn l)/\L t'.y7<=1000/\L t'.J6<=1000/\0<=t'.ac/\t'.ac<=(gd s.ay u).ac+1)->o [] x) (λ{x r t'} P X D H gc gf T hr ht=>?_) λee o=>?_
    ·have k4:∀{a b c d:AV},aN (V 4) [a,b,c,d]=V (.a [a,b,c,d]):=rfl
     have br:=C.hch
     have bb:=C.pc
     have bc:=λq A=>(C.pf q A).1
     have du:∃y0 y1 y2 y3,r=[y0,y1,y2,y3]:=by
      rcases hr with rfl|⟨_,_,rfl,_⟩<;>exact⟨_,_,_,_,rfl⟩
     obtain⟨y0,y1,y2,y3,rfl⟩:=du
     have dl:eY (.a [y0,y1,y2,y3])=V [y0,y1,y2,y3]:=rfl
     simp only[qz 213,aI,u0,u1,X,P.b3,H,eD,zn,dW,BF.c,G,k4,nM,J3,aj,br]
     refine T.ix R λb ha hb=>?_
     subst ha
     have pb:b.1=33:=by rcases T.bx with⟨h,_⟩|⟨b',h,h2,_⟩;omega;simp only[AV.m.injEq] at h;rw[h.1];exact h2
     refine Bp hb (aTy R) dl rfl (by simp) λs1 F1 b1=>?_
     have n1:∀{q:Id},q.1≠33->q∉[b]:=λh e=>h<|idb e pb
     have P1:=P.fx F1 (λq A=>by have:=idb A pb;omega)
     have af:=F1.keep _ _ (n1<|by simp) X
     have ag:=F1.keep _ _ (n1<|by simp) D
     have da:=gc.fx F1 λq A=>n1 (by rw[bb q A];decide)
     have db:=gf.fx F1 λq A=>n1 (by rw[bc q A];decide)
     have e1:aN (V 7) (eD S fl++[cc,fu, .m b<|L ss])=V (.a<|eD S fl++[cc,fu, .m b<|L ss]):=rfl
     have e2:aN (V 7) ({e with value:=v}:aP).c=V (.a ({e with value:=v}:aP).c):=rfl
     simp only[qz 74,qy 76,u0,u1,af,ag,J3,e1,e2]
     refine stW P1.b6 rfl rfl λs2 F2 b2=>?_
     have c6:=F2.kq P1.b7
     refine stW c6 rfl rfl λs3 F3 b3=>?_
     simp only[qz 78]
     have cd:9∉m8 (.a<|eD S fl++[cc,fu, .m b<|L ss]):=λh=>by
      have e:m8 (.a<|eD S fl++[cc,fu, .m b<|L ss])=dK cc++(dK fu++[b.1]):=by simp[m8,dC,eD,dK]
      rw[e] at h
      simp only[dF,cE] at h
      rcases h with h|h|h
      ·obtain⟨q,A,h⟩:=aQu gc h;have:=bb q A;omega
      ·obtain⟨q,A,h⟩:=aQu gf h;have:=bc q A;omega
      ·omega
     refine dT ?_ ?_
     ·generalize AV.a (eD S fl++[cc,fu, .m b<|L ss])=b0 at cd⊢
      simp[eL,lb,aTn,cd]
     have bm:=F3.kq b2
     simp only[u0,u1,b3,bm,J3,e1,e2]
     have N:Fx s1 s3 [(6,v6),(7,v7)]:=F2.trans F3
     have aO:∀{q:Id},q.1≠6->q.1≠7->q∉[((6,v6):Id),(7,v7)]:=λh h' e=>by simp at e;rcases e with rfl|rfl;exact h rfl;exact h' rfl
     have hT:fz s3 (.m b<|L ss)=sl aNQ.c (ss.set u t'):=by
      have g1:∀k,k<L ss->frN s3 (f k).1=sl ci (gd ss k).y7/\frN s3 (f k).2=sl cl (gd ss k).J6:=λk hk=>
       ⟨aWh<|((T.g1 k hk).fx F1 λq A=>n1<|by rw[T.p1 k hk q A];decide).fx N λq A=>aO (by rw[T.p1 k hk q A];decide)<|by rw[T.p1 k hk q A];decide,(((T.g2 k hk).fx F1 λq A=>n1<|by rw[T.p2 k hk q A];decide).fx N λq A=>aO (by rw[T.p2 k hk q A];decide)<|by rw[T.p2 k hk q A];decide).fr⟩
      refine bfC T R (N.keep _ _ (aO (by rw[pb];decide)<|by rw[pb];decide) b1) ?_ g1
      simp only[List.take_zero,dW,nM,List.drop_nil,cL]
      rcases hr with h|⟨pc,ev,h,rfl⟩
      ·rw[h];rfl
      ·rw[h]
       simp only[ji,mU,(g1 u R).1,(g1 u R).2]
       rfl
     have x4:=aBr (da.fx N λq A=>aO (by rw[bb q A];decide)<|by rw[bb q A];decide)
     have x5:=aBr (db.fx N λq A=>aO (by rw[bc q A];decide)<|by rw[bc q A];decide)
     refine aOH (vs':=[.a<|atC.c ⟨S,cells,az,ss.set u t'⟩, .a ({e with value:=v}:aP).c,bv U]) ?_ (by simp[iX,atC.c,aP.c,aW.c,eN,sl])<|cH cells az ss v t' dk dm h1 h3 ht
     simp only[ji,mU,fzT,eD,x4,x5,hT,bcz,aWt,zn,dW]
     rfl
    have b5:=B.ev
    have bX:=o P X D b2 gc gf T (.inr ⟨nx,_,rfl,rfl⟩) ⟨S3.2.2.1,by rw[S3.1];exact B.rl,by rw[S3.2.1];exact B.tl,by simp only;omega,by simp only;omega⟩
    have hb:=B.hu
    have k4:∀{a b c d:AV},aN (V 4) [a,b,c,d]=V (.a [a,b,c,d]):=rfl
    have ke:({e with value:=v}:aP).c=[iv e.aq,iv e.kind,iv e.f8,iv v,iv e.site,sl ci e.dI,sl ci e.ep]:=rfl
    have kc:aN (V 2) (gd c.ay u).c=V (.a (gd c.ay u).c):=rfl
    rcases q1:Q (e.kind≠16) with _|_
    ·simp only[qz 215,u0,u1,D,ke,G,nM,J3,aj,q1,↓jN,a7c,↓iB]
     exact bX
    ·rcases q2:Q (e.kind≠2) with _|_
     ·simp only[qz 215,u0,u1,D,ke,G,nM,J3,aj,q1,q2,↓jA,↓iB]
      exact bX
     ·simp only[qz 215,u0,u1,D,ke,P.b1,P.b3,b2,BF.c,C.hch,rk,pz,G,k4,kc,aj,ixv,bh,q1,q2,↓jA,↓iC]
      refine⟨dJ hb,?_⟩
      refine baY (s:=⟨nx,(gd ss u).y7,(gd ss u).J6,(gd s.ay u).ac+1⟩) P.hl (.of (T.g1 u R)) (.of (e:=38)<|T.g2 u R) (λq A=>by have:=T.p1 u R q A;simp at this;omega) B.rg B.il (by have:=B.rl;simp only;have:=S3.1;omega) (by have:=B.tl;simp only;have:=S3.2.1;omega) S3.2.2.1 λok s' x3 h' F3=>?_
      have bm:=F3.kq b2
      simp only[qz 70,oJ,pG,aY]
      refine stW bm rfl rfl λx4 F4 c5=>?_
      simp only[qz 72]
      refine dT (by simp[eL,lb,m8,dC,dK,aNQ.c,sl]) ?_
      have ap:Fx x2 x4 [(14,v14)]:=(F3.trans F4).mono λq A=> .inl (by simpa using A)
      refine o (P.fx ap<|by simp) (ap.kq X) (ap.kq D) c5 (gc.fx ap λq A g=>?_) (gf.fx ap λq A g=>?_) (T.fx ap<|by simp) (.inl rfl) ⟨h'.1,h'.2.1,h'.2.2.1,?_,?_⟩
      ·have:=C.pc q A;simp at g;subst g;simp at this
      ·have:=(C.pf q A).1;simp at g;subst g;simp at this
      ·rcases h'.2.2.2 with e|e<;>(try simp only at e)<;>omega
      ·rcases h'.2.2.2 with e|e<;>(try simp only at e)<;>omega
   rcases q1:Q (e.kind=3) with _|_<;>rcases q2:Q (e.kind=23) with _|_<;>simp only[qz 185,u0,u1,D,aOf,M.b14,M.b15,pz,G,aj,q1,q2,↓jA,↓jN,aUw,↓iC,↓iB,wY]
   ·exact j M
   all_goals
    obtain⟨h1,h2⟩:=hA (by simp only[yp,aNK] at q1 q2;omega)
    refine bfi M C h1 λ_ y E=>?_
    have hb:aX bH 1 y [(0,iv (gd s.ay u).ac)]=V (.l ([(gd s.ay u).ac].map ci) U U,y):=iz
    simp only[qz 60,u0,u1,E.b14,E.b15,pz,G,aj,hb,qz 62,qy 64]
    exact bfj E C (Tn.one ⟨B.ev.1,by have:=B.ev.2;omega⟩) h2 λz M2=>j M2
  obtain⟨v,D⟩:=M.b9
  have X:=M.b4
  rw[e4] at X
  have H:=M.b14
  have O:=M.b15
  have val:∀{w:Int} {K:ae->Prop},(∀y,SM y v6 v7 v9 v14 v15 c ch S fl cc fu ta f u s e i->K y)->sV (aK 1 x (.p (9,v9) 0 3)<|iv w) K:=λh=>aX3 M C h
  simp only[qz 95,u0,u1,D,aOf,pz,G,aj]
  refine bsp (λo=>o [bv U]/\o [bv I]) ⟨?_,?_⟩ λeb h=>by
   rcases q1:Q (e.kind=1) with _|_<;>rcases q2:Q (e.kind=16) with _|_<;>rcases q3:Q (e.kind=2) with _|_<;>simp only[qz 107,u0,u1,q1,q2,q3,↓iC,↓iB]
   all_goals first|exact h.2|exact h.1
  ·simp only[qz 105,qy 44,qy 46,au,aI]
   simp only[u0,u1,H,pz,G,aj,↓iC]
   exact j M
  simp only[qz 105,qy 44,qy 46,au,aI,↓iB]
  rcases q4:Q (e.kind=3) with _|_
  rotate_left
  ·simp only[u0,u1,D,aOf,X,pz,G,aj,↓iC,q4]
   exact bfe M (hO<|.inl<|aNR q4) λw=>val λy E=>j E
  rcases q5:Q (e.kind=23) with _|_
  rotate_left
  ·simp only[u0,u1,D,aOf,X,pz,G,aj,↓iC,↓iB,q4,q5]
   exact bff M (hF<|.inr<|aNR q5) λw=>val λy E=>j E
  rcases q6:Q (e.kind=4) with _|_
  rotate_left
  ·simp only[u0,u1,D,aOf,H,O,pz,G,aj,↓iC,↓iB,q4,q5,q6]
   refine aX2 M C (hB<|.inl<|aNR q6) λw=>val λy E=>?_
   obtain⟨v1,ag⟩:=E.b9
   have af:=E.b4
   rw[e4] at af
   simp only[qz 48,qy 50,u0,u1,ag,aOf,af,G,nM,J3,aj]
   exact bfg E C (hO<|.inr<|aNR q6) λ_ y M2=>j M2
  rcases q7:Q (e.kind=22) with _|_
  rotate_left
  ·simp only[u0,u1,D,aOf,H,O,pz,G,aj,↓iC,↓iB,q4,q5,q6,q7]
   refine aX2 M C (hB<|.inr<|aNR q7) λw=>val λy E=>?_
   obtain⟨v1,ag⟩:=E.b9
   have af:=E.b4
   rw[e4] at af
   simp only[qz 52,qy 54,u0,u1,ag,aOf,af,G,nM,J3,aj]
   exact bfh E C (hF<|.inl<|aNR q7) λ_ y M2=>j M2
  rcases q8:Q (e.kind=5) with _|_
  ·simp only[u0,u1,↓iB,q4,q5,q6,q7,q8]
   exact j M
  simp only[u0,u1,D,aOf,aj,↓iC,↓iB,q4,q5,q6,q7,q8]
  refine val λy E=>?_
  obtain⟨v1,ag⟩:=E.b9
  simp only[qz 56,u0,u1,E.b14,E.b15,pz,G,aj]
  refine aX2 E C (hC<|aNR q8) λw=>?_
  simp only[u0,u1,ag]
  refine⟨λ_=>aX3 E C λz M2=>?_,λ_=>j E⟩
  simp only[qz 58,u0,u1,M2.b15,pz,aj]
  exact j M2
 ·obtain⟨x,hx⟩:=aTi bq q A
  subst eq
  exact bL.no x hx
def aUk:FT:=vn aXt
def bcb{c s ch Lw K}:=f311 aUk aXt c s ch Lw K (j:=by simp+contextual only[ij,ijv])
def a7H:dO:=(187,aUk)::aYe
def a7q:eJ a7H:=ve (By aXt)<|a7p
def a6s:=ai @bcb<|@aWn
section
attribute[local irreducible] aX
def a9N:=lA 11 [(3,([2,10],[3,4,5,9])),(6,([2],[3,4,5,9,10]))]
def aVp a b c d e R:=(.mk _:NS a7H a9N Tryz.f120 [.u, .u,c,d] [a,b] e R).p
def bhm{c0:List AV}{b:List AV}{c d:AV}{s0:ae}{R:be}(hs:L s0=4096)(l0:L c0=7)(l1:L b=7)(h:HB2 129 7 4 c0 124 7 5 b s0 λf g e=>aVp f g c d e R):EB 120 [.a c0, .a b,c,d] s0 R:=zB2 a9N a7q Tryz.func120 hs l0 l1 h
end
def bcu{Y:ae}{a:AV}{cs c:List AV}{bA:List (List AV)}{e:TypeId}{z:Nat}(g:qc Y e z a bA)(h:cs.map (lz Y)=c):aOo Y (.t [a, .a cs])= .t [.l bA I I, .a c]:=by have f:nrm (eR Y a)= .l bA I I:=(by rw[<-aOb g];rcases g with⟨_,rfl⟩|⟨b,m,rfl,d⟩;rfl;simp[eR,gi,d,nrm,lz]);have i:nrm (eR Y<|.a cs)= .a (cs.map<|lz Y):=(by simp only[eR,nrm,vA];rfl);grind [aOo]
def bdt{Y:ae}{c:aBY}{s:atC}{f:List BF}(Z:L Y=4096)(hc:aPU c)(hb:aOc c)(hs:StB 0 s)(hn:L f<=100):∃r Y1,((∃(l:List aP) (s':atC),r= .t [sl aP.c l, .a s'.c]/\L l<=100/\∀e∈l,EvL e)/\Fx Y Y1 [])/\cZ aS GG 120 [.a c.c, .a s.c, .l [] U U,sl BF.c f] Y r Y1:=by generalize hQ:(λ(r:AV) (y:ae)=>(∃(l:List aP) (s':atC),aOo y r= .t [sl aP.c l, .a s'.c]/\L l<=100/\∀e∈l,EvL e)/\Fx Y (kills y<|aNW r) [])=Qq;refine aQR (R:=Qq) ?_ (by grind);refine bhm Z rfl rfl λs4 v4 v5 K4 bl bm bn b4 b5=>?_;have W:Fx Y s4 []:=K4.fx [];simp only[aVp,qy 6];refine ic (W.len.trans Z) λv9 s6 n N6 b9=>?_;have ah:Fx Y s6 []:=W.trans n;have n9:∀y,box Y (9,v9)≠V y:=(N6.old W).no;have rc:aN (V 7) c.c=V (.a c.c):=rfl;have N:∀{s:atC},aN (V 7) s.c=V (.a s.c):=rfl;have re:∀{s:aP},aN (V 7) s.c=V (.a s.c):=rfl;have aK:∀{s:BF},aN (V 2) s.c=V (.a s.c):=rfl;have az:∀{x:ae} {j:Int} {K:j4},rV (cz 2 x (sl BF.c f)<|iv j) K=(aF (L f) j/\K (.q<|BF.c<|gd f j.toNat)):=aBz λ_=>rfl;refine jD (α:=AV) (λa i=>[a,iv i]) 1 (L f) (λk a x=>Fx Y x []/\box x (4,v4)=V ⟨129,7,U,U,[c.c]⟩/\(∃s',box x (5,v5)=V ⟨124,7,U,U,[s'.c]⟩/\StB k s')/\box x (9,v9)=V ⟨124,7,U,U,[aOO]⟩/\∃l:List aP,L l<=k/\(∀e∈l,EvL e)/\qc x 62 7 a (l.map aP.c)/\∀q∈aA a,q.1=41/\∀y,box Y q≠V y) (s0:= .l [] U U) ⟨ah,n.kq b4,(by grind [Fx.keep]),b9,[],by simp,by simp, .inl ⟨rfl,rfl⟩,by simp[aA]⟩ ?_;rintro k a x hk ⟨F,E,⟨s',H,S⟩,M,l,bk,B,g,pa⟩;have C:=F.len.trans Z;have aC:fS x a=V (iv<|L l):=(by rw[g.ln,bJ]);rcases q1:Q ((k:Int)<(L f:Int)) with _|_;simp only[qz 19,qy 22,aI,au,u0,u1,H,N,q1,↓jN,a7c,↓iB,J3];refine stW M rfl rfl λs7 F7 b7=>?_;simp only[b7,aQd,qh,df,N,aY];have X:=g.fx F7 λq o h=>(by have:=(pa q o).1;simp at h;subst h;simp at this);show Qq (.t [a, .a s'.c]) s7;rw[<-hQ];refine⟨⟨l,s',bcu X rfl,by omega,B⟩,((F.trans F7).trans<|aOp _ _).mono λq o=> .inr ?_⟩;have ei:aNW (.t [a, .a s'.c])=aA a:=(by have:=aQX X;rcases X with⟨_,rfl⟩|⟨b,m,rfl,_⟩<;>simp[aNW,eB,iR,atC.c,aW.c,sl,aA]);grind;have q2:Q (((L l:Nat):Int)<400)=U:=(by grind);simp only[qz 19,qy 22,aI,au,u0,u1,aC,q1,q2,↓jA,aUw,↓iC,J3];have P:k<L f:=(by simp_all);refine bsK (λd=>∀{w:AV} {y:ae} {s3:atC} {l':List aP},Fx Y y []->box y (4,v4)=V ⟨129,7,U,U,[c.c]⟩->box y (5,v5)=V ⟨124,7,U,U,[s3.c]⟩->StB (k+1) s3->box y (9,v9)=V ⟨124,7,U,U,[aOO]⟩->L l'<=k+1->(∀e∈l',EvL e)->qc y 62 7 w (l'.map aP.c)->(∀q∈aA w,q.1=41/\∀z,box Y q≠V z)->d [w] y) ?_ λd j6=>?_;intro w y s3 l' F E H hs M h1 h2 g p;simp only[qz 39,aI,au,u0,u1];exact dR (mk:=λ(a:AV) i=>[a,iv i]) (s:=a) (s':=w) (λ_ _=>rfl) P (by omega) (by grind);simp only[qz 41,u0,u1,E,H,N,rc,az,aK,bh,ar,Fa,a6s,rr,J3];refine⟨dJ P,(by grind),?_⟩;rintro r ⟨s2,e,ok,rfl,aD⟩;refine⟨by simp[lo,nA,eB,iR,aBY.c,J9.c,atC.c,aW.c,BF.c,sl],?_⟩;simp only[oJ,pG,KM,aY];refine ic C λbo x1 F1 N1 b1=>?_;simp only[qz 8];refine ic (F1.len.trans C) λbp x2 F2 N2 b2=>?_;have an:=F2.kq b1;simp only[qz 10];refine stW an rfl rfl λx3 F3 b3=>?_;have ao:=F3.kq b2;simp only[qz 12];refine stW ao rfl rfl λx4 O aq=>?_;have ap:=O.kq b3;have G:Fx x x4 []:=(((F1.trans F2).trans F3).trans O).mono (by grind [ig.no,ig.old]);simp only[qz 14];refine dT (by simp[ck,eL,lb,Qh,m8,dC,dK,sl,BF.c,atC.c,aW.c,aP.c,aBY.c,J9.c]) ?_;have T:=G.kq H;have g4:=g.fx G (by simp);have aB:=G.len.trans C;have aL:StB k s'->StB (k+1) s':=λh=>⟨h.sy.mono (by omega),h.ce,h.fu,h.tl,λt ht=>by obtain⟨w1,w2,w3,w4,w5⟩:=h.th t ht;exact⟨w1,w2,w3,w4,by omega⟩⟩;cases ok with|false=>simp only[↓iB];exact j6 (F.trans G) (G.kq E) T (aL S) (G.kq M) (by omega) B g4 pa|true=>obtain⟨he,aE⟩:=aD rfl;simp only[↓iC,u0,u1,ap,N,J3];refine stW T rfl rfl λx5 v aw=>?_;have av:=v.kq aq;have g5:=g4.fx v λq o h=>(by have:=(pa q o).1;simp at h;subst h;simp at this);have ay:aX btV 1 x5 [(0, .a e.c)]=V (.l ([e].map aP.c) U U,x5):=ua rfl rfl rfl (by decide) (by simp[aP.c,eN,sl]) (by decide);have u:∀{l:List aP},∀r∈l.map aP.c,L r=7:=qW (by intro _;rfl);simp only[qz 16,qy 18,qy 20,u0,u1,av,re,ay,J3];refine apQ g5 (v.len.trans aB) u u (by simp) (by simp;omega) λw x6 g6 n P6=>?_;have D:∀{q:Id},q.1≠41->q∉aA a:=(by grind);have A:Fx Y x5 []:=((F.trans G).trans v).mono (by grind);refine j6 (l':=l++[e]) ((A.trans n).mono<|by grind) (n.keep _ _ (D<|by simp)<|v.kq<|G.kq E) (n.keep _ _ (D<|by simp) aw) (aE k (by omega) S) (n.keep _ _ (D<|by simp)<|v.kq<|G.kq M) (by simp;omega) (λy hy=>?_) (by grind [bc.p]) λq o=>⟨(P6 q o).2,((P6 q o).1.old A).no⟩;rcases dF.1 hy with h|h;exact B y h;grind
def aYf:dO:=a7H
def a7r:eJ aYf:=a7q
def a6t:=@a6s
section
attribute[local irreducible] aX
def aVj a a1 b R:=(.mk _:NF<|zF GGV aYf asK Tryz.f58 [.u,a1] [a] b<|I3 Tryz.f58 R).p
def bhi{c0:List AV}{a1:AV}{R:j4}(l0:L c0=7)(h:∀b:ae,L b=4096->box b (2,1)=V ⟨129,7,U,U,[c0]⟩->(∀k,k≠2->aZ b k=mO)->aVj (.p (2,1) 0 0) a1 b R):Fn aS GG 58 [.a c0,a1] R:=by refine fnV (uq ready (aQ9 a7r) Tryz.func58 (an:=asK) (by kernel_rfl)<|Eq.mpr (show ZF aS GGV aYf asK Tryz.f58 [.a c0,a1] R=(eV (bxA 129 7 (ly Tryz.f58) 2<|.a c0) λc b=>aVj c a1 b R) by kernel_rfl) ?_);refine mY (N:=4096) rfl l0 (by decide) (by decide) uB (by rw[i8]) λb f d g g0=>?_;exact h b f d (λk e=>by rw[g0 k e];exact i8 _ k)
end
theorem Kx.fx0{Y Y':ae}(k:Kx [] Y Y'){b:Id}{x:bY}(h:box Y b=V x):box Y' b=V x:=k.keep b x (by simp) h
def baV{Y:ae}{c:aBY}{s:atC}{f:List BF}{d:Nat}{K:be}(u:L Y=4096)(q:aPU c)(o:aOc c)(hs:StB 0 s)(w:L f<=100)(n:∀(l:List aP) (s':atC) g,L l<=100->(∀e∈l,EvL e)->Kx [] Y g->K (.t [sl aP.c l, .a s'.c]) g):cV 120 [.a c.c, .a s.c, .l [] U U,sl BF.c f] Y d K:=by refine aQN rfl rfl [] (λx j=>?_) (by intro p h;simp at h) (bdt (aOr.trans u) q o hs w) ?_;simp only[eW,ql,bjz] at j;rcases j with rfl|rfl|rfl|rfl;intro y b;simp only[aBY.c,J9.c,dF,eW,ql,bjz,or_assoc] at b;rcases b with rfl|rfl|rfl|rfl|rfl|rfl|rfl<;>exact .inl (by simp[eN]);intro y b;simp only[atC.c,aW.c,dF,eW,ql,bjz,or_assoc] at b;(rcases b with rfl|rfl|rfl|rfl|rfl|rfl|rfl<;>first|trivial|exact .inl (by simp[eN]));exact .inr rfl;exact .inl (by simp[eN]);rintro r g ⟨⟨l,s',rfl,k,m⟩,F⟩;refine⟨F.len.trans aOr,[],(by intro p h;simp at h),?_,n l s' _ k m Kx.mix⟩;intro v i;simp only[eW,ql,bjz] at i;rcases i with rfl|rfl;exact .inl (by simp[eN]);intro y b;simp only[atC.c,aW.c,dF,eW,ql,bjz,or_assoc] at b;rcases b with rfl|rfl|rfl|rfl|rfl|rfl|rfl<;>first|trivial|exact .inl (by simp[eN])
def aXr(c:aBY)(f:List BF)(hp:aOc c/\L f<=100):Ct 58 [.a c.c,sl BF.c f] (λr=>∃(t:aOx) (s:atC),r= .t [.a t.c, .a s.c]/\L t.ac<=100/\∀e∈t.ac,EvL e):=by obtain⟨m,hn⟩:=hp;generalize F:(λ(r:AV)=>∃(t:aOx) (s:atC),r= .t [.a t.c, .a s.c]/\L t.ac<=100/\∀e∈t.ac,EvL e)=Qq;refine aDq (bhi rfl λs2 n S h0=>?_);simp only[aVj,qy 4];refine ic n λv4 s4 w N4 T=>?_;refine ic (w.len.trans n) λv5 p x N6 C=>?_;have d:=x.kq T;have b:Fx s2 p []:=w.trans x;have E:=b.kq S;have g:=b.len.trans n;have hz:bM aOO anY []=V (.a aOO):=rfl;have H:bM bs2 [(0,6),(6,1)] []=V (.a bs2):=rfl;have rc:aN (V 7) c.c=V (.a c.c):=rfl;simp only[qz 6,qy 8,u0,u1,E,rc,J3,a6t,ar,Fa,hz,H];have i:∀{r:AV},lo p [.a c.c] r:=(by intro r;simp[lo,nA,eB,iR,aBY.c,J9.c,sl]);refine⟨m,?_⟩;rintro _ ⟨ok,rfl,h⟩;refine⟨i,?_⟩;simp only[aIN,aY];cases ok with|false=>simp only[kN,↓iC];refine stW d rfl rfl λs7 P k=>?_;refine stW (P.kq C) rfl rfl λs8 R W=>?_;have D:=R.kq k;have rz:aN (V 7) aOO=V (.a aOO):=rfl;have N:aN (V 7) bs2=V (.a bs2):=rfl;simp only[qz 10,u0,u1,W,D,rz,N,J3];refine aOH (vs':=[.a<|aOx.c ⟨⟨[],[],[],[],[],[]⟩,[]⟩, .a<|atC.c ⟨⟨[],0,[],[]⟩,[],[],[]⟩]) rfl rfl ?_;rw[<-F];exact⟨_,_,rfl,by simp,by simp⟩|true=>simp only[fh,↓iB];refine⟨⟨h rfl,m⟩,?_⟩;rintro _ ⟨s,rfl,hs⟩;refine⟨i,?_⟩;refine baV g (h rfl) m hs hn λl s' av h1 h2 y=>?_;have o:=y.len.trans g;simp only[qz 12,qy 14,oJ,pG,aY];refine ic o λv7 aw ap au k=>?_;refine stW k rfl rfl λO aq X=>?_;have up:∀{q:Id} {z:bY},q≠(7,v7)->box p q=V z->box O q=V z:=(by grind [Fx.keep,Kx.fx0]);have Z:=up (by simp) E;have d4:=up (by simp) d;have d5:=up (by simp) C;have K:aN (V 6) c.c=V (.a c.aQ.c):=rfl;have M:aN (V 7) s'.c=V (.a s'.c):=rfl;have rt:aN (V 7) (aOx.c ⟨c.aQ,l⟩)=V (.a<|aOx.c ⟨c.aQ,l⟩):=rfl;have G:bM bs2 [(0,6),(6,1)] [(0, .a c.aQ.c),(1,sl aP.c l)]=V (.a<|aOx.c ⟨c.aQ,l⟩):=rfl;simp only[qz 16];refine dT (by simp[eL,lb,lbV,Qh,m8,dC,dK,aBY.c,atC.c,aW.c,J9.c,sl]) ?_;simp only[u0,u1,Z,X,K,M,G,aj,J3];refine stW d4 rfl rfl λax u A=>?_;simp only[qz 18];refine stW (u.kq d5) rfl rfl λay v B=>?_;have j:=v.kq A;simp only[qz 20];refine dT (by simp[eL,lb,lbV,m8,dC,dK,atC.c,aW.c,J9.c,aOx.c,sl]) ?_;simp only[u0,u1,j,B,M,rt,J3];refine aOH (vs':=[.a<|aOx.c ⟨c.aQ,l⟩, .a s'.c]) rfl (by simp[iX,eN,aOx.c,J9.c,atC.c,aW.c,sl]) ?_;rw[<-F];exact⟨_,_,rfl,h1,h2⟩
def aUi:FT:=pn aXr
def bb9{c chs Lw K}:=f211 aUi aXr c chs Lw K (j:=by simp+contextual only[ij,ijv])
def a7I:dO:=(58,aUi)::aYf
def a7s:eJ a7I:=ve (aN0 aXr)<|a7r
def aWo:=ai @bb9<|@a6t
section
attribute[local irreducible] aX
def a9X:=lA 18 [(1,([0],[1,4])),(8,([28],[1,4,5,6,26,27]))]
def a4B a a1 s0 R:=(.mk _:NR a7I a9X Tryz.f21 [a,a1] [] s0 R).p
def bhv{a a1:AV}{R:j4}(h:H0 λs0=>a4B a a1 s0 R):Ct 21 [a,a1] R:=z0 a9X a7s Tryz.func21 h
end
section
attribute[local irreducible] aX
def aVO b a c R:=(.mk _:NS aR3 asK Tryz.f116 [b, .u] [a] c R).p
def bhx{c:AV}{b:List AV}{s0:ae}{R:be}(hs:L s0=4096)(l1:L b=7)(h:HB1 40 7 3 b s0 λe d=>aVO c e d R):EB 116 [c, .a b] s0 R:=zB1 asK aPL Tryz.func116 hs l1 h
def a90:=lA 25 [(3,([8],[0,2,7])),(6,([16],[0,2,7])),(9,([21],[0,2,7])),(14,([26],[0,2,7])),(21,([33],[0,2]))]
def aRx a a1 b s0 R:=(.mk _:NS aR3 a90 Tryz.f183 [a,a1,b] [] s0 R).p
def bhA{a a1 b:AV}{s0:ae}{R:be}(hs:L s0=4096)(h:aRx a a1 b s0 R):EB 183 [a,a1,b] s0 R:=zB a90 aPL Tryz.func183 h
def a93:=lA 21 [(7,([24],[0,5,10]))]
def aRz b a c d e R:=(.mk _:NS aR3 a93 Tryz.f184 [b, .u,c,d] [a] e R).p
def bhD{c:AV}{b:List AV}{d e:AV}{s0:ae}{R:be}(hs:L s0=4096)(l1:L b=7)(h:HB1 40 7 5 b s0 λg f=>aRz c g d e f R):EB 184 [c, .a b,d,e] s0 R:=zB1 a93 aPL Tryz.func184 hs l1 h
def a92:=lA 11 [(4,([5,10],[0,1,8,9])),(7,([5],[0,1,8,9,10]))]
def aVX a a1 s0 R:=(.mk _:NS aR3 a92 Tryz.f185 [a,a1] [] s0 R).p
def bhC{a a1:AV}{s0:ae}{R:be}(hs:L s0=4096)(h:aVX a a1 s0 R):EB 185 [a,a1] s0 R:=zB a92 aPL Tryz.func185 h
def a5J:=lA 39 [(4,([16],[0,4,5,15])),(7,([],[0,4,5,15,16])),(10,([7],[0,4,5,6,15,16])),(17,([64],[0,4,5,63])),(20,([],[0,4,5,63,64])),(26,([],[0,4,5])),(28,([],[0,4,5])),(33,([143],[0,4,5,142]))]
def aSH b a c R:=(.mk _:NF<|zF GGV aR3 a5J Tryz.f55 [b, .u] [a] c<|QDb Tryz.f55 R).p
def bhw{c:AV}{b:List AV}{s0:ae}{R:be}(hs:L s0=4096)(l1:L b=6)(h:HB1 31 6 3 b s0 λe d=>aSH c e d R):EB 55 [c, .a b] s0 R:=aTc<|zB1 a5J (aQ9 aPL) Tryz.func55 hs l1 h
def a5K:=lA 13 [(4,([],[0,3,5,6,8,9,11])),(8,([],[0,3,8,9,11])),(10,([],[8,11]))]
def aSL c a b d e R:=(.mk _:NF<|zF GGV aR3 a5K Tryz.f117 [c, .u, .u,d] [a,b] e<|QDb Tryz.f117 R).p
def bhy{d:AV}{b:List AV}{c:List AV}{e:AV}{s0:ae}{R:be}(hs:L s0=4096)(l1:L b=7)(f:L c=6)(h:HB2 40 7 5 b 31 6 6 c s0 λi j g=>aSL d i j e g R):EB 117 [d, .a b, .a c,e] s0 R:=aTc<|zB2 a5K (aQ9 aPL) Tryz.func117 hs l1 f h
end
def bt:(∀p:Prop,(True->p)=p)/\(∀p:Prop,(False->p)=True)/\((I=U)=False)/\((U=I)=False)/\(∀p:Prop,(p/\True)=p)/\(∀p:Prop,(True/\p)=p)/\(∀b,(U||b)=U)/\(∀b,(I||b)=b)/\(∀b,(b||U)=U)/\(∀b,(b||I)=b)/\(∀b,(U&&b)=b)/\(∀b,(I&&b)=I)/\(∀b,(b&&U)=b)/\(∀b,(b&&I)=I)/\(∀α:Sort 1,(α->True)=True):=by refine⟨λp=>by simp,λp=>by simp,by simp,by simp,λp=>by simp,λp=>by simp,by simp,by simp,by simp,by simp,by simp,by simp,by simp,by simp,by simp⟩
def aS3{Y:ae}{b:Id}{l:List Int}{a d:Nat}{n:Int}{K:be}(Lw:List Id)(W:L Y=4096)(z:b.1=14\/b.1=15\/b.1=16)(T:Tp Y b l a)(o:∀q∈Lw,(q.1=14\/q.1=15\/q.1=16)/\∃x,box Y q=V x/\x.var=I)(R:∀(x:Int) (g:Nat) i,0<=x->(1<=n->x<n)->Tp i b l g->a<=g->(a<L l->1<=n->g=a+1)->Kx [14,15,16] Y i->(∀q∈Lw,∀x,box Y q=V x->box i q=V x)->K (iv x) i):cV 115 [.p b 0 0,iv n] Y d K:=by have m:∀{q:Id},q.1=14\/q.1=15\/q.1=16->q.1∈[14,15,16]:=λh=>(by rcases h with h|h|h<;>simp[h]);have X:okI [14,15,16] (b::Lw) b:=⟨m z,by simp⟩;have C:b∉Lw:=λh=>(by obtain⟨_,x,c,v⟩:=o b h;rw[T.bx] at c;cases c;cases v);have w:∀q∈Lw,∀x,box Y q=V x->box (bim [14,15,16] (b::Lw) Y) q=V x:=λq e x c=>(by rw[aOV<|m (o q e).1,lC<|by simp[e]];exact c);have A:Tp (bim [14,15,16] (b::Lw) Y) b l a:=⟨by rw[aOV<|m z,lC<|by simp];exact T.bx,T.le,T.ok,T.ll⟩;have bA:∀(Y':ae) (g:Nat),Tp Y' b l g->(∀q∈Lw,∀x,box Y q=V x->box Y' q=V x)->okB [14,15,16] (b::Lw) Y':=λY' g H S p t x c v q e y G=>(by rcases eW.1 t with rfl|t;rw[H.bx] at c;cases c;simp only[cE] at e;subst e;simp only[eW,ql,bjz] at G;rcases G with rfl|rfl;exact .inl rfl;trivial;obtain⟨_,x',E,D⟩:=o p t;rw[S p t x' E] at c;cases c;rw[D] at v;cases v);refine aQN rfl rfl (b::Lw) (λx c=>?_) (bA _ _ A w) (aWF (aOr.trans W) A n) ?_;simp only[eW,ql,bjz] at c;rcases c with rfl|rfl;exact X;trivial;rintro r i ⟨x,g,rfl,M,N,j,O,P,F⟩;have k:L i=L Y:=F.len.trans aOr;have kp:∀q∈Lw,∀x,box Y q=V x->box i q=V x:=λq e x c=>F.keep _ _ (by simp only[cE];rintro rfl;exact C e)<|w q e x c;exact⟨k,b::Lw,bA _ _ j kp,trivial,R x g _ M N ⟨by rw[aPT k<|m z,lC<|by simp];exact j.bx,j.le,j.ok,j.ll⟩ O P Kx.mix λq e x c=>by rw[aPT k<|m (o q e).1,lC<|by simp[e]];exact kp q e x c⟩
def aPu{Y:ae}{b:Id}{l:List Int}{a d:Nat}{n:Int}{K:be}(m:L Y=4096)(T:Tp Y b l a)(j:∀(x:Int) (e:Nat) c,0<=x->(1<=n->x<n)->Tp c b l e->a<=e->Fx Y c [b]->K (iv x) c):cB 115 [.p b 0 0,iv n] Y d K:=a55 m T λx e c h i g k _ F=>j x e c h i g k F
theorem k1A{x:List AV}{y:AV}:aN J (y::x)=V y:=by cases y<;>rfl
def aTE{Y:ae}{b:Id}{l:List Int}{n:Nat}(T:Tp Y b l n){e:TypeId}{z:Nat}{a:AV}{bA:List (List AV)}(g:qc Y e z a bA):∀q∈aA a,q∉[b]:=λq c h=>by
 simp only[cE] at h;subst h
 exact aNO g q c _ T.bx rfl
def bdc{Y:ae}{b:Id}{l:List Int}{a:Nat}{x0 P x2 R S x5 a6:AV}{cnt:List Int}(A:L Y=4096)(T:Tp Y b l a)(g:qc Y 3 1 a6<|cnt.map ci)(hn:L cnt<=1000):∃r j,(∃(u:Int) (e:Nat),r=iv u/\(u= -1\/aF (L cnt) u)/\Tp j b l e/\a<=e/\Fx Y j [b])/\cZ aS GG 116 [.p b 0 0, .a [x0,P,x2,R,S,x5,a6]] Y r j:=by refine bhx A rfl λN O F X M t=>?_;have c:Fx Y N []:=F.fx [];have q:=T.fx c (by simp);have m:=g.fx c (by simp);have H:((3,O):Id)∉[b]:=λh=>(by simp only[cE] at h;subst h;exact M _ T.bx);simp only[aVO,u0,u1,t,k1A,nM,J3,aj,m.ln,bJ];rw[eM (by omega)<|by omega];refine aPu (c.len.trans A) q λu e j Z G k n i=>?_;have W:=G (by omega);have w:=i.keep _ _ H t;have g1:=m.fx i<|aTE q m;have z:dq.wrap (u-2)=u-2:=eM (by omega) (by omega);rcases o:Q (u-2<0) with _|_;simp only[aNK] at o;have C:aF (L cnt) (u-2):=⟨by omega,by omega⟩;have D:Q (u-2<0)=I:=bmL o;simp only[qz 4,u0,u1,z,D,w,k1A,nM,J3,aj,↓jA,a7c];refine aTu g1 C λv=>?_;rcases E:Q (v=0) with _|_;simp only[u0,u1,E,bt];exact⟨u-2,e,rfl, .inr C,k,n,c.trans i⟩;simp only[u0,u1,E,bt];exact⟨-1,e,rfl, .inl rfl,k,n,c.trans i⟩;simp only[qz 4,u0,u1,z,o,↓jN,aUw,bt];exact⟨-1,e,rfl, .inl rfl,k,n,c.trans i⟩
def baM{Y:ae}:aX bH 8 Y [(0,iv 0),(1,iv 0),(2,iv 0),(3,iv 1),(4,iv 1),(5,iv 2),(6,iv 3),(7,iv 4)]=V (.l ([0,0,0,1,1,2,3,4].map ci) U U,Y):=by kernel_rfl
section
attribute[local irreducible] aX
def bdk{Y:ae}{b:Id}{l:List Int}{a:Nat}{kd S:Int}(z:L Y=4096)(T:Tp Y b l a):∃r i,(∃(o:Int) (e:Nat),r=iv o/\(kd=3\/kd=4->0<=o/\o<5)/\Tp i b l e/\a<=e/\Fx Y i [b])/\cZ aS GG 183 [.p b 0 0,iv kd,iv S] Y r i:=by refine bhA z ?_;generalize O:(λ(r:AV) (i:ae)=>∃(o:Int) (e:Nat),r=iv o/\(kd=3\/kd=4->0<=o/\o<5)/\Tp i b l e/\a<=e/\Fx Y i [b])=R;have g:∀{o:Int} {e:Nat} {y:ae},(kd=3\/kd=4->0<=o/\o<5)->Tp y b l e->a<=e->Fx Y y [b]->R (iv o) y:=λv H M N=>(by rw[<-O];exact⟨_,_,rfl,v,H,M,N⟩);simp only[aRx];refine btF (λc=>∀t,(t=I->¬(kd=3\/kd=4))->c [bv t]) ?_ λc w=>?_;intro t q;(cases t);have q:=q rfl;have C:∀{o:Int},R (iv o) Y:=g (λh=>aPo h q) T (dA _)<|Fx.refl _ _;simp only[qz 21,qy 2,au,aI,u0,u1,bt];refine bsp (λc=>∀t,c [bv t]) (λt=>?_) λc j=>(by simp only[qz 41,u0,u1,j,aNV,aOe]);(cases t);simp only[qz 39,qy 6,au,aI,u0,u1,bt];refine bsp (λc=>∀t,c [bv t]) (λt=>?_) λc j=>(by simp only[qz 59,u0,u1,j,aNV,aOe]);(cases t);simp only[qz 57,au,aI,u0,u1,bt];refine bsp (λc=>∀t,c [bv t]) (λt=>?_) λc j=>(by simp only[qz 89,u0,u1,j,aNV,aOe]);(cases t);simp only[qz 87,au,aI,u0,u1,bt];refine bsp (λc=>∀t,c [bv t]) (λt=>?_) λc j=>(by simp only[qz 131,u0,u1,j,aNV,aOe]);(cases t);simp only[qz 129,au,aI,u0,u1,bt];exact C;simp only[qz 129,au,aI,u0,u1,bt];refine aPu z T λu e i D v m n k=>?_;simp only[qz 8,u0,u1,aPR,aP1];(first|exact g (λh=>aPo h q) m n k|exact⟨by decide,g (λh=>aPo h q) m n k⟩);simp only[qz 87,au,aI,u0,u1,bt];exact C;simp only[qz 57,au,aI,u0,u1,bt];exact C;simp only[qz 39,qy 6,au,aI,u0,u1,bt];exact aPu z T λu e i D v m n k=>g (λh=>aPo h q) m n k;have G:=@baM Y;simp only[qz 21,qy 2,au,aI,u0,u1,G,bt];refine aPu z T λu e i D v m n k=>?_;have F:=v (by decide);simp only[qz 4,tf,ci,qM,u0];refine⟨⟨D,by simpa using F⟩,g (λ_=>?_) m n k⟩;have P:∀x∈([0,0,0,1,1,2,3,4]:List Int),0<=x/\x<5:=(by decide);exact P _ (asq<|by simp;omega);rcases A:Q (kd=3) with _|_;rcases E:Q (kd=4) with _|_;simp only[qz 23,A,E,u0,u1,bt];refine w I λ_=>?_;simp at A E;omega;simp only[qz 23,A,E,u0,u1,bt];exact w U (λh=>Bool.noConfusion h);simp only[qz 23,A,u0,u1,bt];exact w U (λh=>Bool.noConfusion h)
end
theorem aRH{c:AV}{l:List Int}(h:gK c=sl ci l):∃t o,c= .l (l.map ci) t o:=by(cases c<;>first|(simp[gK,sl] at h;done)|skip);rename_i bA t o;simp only[gK,sl,AV.l.injEq] at h;exact⟨t,o,by rw[h.1]⟩
def bdL{ds:List AV}{s:sA}(h:Lk ds s.c):∃x0 g x2 i t4 o4 e a j,ds=[x0,g,x2,i, .l (s.cells.map ci) t4 o4, .l (s.bU.map ci) e a,j]:=by have k:=oC h;obtain⟨h,_⟩:=h;rcases ds with _|⟨x0,_|⟨g,_|⟨x2,_|⟨i,_|⟨m,_|⟨x5,_|⟨j,_|⟨n,ds⟩⟩⟩⟩⟩⟩⟩⟩<;>simp at k;simp only[ji,mU,sA.c,kO] at h;obtain⟨t4,o4,rfl⟩:=aRH h.2.2.2.2.1;obtain⟨e,a,rfl⟩:=aRH h.2.2.2.2.2.1;exact⟨_,_,_,_,_,_,_,_,_,rfl⟩
def bdD{Y:ae}{b:Id}{l:List Int}{a:Nat}{ds:List AV}{s:sA}{kd ob:Int}(hl:L Y=4096)(T:Tp Y b l a)(o:Lk ds s.c)(hs:L s.gp.ay<1000)(S:kd=3->aF (L s.cells) ob)(ap:0<L s.bU):∃r i,(∃(v:Int) (g:Nat),r=iv v/\Tp i b l g/\a<=g/\Fx Y i [b])/\cZ aS GG 184 [.p b 0 0, .a ds,iv kd,iv ob] Y r i:=by refine bhD hl (oC o) λZ v5 K2 aq nf D=>?_;generalize hR:(λ(r:AV) (i:ae)=>∃(v:Int) (g:Nat),r=iv v/\Tp i b l g/\a<=g/\Fx Y i [b])=R;have N:Fx Y Z []:=K2.fx [];have C:=T.fx N (by simp);have z:=N.len.trans hl;have j:∀{v:Int} {g:Nat} {y:ae},Tp y b l g->a<=g->Fx Z y [b]->R (iv v) y:=λh2 S h4=>(by rw[<-hR];exact⟨_,_,rfl,h2,S,N.trans h4⟩);have h:∀{v:Int},R (iv v) Z:=j C (dA _)<|Fx.refl _ _;obtain⟨x0,x1,x2,x3,t4,o4,t5,W,x6,rfl⟩:=bdL o;have G:∀{Y:ae},dG Y (.a [x0,x1,x2,x3, .l (s.cells.map ci) t4 o4, .l (s.bU.map ci) t5 W,x6])= .a s.c:=λ{Y}=>o.arg Y;have Bi:aN (V 7) [x0,x1,x2,x3, .l (s.cells.map ci) t4 o4, .l (s.bU.map ci) t5 W,x6]=V (.a [x0,x1,x2,x3, .l (s.cells.map ci) t4 o4, .l (s.bU.map ci) t5 W,x6]):=rfl;have k:∀{Y:ae} {l:List Int},fS Y (sl ci l)=V (iv<|L l):=cT;rcases E:Q (kd=3) with _|_;rcases M:Q (kd=23) with _|_;simp only[aRz,E,M,u0,u1,↓iB];refine bsp (λe=>∀t,e [bv t]) (λt=>?_) λe ag=>(by simp only[qz 47,u0,u1,ag,aNV,aOe]);(cases t);rcases F:Q (kd=5) with _|_;rcases A:Q (kd=18) with _|_;rcases H:Q (kd=19) with _|_;simp only[qz 45,qy 4,au,aI,F,A,H,u0,u1,↓iB,bt];exact h;simp only[qz 45,qy 4,au,aI,F,A,H,u0,u1,↓iB,↓iC,D,Bi,J3,aPg,ar,G,bt];refine⟨hs,?_⟩;rintro _ ⟨w,rfl,hw⟩;refine⟨by rw[lo,nA];simp[x9 o],?_⟩;simp only[k,u0];exact h;simp only[qz 45,qy 4,au,aI,F,A,u0,u1,↓iB,↓iC,D,Bi,J3,aPg,ar,G,bt];refine⟨hs,?_⟩;rintro _ ⟨w,rfl,hw⟩;refine⟨by rw[lo,nA];simp[x9 o],?_⟩;rcases X:Q ((0:Int)<(L w:Int)) with _|_;simp only[k,u0,u1,X,↓iB];exact h;simp only[k,u0,u1,X,↓iC];simp only[yp] at X;refine aPu z C λu g i O P n q m=>?_;have af:=P (by omega);simp only[qz 8,amX,ci,qM,u0];exact⟨⟨O,af⟩,j n q m⟩;simp only[qz 45,qy 4,qy 6,au,aI,F,u0,u1,↓iC,bt];exact aPu z C λu g i O P n q m=>j n q m;simp only[qz 45,qy 4,qy 6,au,aI,u0,u1,bt];exact aPu z C λu g i O P n q m=>j n q m;simp only[aRz,E,M,u0,u1,↓iB,↓iC,D,k1A,nM,J3,aj,tf,ci,qM];exact⟨⟨by omega,by omega⟩,h⟩;simp only[aRz,E,u0,u1,↓iC,D,k1A,nM,J3,aj,tf,ci,qM];exact⟨S (by simpa using E),h⟩
def aS1{Y:ae}{n:Int}:aX bH 1 Y [(0,iv n)]=V (.l ([n].map ci) U U,Y):=iz
def bdv{Y:ae}{b:Id}{l ns:List Int}{a:Nat}{x:AV}(E:L Y=4096)(hb:b.1≠28)(T:Tp Y b l a)(g:qc Y 3 1 x<|ns.map ci)(hn:L ns<=1000):∃r n,(∃(m:List Int) (j:Nat),qc n 3 1 r (m.map ci)/\L m<=L ns/\Tp n b l j/\a<=j/\Fx Y n [b]/\∀q∈aA r,ig Y q/\q.1=28)/\cZ aS GG 185 [.p b 0 0,x] Y r n:=by refine bhC E ?_;generalize hR:(λ(r:AV) (n:ae)=>∃(m:List Int) (j:Nat),qc n 3 1 r (m.map ci)/\L m<=L ns/\Tp n b l j/\a<=j/\Fx Y n [b]/\∀q∈aA r,ig Y q/\q.1=28)=R;simp only[aVX,g.ln,bJ,u0];refine jD (α:=AV) (λa i=>[a,iv i]) 1 (L ns) (λk c y=>Fx Y y [b]/\(∃j,Tp y b l j/\a<=j)/\∃m:List Int,L m<=k/\qc y 3 1 c (m.map ci)/\∀q∈aA c,ig Y q/\q.1=28) (s0:= .l [] U U) ⟨Fx.refl _ _,⟨a,T,dA _⟩,[],by simp, .inl ⟨rfl,rfl⟩,by simp[aA]⟩ ?_;rintro k c y hk ⟨F,⟨j,C,X⟩,m,hm,D,w⟩;have Z:=F.len.trans E;rcases G:Q ((k:Int)<(L ns:Int)) with _|_;simp only[qz 25,aI,au,u0,u1,G,↓iB];rw[<-hR];exact⟨m,j,D,by omega,C,X,F,w⟩;have v:k<L ns:=Int.ofNat_lt.1<|aNR G;have S:=g.fx F<|aTE T g;have ek:dq.wrap ((k:Int)+3)=(k:Int)+3:=eM (by omega) (by omega);simp only[qz 25,aI,au,u0,u1,G,↓iC];refine bsK (λe=>∀{o:AV} {z:ae} {m':List Int} {j:Nat},Fx Y z [b]->Tp z b l j->a<=j->L m'<=k+1->qc z 3 1 o (m'.map ci)->(∀q∈aA o,ig Y q/\q.1=28)->e [o] z) ?_ λe nx=>?_;intro o z m' j F T W h2 g p;simp only[qz 45,aI,au,u0,u1];exact dR (mk:=λ(a:AV) i=>[a,iv i]) (s:=c) (s':=o) (λ_ _=>rfl) v (by omega) ⟨F,⟨_,T,W⟩,m',h2,g,p⟩;simp only[qz 47,qy 4,qy 6,u0,u1];refine(SlR.of S).ix1 (c:=iv<|gd ns k) (by rw[bj9,eC v,bT v];rfl) λp _=>?_;simp only[S.ln,bJ,ek,u0,u1];rcases q2:Q ((L ns:Int)<=(k:Int)+3) with _|_;simp only[u0,↓jN,a7c,bt];exact nx F C X (by omega) D w;simp only[u0,↓jA,aUw];refine aPu (d:=22) Z C λu a2 y2 h0 W O ak H=>?_;have P:=D.fx H<|aTE C D;have A:=(F.trans H).mono (ks':=[b]) λq t=> .inl (by simpa using t);rcases q3:Q (u=1) with _|_;simp only[u0,u1,q3,bt];exact nx A O (by omega) (by omega) P w;simp only[u0,u1,q3,aS1,bt];refine apQ P (A.len.trans E) pU pU (by simp) (by simp;omega) λo y3 g3 M N=>?_;have nb:b∉aA c:=λh=>hb (w b h).2;refine nx (m':=m++[gd ns k]) ((A.trans M).mono λq t=>?_) (O.fx M nb) (by omega) (by simp;omega) (by rw[dg];exact g3.p) λq t=>⟨(N q t).1.old A,(N q t).2⟩;rcases dF.1 t with h|h;exact .inl h;exact .inr (w q h).1.no
structure Rds(Y:ae)(B:Id)(f:Nat->AV)(m:Nat):Prop where
 bx:box Y B=V ⟨38,1,U,U,io 4 λi=>[f i]⟩
 gr:∀i,i<4->∃ns:List Int,L ns<=m/\qc Y 3 1 (f i) (ns.map ci)
 dj:∀i j,i<4->j<4->i≠j->∀q∈aA (f i),q∉aA (f j)
 pl:∀i,i<4->∀q∈aA (f i),q.1=47\/q.1=103
theorem Rds.kx{Y Y':ae}{B:Id}{f:Nat->AV}{m:Nat}{ks:List Nat}(O:Rds Y B f m)(k:Kx ks Y Y')(h:B.1∉ks/\47∉ks/\103∉ks):Rds Y' B f m:=⟨k.keep _ _ h.1 O.bx,λi a=>by obtain⟨ns,c,g⟩:=O.gr i a;exact⟨ns,c,k.gr g λq j=>by rcases O.pl i a q j with e|e<;>rw[e]<;>first|exact h.2.1|exact h.2.2⟩,O.dj,O.pl⟩
theorem Rds.fx{Y Y':ae}{B:Id}{f:Nat->AV}{m:Nat}{Lw:List Id}(O:Rds Y B f m)(F:Fx Y Y' Lw)(h:∀q∈Lw,q≠B/\q.1≠47/\q.1≠103):Rds Y' B f m:=⟨F.keep _ _ (λe=>(h _ e).1 rfl) O.bx,λi c=>by obtain⟨ns,g,j⟩:=O.gr i c;exact⟨ns,g,j.fx F λq k e=>by rcases O.pl i c q k with a|a<;>first|exact(h q e).2.1 a|exact(h q e).2.2 a⟩,O.dj,O.pl⟩
theorem Rds.rd{Y:ae}{B:Id}{f:Nat->AV}{m:Nat}(O:Rds Y B f m){u:Int}(h:0<=u/\u<4){K:j4}(g:K<|f u.toNat):rV (cz 1 Y (.m B 4)<|iv u) λp=>rV (vp J Y p) K:=by have a:u.toNat<4:=(by omega);have c:cz 1 Y (.m B 4) (iv u)=V (.p B u.toNat 0):=(by simp[cz,h.1,O.bx,a]);have e:vp J Y (.p B u.toNat 0)=V (f u.toNat):=(by simp[vp,iE,O.bx,uU a,aN]);rw[c,aY,e,aY];exact g
structure EvS(Y x:ae)(b:Id)(l:List Int)(a0 v5 v6 v8 v11:Nat)(ds:List AV)(B:Id)(f:Nat->AV)(u kd ob va st:Int)(dp fr:AV):Prop where
 bx:box x (11,v11)=V ⟨62,7,U,U,[[iv u,iv kd,iv ob,iv va,iv st,dp,fr]]⟩
 b8:box x (8,v8)=V ⟨62,7,U,U,[bnk]⟩
 b5:box x (5,v5)=V ⟨40,7,U,U,[ds]⟩
 b6:box x (6,v6)=V ⟨31,6,U,U,[aNE.c]⟩
 tp:∃a',Tp x b l a'/\a0<=a'
 kx:Kx [14,15,16] Y x
 pb:b.1=14\/b.1=15\/b.1=16
 gd:∃m:List Int,L m<=1000/\qc x 3 1 dp (m.map ci)
 gf:∃m:List Int,L m<=1000/\qc x 3 1 fr (m.map ci)
 pd:∀q∈aA dp,q.1=28/\∀z,box Y q≠V z
 pf:∀q∈aA fr,q.1=28/\∀z,box Y q≠V z
 rd:Rds x B f 1000
 pB:B.1=20
 no:(∀z,box Y (11,v11)≠V z)/\∀z,box Y (8,v8)≠V z
section
variable{Y x y:ae}{b B:Id}{l:List Int}{a0 v5 v6 v8 v11 d:Nat}{ds:List AV}{f:Nat->AV}{u kd ob va st:Int}{dp fr:AV}{K:be}{KS:ae->Prop}
theorem EvS.le(E:EvS Y x b l a0 v5 v6 v8 v11 ds B f u kd ob va st dp fr)(h:L Y=4096):L x=4096:=E.kx.len.trans h
def EvS.nx(E:EvS Y x b l a0 v5 v6 v8 v11 ds B f u kd ob va st dp fr)(F:Fx x y [b]){i:Nat}(T:Tp y b l i)(h:a0<=i):EvS Y y b l a0 v5 v6 v8 v11 ds B f u kd ob va st dp fr:=by have n:=E.pb;have c:∀{q:Id},q.1≠14->q.1≠15->q.1≠16->q∉[b]:=λj k r e=>(by simp at e;subst e;omega);obtain⟨m,j,g1⟩:=E.gd;obtain⟨p,k,o⟩:=E.gf;have g:∀{q:Id},q.1=28->q∉[b]:=λh=>c (by omega) (by omega) (by omega);exact⟨F.keep _ _ (c (by simp) (by simp)<|by simp) E.bx,F.keep _ _ (c (by simp) (by simp)<|by simp) E.b8,F.keep _ _ (c (by simp) (by simp)<|by simp) E.b5,F.keep _ _ (c (by simp) (by simp)<|by simp) E.b6,⟨i,T,h⟩,E.kx.fx F λq a=> .inl (by simp at a;subst a;rcases n with e|e|e<;>simp[e]),n,⟨m,j,g1.fx F λq a=>g (E.pd q a).1⟩,⟨p,k,o.fx F λq a=>g (E.pf q a).1⟩,E.pd,E.pf,E.rd.fx F (λq a=>by simp at a;subst a;exact⟨λe=>by have:=E.pB;rw[<-e] at this;omega,by omega,by omega⟩),E.pB,E.no⟩
def EvS.set(E:EvS Y x b l a0 v5 v6 v8 v11 ds B f u kd ob va st dp fr)(F:Fx x y [(11,v11)]){j n k:Int}{c g:AV}(G:box y (11,v11)=V ⟨62,7,U,U,[[iv u,iv kd,iv j,iv n,iv k,c,g]]⟩)(gd:∃m:List Int,L m<=1000/\qc x 3 1 c (m.map ci))(w:∃m:List Int,L m<=1000/\qc x 3 1 g (m.map ci))(p:∀q∈aA c,q.1=28/\∀z,box Y q≠V z)(r:∀q∈aA g,q.1=28/\∀z,box Y q≠V z):EvS Y y b l a0 v5 v6 v8 v11 ds B f u kd j n k c g:=by obtain⟨m,A,g1⟩:=gd;obtain⟨H,C,v⟩:=w;obtain⟨t,T,D⟩:=E.tp;have o:=E.pb;have i:∀{q:Id},q.1=28->q∉[((11,v11):Id)]:=λh e=>(by simp at e;subst e;simp at h);exact⟨G,F.kq E.b8,F.kq E.b5,F.kq E.b6,⟨t,T.fx F (λe=>by simp at e;subst e;simp at o),D⟩,E.kx.fx F<|λq a=> .inr<|by simp at a;subst a;exact E.no.1,o,⟨m,A,g1.fx F λq a=>i (p q a).1⟩,⟨H,C,v.fx F λq a=>i (r q a).1⟩,p,r,E.rd.fx F (λq a=>by simp at a;subst a;exact⟨λe=>by have:=E.pB;rw[<-e] at this;simp at this,by simp,by simp⟩),E.pB,E.no⟩
def a56(E:EvS Y x b l a0 v5 v6 v8 v11 ds B f u kd ob va st dp fr)(n:L Y=4096){j:Nat}(k:j<4)(i:∀r y,EvS Y y b l a0 v5 v6 v8 v11 ds B f u kd ob va st dp fr->(∃m:List Int,L m<=1000/\qc y 3 1 r (m.map ci))->(∀q∈aA r,q.1=28/\∀z,box Y q≠V z)->K r y):cB 185 [.p b 0 0,f j] x d K:=by obtain⟨ns,h,g⟩:=E.rd.gr j k;obtain⟨v,T,A⟩:=E.tp;refine jH rfl (bdv (E.le n) (by have:=E.pb;omega) T g h) ?_;rintro r y ⟨m,a2,e,w,c,t,F,p⟩;exact⟨F.len,i r y (E.nx F c<|by omega) ⟨m,by omega,e⟩ λq a=>⟨(p q a).2,λz o=>(p q a).1.no z<|E.kx.keep _ _ (by rw[(p q a).2];decide) o⟩⟩
end
def bcs{Y:ae}{c0 e h i j:Int}{dp fr:AV}{m k:List Int}(g:qc Y 3 1 dp<|m.map ci)(n:qc Y 3 1 fr<|k.map ci):aOo Y (.a [iv c0,iv e,iv h,iv i,iv j,dp,fr])= .a (aP.mk c0 e h i j m k).c:=by show AV.a (List.map gK<|List.map (gi Y) _)=_;have o:=a6r g;have p:=a6r n;simp only[ji,mU,o,p];rfl
def bdf{Y:ae}{b B:Id}{l:List Int}{a:Nat}{ds:List AV}{s:sA}{f:Nat->AV}(A:L Y=4096)(hb:b.1=14\/b.1=15\/b.1=16)(hB:B.1=20)(T:Tp Y b l a)(hL:Lk ds s.c)(hs:L s.gp.ay<1000)(h3:L s.cells=5)(bd:0<L s.bU)(O:Rds Y B f 1000):∃r Y1,(∃(e:aP) (w:Nat),r= .a e.c/\EvL e/\(0<=e.aq/\e.aq<4)/\Tp Y1 b l w/\a<=w/\(a<L l->a+1<=w)/\Kx [14,15,16] Y Y1)/\cZ aS GG 117 [.p b 0 0, .a ds, .a aNE.c, .m B 4] Y r Y1:=by generalize hQ:(λ(r:AV) (y:ae)=>∃(e:aP) (w:Nat),aOo y r= .a e.c/\EvL e/\(0<=e.aq/\e.aq<4)/\Tp (kills y<|aNW r) b l w/\a<=w/\(a<L l->a+1<=w)/\Kx [14,15,16] Y (kills y<|aNW r))=Qq;refine aQR (R:=Qq) ?_ (λr y h=>by rw[<-hQ] at h;exact h);refine bhy A (oC hL) rfl λs4 v5 v6 K4 ck cl cm b5 b6=>?_;have F4:Fx Y s4 []:=K4.fx [];have bn:=F4.len.trans A;simp only[aSL];refine ic bn λv8 s6 M N8 b8=>?_;have S:=F4.trans M;have K6:Kx [14,15,16] Y s6:=S.kx (by simp);have bo:=S.len.trans A;have n8:∀z,box Y (8,v8)≠V z:=(N8.old F4).no;simp only[qz 6];refine aS3 [] bo hb (T.fx S<|by simp) (by simp) λu a1 s8 bu bv T8 cb br K8 _=>?_;have hu:0<=u/\u<4:=⟨bu,bv<|by decide⟩;have al:Kx [14,15,16] Y s8:=K6.kx K8 (by simp);have bp:=al.len.trans A;simp only[qz 8,aPg,ar];rintro _ ⟨t,o,rfl⟩;refine⟨by rw[lo,nA];simp,?_⟩;simp only[bdM,u0];refine aS3 [] bp hb T8 (by simp) λk a2 bD bl bm aX cc cf ah _=>?_;have hk:aF (L aTp) k:=⟨bl,by have:=bm (by decide);simpa using this⟩;have W:Kx [14,15,16] Y bD:=al.kx ah (by simp);have aK:=W.len.trans A;simp only[qz 10,tf,ci,qM,u0,u1];refine⟨hk,?_⟩;generalize gd aTp k.toNat=kd;refine aS3 [] aK hb aX (by simp) λst a3 av ch cj aY cd cg ak _=>?_;have D:Kx [14,15,16] Y av:=W.kx ak (by simp);have aL:=D.len.trans A;have bj:∀{u k st:Int},bM bnk aOG [(0,iv u),(1,iv k),(4,iv st)]=V (.a [iv u,iv k,iv 0,iv 0,iv st, .l [] U U, .l [] U U]):=λ{u k st}=>rfl;simp only[qz 12,qy 14,bj,u0,u1];generalize dq.wrap (dq.wrap (u*6)+st)=site;refine ic aL λv11 cn af am aZ=>?_;refine stW aZ rfl rfl λH ag bb=>?_;have ap:∀z,box Y (11,v11)≠V z:=D.no (by simp) am.no;have X:Kx [14,15,16] Y H:=(D.fx af<|by simp).fx ag λq v=> .inr (by simp at v;subst v;exact ap);have G:Fx av H []:=(af.trans ag).mono λq v=>(by simp at v;subst v;exact .inr am.no);have kk:∀{q:Id} {z:bY},q.1≠14->q.1≠15->q.1≠16->box s6 q=V z->box H q=V z:=λh1 N h3 h=>G.kq (ak.keep _ _ (by simp[h1,N,h3])<|ah.keep _ _ (by simp[h1,N,h3])<|K8.keep _ _ (by simp[h1,N,h3]) h);simp only[qz 16];refine dT (by simp[eL,lb,lbV,m8,dC,dK]) ?_;have E:EvS Y H b l a3 v5 v6 v8 v11 ds B f u kd 0 0 site (.l [] U U) (.l [] U U):=⟨bb,kk (by simp) (by simp) (by simp) b8,kk (by simp) (by simp) (by simp)<|M.kq b5,kk (by simp) (by simp) (by simp)<|M.kq b6,⟨a3,aY.fx G (by simp),dA _⟩,X,hb,⟨[],by simp, .inl ⟨rfl,rfl⟩⟩,⟨[],by simp, .inl ⟨rfl,rfl⟩⟩,by simp[aA],by simp[aA],O.kx X ⟨by rw[hB];decide,by decide,by decide⟩,hB,ap,n8⟩;have aJ:a<L l->a+1<=a3:=λh=>(by have:=br h (by decide);omega);have bV:a<=a3:=(by omega);have ao:u.toNat<4:=(by omega);have r7:=@r7A;have uQ:aN (V 7) ds=V (.a ds):=(by have:=oC hL;simp[aN,this,oB<|Nat.le_of_eq this]);refine bpD (λi=>∀{x st},EvS Y x b l a3 v5 v6 v8 v11 ds B f u kd 0 0 st (.l [] U U) (.l [] U U)->i [] x) (λ{x st} E=>?_) λJ4 h4=>?_;(focus simp only[qz 27,aI,u0,u1,E.bx,k1A,nM,J3,aj];obtain⟨w,T',bi⟩:=E.tp;refine jH rfl (bdk (E.le A) T') ?_;rintro _ y ⟨ob,a2,rfl,ho,T2,N,F2⟩;refine⟨F2.len,?_⟩;have j:=E.nx F2 T2 (by omega);simp only[qz 20,u0,u1,j.bx,aj];refine A0 j.bx rfl (by simp) λz Fz bz=>?_;have P:=j.set Fz bz j.gd j.gf j.pd j.pf;obtain⟨a5,T5,h5⟩:=P.tp;simp only[qz 22,u0,u1,P.bx,P.b5,uQ,k1A,nM,J3,aj];refine jH rfl (bdD (P.le A) T5 hL hs (λh=>?_) bd) ?_;rw[h3];exact ho<|.inl h;rintro _ y2 ⟨va,a6,rfl,T6,h6,M⟩;refine⟨M.len,?_⟩;have C:=P.nx M T6 (by omega);simp only[qz 24,u0,u1,C.bx,aj];refine A0 C.bx rfl (by simp) λz2 aV ba=>?_;have E:=C.set aV ba C.gd C.gf C.pd C.pf;simp only[qz 26];refine bpD (λi=>∀{x ob va st dp fr},EvS Y x b l a3 v5 v6 v8 v11 ds B f u kd ob va st dp fr->i [] x) (λ{x ob va st dp fr} E=>?_) λJ8 h8=>?_;(focus simp only[qz 51,aI];refine bpD (λi=>∀{x ob va st dp fr},EvS Y x b l a3 v5 v6 v8 v11 ds B f u kd ob va st dp fr->i [] x) (λ{x ob va st dp fr} E=>?_) λca an=>?_;simp only[qz 63,qy 36,aI,u0,u1,E.bx,r7,J3];refine stW E.b8 rfl rfl λy F b=>?_;simp only[b,u0,u1,r7];obtain⟨m,h1,g1⟩:=E.gd;obtain⟨m2,N,g2⟩:=E.gf;have au:∀{q:Id},q.1=28->q∉[((8,v8):Id)]:=λh e=>(by simp at e;subst e;simp at h);have y1:=g1.fx F λq v=>au (E.pd q v).1;have y2:=g2.fx F λq v=>au (E.pf q v).1;obtain⟨w,T',bi⟩:=E.tp;have ei:aNW (.a [iv u,iv kd,iv ob,iv va,iv st,dp,fr])=aA dp++aA fr:=(by have i1:=aQX y1;have i2:=aQX y2;have e0:∀{n:Int},iR (iv n)=[]:=rfl;simp only[aNW,eB,Cz,RN,i1,i2,e0,dW,cL]);have nb:∀q∈aA dp++aA fr,q.1=28/\∀z,box Y q≠V z:=λq v=>(by rcases dF.1 v with h|h;exact E.pd q h;exact E.pf q h);have bs:=E.pb;show Qq (.a [iv u,iv kd,iv ob,iv va,iv st,dp,fr]) y;rw[<-hQ];refine⟨_,w,bcs y1 y2,⟨h1,N⟩,hu,?_,by omega,λh=>by have:=aJ h;omega,?_⟩;rw[ei];exact(T'.fx F (λe=>by simp at e;subst e;simp at bs)).fx (aOp _ _) λe=>(by have:=(nb _ e).1;omega);rw[ei];exact(E.kx.fx F<|λq v=> .inr<|by simp at v;subst v;exact E.no.2).fx (aOp _ _) λq v=> .inr (nb q v).2;rcases q4:Q (kd=4) with _|_<;>rcases bA:Q (kd=22) with _|_<;>simp only[qz 65,u0,u1,E.bx,k1A,nM,J3,aj,q4,bA,↓jA,↓jN,aUw,bt];exact an E;all_goals refine E.rd.rd hu ?_;refine a56 E A ao λr y j Z pr=>?_;have cr:eY r=V [r]:=(by obtain⟨m,_,g⟩:=Z;exact g.ce);simp only[qz 32,qy 34,u0,u1,j.bx,aj];refine A0 j.bx cr (by simp) λz F b=>?_;exact an<|j.set F b j.gd Z j.pd pr);have aR:aN J aNE.c=V (sl cA.c aNE.cells):=rfl;have bk:L aNE.cells=5:=rfl;rcases q5:Q (kd=5) with _|_<;>rcases q3:Q (kd=3) with _|_<;>rcases q4:Q (kd=4) with _|_<;>simp only[qz 53,u0,u1,E.bx,E.b6,k1A,aR,nM,J3,aj,q5,q3,q4,↓jA,↓jN,aUw,a7c,bt];exact h8 E;(all_goals try have h5:=ho (by simp only[yp,aNK] at q3 q4;omega);simp only[aCd,u0,u1,cA.c,aC6,nM,J3,k1A];refine⟨⟨h5.1,by rw[bk];exact h5.2⟩,λ_=>?_,λ_=>h8 E⟩);all_goals refine E.rd.rd hu ?_;refine a56 E A ao λr y j Z pr=>?_;have cr:eY r=V [r]:=(by obtain⟨m,_,g⟩:=Z;exact g.ce);simp only[qz 28,qy 30,u0,u1,j.bx,aj];refine A0 j.bx cr (by simp) λz F b=>?_;exact h8<|j.set F b Z j.gf pr j.pf);rcases q1:Q (kd=1) with _|_<;>rcases q2:Q (kd=2) with _|_<;>simp only[qz 29,qy 18,u0,u1,E.bx,k1A,nM,J3,aj,q1,q2,↓jA,↓jN,aUw,bt];exact h4 E;all_goals refine A0 E.bx rfl (by simp) λz F bz=>?_;exact h4<|E.set F bz E.gd E.gf E.pd E.pf
def bcM{Y:ae}{e n:TypeId}{z v:Nat}{a k:AV}{r t:List (List AV)}(g:qc Y e z a r)(o:qc Y n v k t)(h:e≠n):∀q∈aA k,q∉aA a:=λq i j=>by
 rcases g with⟨_,rfl⟩|⟨b,m,rfl,p⟩
 ·simp[aA] at j
 rcases o with⟨_,rfl⟩|⟨w,m',rfl,c⟩
 ·simp[aA] at i
 simp only[aA,cE] at j i
 subst j i
 rw[p] at c;exact h<|brR bY.elem<|Option.some.inj c
def qc.fn{Y Y':ae}{e c:TypeId}{z m:Nat}{a i:AV}{r k:List (List AV)}(j:qc Y c m i k)(F:Fx Y Y'<|aA a)(g:qc Y e z a r)(h:e≠c:=by decide):qc Y' c m i k:=j.fx F<|bcM g j h
section
variable{Y x y:ae}{s:sA}{a1 a2 a3 a4 a5 a6:AV}{KS:ae->Prop}
theorem SnL.keep(S:SnL Y x s a1 a2 a3 a4 a5 a6){Lw:List Id}(F:Fx x y Lw)(h:∀q∈Lw,q.1≠6/\q.1≠32/\q.1≠10/\q.1≠14):SnL Y y s a1 a2 a3 a4 a5 a6:=⟨S.g1.fx F λq a e=>(h q e).1 (S.p1 q a).2,S.g2.fx F λq a e=>(h q e).1 (S.p2 q a).2,S.g3.fx F λq a e=>(h q e).1 (S.p3 q a).2,S.g4.fx F λq a e=>(h q e).2.1 (S.p4 q a).2,S.g5.fx F λq a e=>(h q e).2.2.1 (S.p5 q a).2,S.g6.fx F λq a e=>(h q e).2.2.2 (S.p6 q a).2,S.p1,S.p2,S.p3,S.p4,S.p5,S.p6⟩
theorem SnL.old{a:ae}{Lw:List Id}(S:SnL Y x s a1 a2 a3 a4 a5 a6)(F:Fx a Y Lw):SnL a x s a1 a2 a3 a4 a5 a6:=⟨S.g1,S.g2,S.g3,S.g4,S.g5,S.g6,λq h=>⟨(S.p1 q h).1.old F,(S.p1 q h).2⟩,λq h=>⟨(S.p2 q h).1.old F,(S.p2 q h).2⟩,λq h=>⟨(S.p3 q h).1.old F,(S.p3 q h).2⟩,λq h=>⟨(S.p4 q h).1.old F,(S.p4 q h).2⟩,λq h=>⟨(S.p5 q h).1.old F,(S.p5 q h).2⟩,λq h=>⟨(S.p6 q h).1.old F,(S.p6 q h).2⟩⟩
theorem a7V{α:Type}[Inhabited α]{c:α->List AV}{e:TypeId}{z:Nat}{a:AV}{l:List α}(g:qc x e z a<|l.map c)(N:∀y,L (c y)=z){i:Int}(k:aF (L l) i){j:Nat}{v:AV}{t:α}(G:j<z)(D:eY (nrm<|eR x v)=V [nrm<|eR x v])(E:eN (nrm<|eR x v)=U)(hI:eB v=[]){o:AV->be}(M:(c<|gd l i.toNat).set j (nrm<|eR x v)=c t)(A:∀p h y,Fx x y (aA a)->qc y e z a ((l.set i.toNat t).map c)->o p h y):rV (cz z x a<|iv i) λp=>rV (iQ j x p) λh=>sV (aK 1 x h v) (o p h):=by refine ixG g (by simpa using k) λb m C w=>?_;have H:i.toNat<L l:=(by have:=k.1;have:=k.2;omega);simp only[rR,w,df,aY,aj];refine aQz (r:=c<|gd l i.toNat) w (by grind [bT]) (by simp_all) D E hI λy F q=>?_;have n:(l.map c++m).set i.toNat ((c<|gd l i.toNat).set j<|nrm<|eR x v)=(l.set i.toNat t).map c++m:=(by simp_all);rw[n] at q;exact A _ _ y (by grind [aA]) (.inr ⟨b,m,by rw[C];simp,q⟩)
end
def sz5(s:sA):Prop:=L s.gp.ak=3/\L s.gp.done=1/\L s.gp.ay=4/\L s.cells=5/\L s.bU=1/\L s.count=4/\(∀q∈s.gp.ak,L q.bk<=1)/\∀c∈s.count,0<=c/\c<=400
structure Bg(Y x:ae)(b:Id)(l:List Int)(a0 v4 v8:Nat)(a1 a2 a3 a4 a5 a6:AV):Prop where
 ex:∃s:sA,SnL Y x s a1 a2 a3 a4 a5 a6/\sz5 s/\box x (5,v8)=V ⟨40,7,U,U,[[a1,iv s.gp.tx,a2,a3,a4,a5,a6]]⟩
 b4:box x (4,v4)=V ⟨40,7,U,U,[bsk]⟩
 tp:∃a',Tp x b l a'/\a0<=a'
 kx:Kx [14,15,16] Y x
 pb:b.1=14\/b.1=15\/b.1=16
 no:(∀z,box Y (4,v4)≠V z)/\∀z,box Y (5,v8)≠V z
section
variable{Y x y:ae}{b:Id}{l:List Int}{a0 v4 v8 d:Nat}{a1 a2 a3 a4 a5 a6:AV}{K:be}{KS:ae->Prop}
theorem Bg.le(B:Bg Y x b l a0 v4 v8 a1 a2 a3 a4 a5 a6)(h:L Y=4096):L x=4096:=B.kx.len.trans h
theorem aPS(B:Bg Y x b l a0 v4 v8 a1 a2 a3 a4 a5 a6)(t:L Y=4096){n:Int}(r:∀(u:Int) y,0<=u->(1<=n->u<n)->Bg Y y b l a0 v4 v8 a1 a2 a3 a4 a5 a6->K (iv u) y):cV 115 [.p b 0 0,iv n] x d K:=by obtain⟨s,S,v,j⟩:=B.ex;obtain⟨w,T,A⟩:=B.tp;refine aS3 (aA a6) (B.le t) B.pb T (λq g=>⟨.inl (S.p6 q g).2,?_⟩) λu e y k o i z _ a kp=>r u y k o ⟨⟨s,⟨a.gr S.g1 λq h=>by rw[(S.p1 q h).2];decide,a.gr S.g2 λq h=>by rw[(S.p2 q h).2];decide,a.gr S.g3 λq h=>by rw[(S.p3 q h).2];decide,a.gr S.g4 λq h=>by rw[(S.p4 q h).2];decide,a.gr S.g5 λq h=>by rw[(S.p5 q h).2];decide,?_,S.p1,S.p2,S.p3,S.p4,S.p5,S.p6⟩,v,a.kq j⟩,a.kq B.b4,⟨e,i,by omega⟩,B.kx.kx a (by simp),B.pb,B.no⟩;rcases S.g6 with⟨_,rfl⟩|⟨c,m,rfl,h⟩;simp[aA] at g;grind [aA];rcases S.g6 with h|⟨c,m,rfl,h⟩;exact .inl h;exact .inr ⟨c,m,rfl,kp c (by simp[aA]) _ h⟩
theorem a5S(B:Bg Y x b l a0 v4 v8 a1 a2 a3 a4 a5 a6)(n:L Y=4096){t:Int}(m:∀(u:Int) y,(u= -1\/aF 4 u)->Bg Y y b l a0 v4 v8 a1 a2 a3 a4 a5 a6->K (iv u) y):cB 116 [.p b 0 0, .a [a1,iv t,a2,a3,a4,a5,a6]] x d K:=by obtain⟨s,S,j,A⟩:=B.ex;obtain⟨w,T,D⟩:=B.tp;have o:=B.pb;have v:L s.count=4:=j.2.2.2.2.2.1;refine jH rfl (bdc (B.le n) T S.g6<|by omega) ?_;rintro _ y ⟨u,h,rfl,i,k,C,F⟩;rw[v] at i;have c:∀{a:AV} {e:TypeId} {z:Nat} {r:List (List AV)},qc x e z a r->qc y e z a r:=λg=>g.fx F<|aTE T g;have E:∀{q:Id},q.1≠14->q.1≠15->q.1≠16->q∉[b]:=(by grind);exact⟨F.len,m u y i ⟨⟨s,⟨c S.g1,c S.g2,c S.g3,c S.g4,c S.g5,c S.g6,S.p1,S.p2,S.p3,S.p4,S.p5,S.p6⟩,j,by grind [Fx.keep]⟩,(by grind [Fx.keep,Bg.b4]),⟨h,k,by omega⟩,B.kx.fx F (by simp_all),o,B.no⟩⟩
theorem Bg.wr(B:Bg Y x b l a0 v4 v8 a1 a2 a3 a4 a5 a6){Lw:List Id}(F:Fx x y Lw)(h:∀q∈Lw,ig Y q/\(q.1=6\/q.1=32\/q.1=10\/q.1=14))(i:∀q∈Lw,∀z,box x q=V z->z.var=U->False){s:sA}(S:SnL Y y s a1 a2 a3 a4 a5 a6)(k:sz5 s)(g:∃z,box x (5,v8)=V z/\z=⟨40,7,U,U,[[a1,iv s.gp.tx,a2,a3,a4,a5,a6]]⟩):Bg Y y b l a0 v4 v8 a1 a2 a3 a4 a5 a6:=by obtain⟨a,T,c⟩:=B.tp;obtain⟨z,j,rfl⟩:=g;exact⟨(by grind [Fx.keep]),(by grind [Fx.keep,Bg.b4]),⟨a,T.fx F λe=>i b e _ T.bx rfl,c⟩,B.kx.fx F (by grind [ig.no]),B.pb,B.no⟩
theorem baw(B:Bg Y x b l a0 v4 v8 a1 a2 a3 a4 a5 a6){i v:Int}(o:aF 4 i)(n:0<=v/\v<=400){e:be}(k:∀p y,Bg Y y b l a0 v4 v8 a1 a2 a3 a4 a5 a6->e p y):rV (cz 1 x a6<|iv i) λp=>sV (aK 1 x p<|iv v) (e p):=by obtain⟨s,S,a,g⟩:=B.ex;have q:L s.count=4:=a.2.2.2.2.2.1;refine aR5 S.g6 (by simp_all) λp y F j=>k p y (B.wr F (by grind [SnL.p6]) (aNO S.g6) (s:={s with count:=s.count.set i.toNat v}) ⟨S.g1.fn F S.g6,S.g2.fn F S.g6,S.g3.fn F S.g6,S.g4.fn F S.g6,S.g5.fn F S.g6,j,S.p1,S.p2,S.p3,S.p4,S.p5,S.p6⟩ ⟨a.1,a.2.1,a.2.2.1,a.2.2.2.1,a.2.2.2.2.1,by grind,a.2.2.2.2.2.2.1,λc m=>by rcases CC m with h|rfl;exact a.2.2.2.2.2.2.2 c h;exact n⟩ ⟨_,g,rfl⟩)
theorem bav(B:Bg Y x b l a0 v4 v8 a1 a2 a3 a4 a5 a6){i v:Int}(m:aF 5 i){a:be}(j:∀p y,Bg Y y b l a0 v4 v8 a1 a2 a3 a4 a5 a6->a p y):rV (cz 1 x a4<|iv i) λp=>sV (aK 1 x p<|iv v) (a p):=by obtain⟨s,S,k,c⟩:=B.ex;have n:L s.cells=5:=k.2.2.2.1;refine aR5 S.g4 (by simp_all) λp y F e=>j p y (B.wr F (by grind [SnL.p4]) (aNO S.g4) (s:={s with cells:=s.cells.set i.toNat v}) ⟨S.g1.fn F S.g4,S.g2.fn F S.g4,S.g3.fn F S.g4,e,S.g5.fx F (λq h g=>by have:=(S.p5 q h).2;have:=(S.p4 q g).2;omega),S.g6.fn F S.g4,S.p1,S.p2,S.p3,S.p4,S.p5,S.p6⟩ (by grind [sz5]) ⟨_,c,rfl⟩)
theorem bay(B:Bg Y x b l a0 v4 v8 a1 a2 a3 a4 a5 a6){i v:Int}(m:aF 1 i){a:be}(j:∀p y,Bg Y y b l a0 v4 v8 a1 a2 a3 a4 a5 a6->a p y):rV (cz 1 x a5<|iv i) λp=>sV (aK 1 x p<|iv v) (a p):=by obtain⟨s,S,k,c⟩:=B.ex;have n:L s.bU=1:=k.2.2.2.2.1;refine aR5 S.g5 (by simp_all) λp y F e=>j p y (B.wr F (by grind [SnL.p5]) (aNO S.g5) (s:={s with bU:=s.bU.set i.toNat v}) ⟨S.g1.fn F S.g5,S.g2.fn F S.g5,S.g3.fn F S.g5,S.g4.fx F (λq h g=>by have:=(S.p4 q h).2;have:=(S.p5 q g).2;omega),e,S.g6.fn F S.g5,S.p1,S.p2,S.p3,S.p4,S.p5,S.p6⟩ (by grind [sz5]) ⟨_,c,rfl⟩)
theorem a5T(B:Bg Y x b l a0 v4 v8 a1 a2 a3 a4 a5 a6){i:Int}(e:aF 3 i){j:Nat}{v:AV}(E:(j=0/\∃u:Int,v=iv u)\/(j=1/\∃(u:Int) (t o:Bool),v= .l [[iv u]] t o))(w:∀y,Bg Y y b l a0 v4 v8 a1 a2 a3 a4 a5 a6->KS y):rV (cz 2 x a1<|iv i) λp=>rV (iQ j x p) λG=>sV (aK 1 x G v) KS:=by obtain⟨s,S,a,g⟩:=B.ex;have H:L s.gp.ak=3:=a.1;obtain⟨t,D,C,z,m,n,r⟩:∃t:cg,(cg.c<|gd s.gp.ak i.toNat).set j (nrm<|eR x v)=t.c/\L t.bk<=1/\j<2/\eY (nrm<|eR x v)=V [nrm<|eR x v]/\eN (nrm<|eR x v)=U/\eB v=[]:=(by rcases E with⟨rfl,u,rfl⟩|⟨rfl,u,t,o,rfl⟩;refine⟨⟨u,(gd s.gp.ak i.toNat).bk⟩,rfl,a.2.2.2.2.2.2.1 (gd s.gp.ak i.toNat) (asq ?_),by decide,rfl,rfl,rfl⟩;have:=e.1;have:=e.2;omega;exact⟨⟨(gd s.gp.ak i.toNat).awG,[u]⟩,rfl,by simp,by decide,rfl,rfl,rfl⟩);refine a7V S.g1 (λ_=>rfl) (by simp_all) z m n r D λ_ _ y F k=>w y (B.wr F (by grind [SnL.p1]) (aNO S.g1) (s:={s with gp:={s.gp with ak:=s.gp.ak.set i.toNat t}}) ⟨k,S.g2.fn F S.g1,S.g3.fn F S.g1,S.g4.fn F S.g1,S.g5.fn F S.g1,S.g6.fn F S.g1,S.p1,S.p2,S.p3,S.p4,S.p5,S.p6⟩ ⟨by grind,a.2.1,a.2.2.1,a.2.2.2.1,a.2.2.2.2.1,a.2.2.2.2.2.1,λq A=>?_,a.2.2.2.2.2.2.2⟩ ⟨_,g,rfl⟩);rcases CC A with h|rfl;exact a.2.2.2.2.2.2.1 q h;exact C
theorem bfp{e:TypeId}{z:Nat}{bA:List (List AV)}{r:List AV}{q:Id}{i:Nat}{cs:List AV}(c:box x q=V ⟨e,z,U,I,bA⟩)(g:bA[i]?=V r)(m:L r=z)(n:L cs=z)(o:cs.all eN=U)(k:nrm (eR x<|.a cs)= .a cs)(hI:eB (.a cs)=[])(j:∀Y',Fx x Y' [q]->box Y' q=V ⟨e,z,U,I,bA.set i cs⟩->KS Y'):sV (aK z x (.p q i 0)<|.a cs) KS:=by have h:aK z x (.p q i 0) (.a cs)=V (wr x q ⟨e,z,U,I,bA.set i cs⟩):=(by simp only[aK,aBG,c,eE,brW,hI,kills,aRl,k,pW,eY,g];grind);rw[h];exact j _ (wc c)<|lO c
theorem baC(B:Bg Y x b l a0 v4 v8 a1 a2 a3 a4 a5 a6){i st:Int}(j:aF 4 i)(n:∀y,Bg Y y b l a0 v4 v8 a1 a2 a3 a4 a5 a6->KS y):rV (cz 3 x a3<|iv i) λp=>sV (aK 3 x p<|.a [iv st,iv 0,bv I]) KS:=by obtain⟨s,S,v,k⟩:=B.ex;have z:L s.gp.ay=4:=v.2.2.1;have w:i.toNat<L s.gp.ay:=(by have:=j.1;have:=j.2;omega);refine ixG S.g3 (by simp_all) λq m o t=>?_;refine bfp t (r:=aoC.c<|gd s.gp.ay i.toNat) (by grind [bT]) rfl rfl rfl rfl rfl λy F h=>?_;have e:Fx x y (aA a3):=(by grind [aA]);have g:(s.gp.ay.map aoC.c++m).set i.toNat [iv st,iv 0,bv I]=(s.gp.ay.set i.toNat ⟨st,0,I⟩).map aoC.c++m:=(by rw[List.set_append_left _ _ (by grind),vB];rfl);rw[g] at h;exact n y (B.wr e (by grind [SnL.p3]) (aNO S.g3) (s:={s with gp:={s.gp with ay:=s.gp.ay.set i.toNat ⟨st,0,I⟩}}) ⟨S.g1.fn e S.g3,S.g2.fn e S.g3, .inr ⟨q,m,by rw[o];simp,h⟩,S.g4.fn e S.g3,S.g5.fn e S.g3,S.g6.fn e S.g3,S.p1,S.p2,S.p3,S.p4,S.p5,S.p6⟩ (by grind [sz5]) ⟨_,k,rfl⟩)
end
section
variable{Y x y:ae}{b:Id}{l:List Int}{a0 v4 v8 d:Nat}{a1 a2 a3 a4 a5 a6:AV}{K:be}{KS:ae->Prop}
theorem bat(B:Bg Y x b l a0 v4 v8 a1 a2 a3 a4 a5 a6){i:Int}{f:Bool}(k:aF 4 i){c:AV->be}(h:∀p a y,Bg Y y b l a0 v4 v8 a1 a2 a3 a4 a5 a6->c p a y):rV (cz 3 x a3<|iv i) λp=>rV (iQ 2 x p) λa=>sV (aK 1 x a<|bv f) (c p a):=by obtain⟨s,S,j,e⟩:=B.ex;have m:L s.gp.ay=4:=j.2.2.1;refine a7V S.g3 (λ_=>rfl) (by simp_all) (by decide) rfl rfl rfl (t:={gd s.gp.ay i.toNat with atomic:=f}) rfl λp a y F g=>h p a y (B.wr F (by grind [SnL.p3]) (aNO S.g3) (s:={s with gp:={s.gp with ay:=s.gp.ay.set i.toNat {gd s.gp.ay i.toNat with atomic:=f}}}) ⟨S.g1.fn F S.g3,S.g2.fn F S.g3,g,S.g4.fn F S.g3,S.g5.fn F S.g3,S.g6.fn F S.g3,S.p1,S.p2,S.p3,S.p4,S.p5,S.p6⟩ (by grind [sz5]) ⟨_,e,rfl⟩)
theorem bax(B:Bg Y x b l a0 v4 v8 a1 a2 a3 a4 a5 a6){i:Int}{f:Bool}(g:aF 1 i)(j:∀y,Bg Y y b l a0 v4 v8 a1 a2 a3 a4 a5 a6->KS y):rV (cz 1 x a2<|iv i) λp=>sV (aK 1 x p<|bv f) KS:=by obtain⟨s,S,o,h⟩:=B.ex;have v:L s.gp.done=1:=o.2.1;have t:i.toNat<L s.gp.done:=(by have:=g.1;have:=g.2;omega);refine ixG S.g2 (by simp_all) λq m k n=>?_;refine aQz (x:=bv f) (r:=cb<|gd s.gp.done i.toNat) n (by grind [bT]) (by simp[cb]) rfl rfl rfl λy F e=>?_;have a:Fx x y (aA a2):=(by grind [aA]);have c:(s.gp.done.map cb++m).set i.toNat ((cb<|gd s.gp.done i.toNat).set 0<|nrm<|eR x<|bv f)=(s.gp.done.set i.toNat f).map cb++m:=(by rw[List.set_append_left _ _ (by grind),vB];rfl);rw[c] at e;exact j y (B.wr a (by grind [SnL.p2]) (aNO S.g2) (s:={s with gp:={s.gp with done:=s.gp.done.set i.toNat f}}) ⟨S.g1.fn a S.g2, .inr ⟨q,m,by rw[k];simp,e⟩,S.g3.fn a S.g2,S.g4.fn a S.g2,S.g5.fn a S.g2,S.g6.fn a S.g2,S.p1,S.p2,S.p3,S.p4,S.p5,S.p6⟩ (by grind [sz5]) ⟨_,h,rfl⟩)
theorem baD(B:Bg Y x b l a0 v4 v8 a1 a2 a3 a4 a5 a6){t:Int}(h:∀y,Bg Y y b l a0 v4 v8 a1 a2 a3 a4 a5 a6->KS y):sV (aK 1 x (.p (5,v8) 0 1)<|iv t) KS:=by obtain⟨s,S,k,e⟩:=B.ex;obtain⟨c,T,i⟩:=B.tp;have j:=B.pb;refine A0 e rfl (by simp) λy F g=>h y ⟨⟨{s with gp:={s.gp with tx:=t}},(by have a:=S.keep F (by simp);exact⟨a.g1,a.g2,a.g3,a.g4,a.g5,a.g6,a.p1,a.p2,a.p3,a.p4,a.p5,a.p6⟩),k,g⟩,F.kq B.b4,⟨c,(by grind [Tp.fx]),i⟩,B.kx.fx F (by grind [Bg.no]),j,B.no⟩
theorem baB(B:Bg Y x b l a0 v4 v8 a1 a2 a3 a4 a5 a6):∃st:Nat->Int,∀{i:Int} {K:j4},aF 4 i->K (iv<|st i.toNat)->rV (cz 3 x a3<|iv i) λp=>rV (iQ 0 x p) λn=>rV (vp J x n) K:=by obtain⟨s,S,j,o⟩:=B.ex;have v:L s.gp.ay=4:=j.2.2.1;refine⟨λk=>(gd s.gp.ay k).cQ,λ{i K} a h=>?_⟩;have t:i.toNat<L s.gp.ay:=(by have:=a.1;have:=a.2;omega);refine ixG S.g3 (by simp_all) λq m r e=>?_;have g:(s.gp.ay.map aoC.c++m)[i.toNat]?=V (aoC.c<|gd s.gp.ay i.toNat):=(by grind [bT]);simp only[rR,aC5,e,df,aQd,g,aY,aj,J3,aoC.c,k1A];exact h
theorem aN5(B:Bg Y x b l a0 v4 v8 a1 a2 a3 a4 a5 a6){j:Nat}:iQ j x (.p (5,v8) 0 0)=V (.p (5,v8) 0 j):=by grind [Bg.ex,rR]
theorem aRC(B:Bg Y x b l a0 v4 v8 a1 a2 a3 a4 a5 a6):vp J x (.p (5,v8) 0 0)=V a1:=by grind [Bg.ex,aC5,k1A]
theorem baz(B:Bg Y x b l a0 v4 v8 a1 a2 a3 a4 a5 a6):vp J x (.p (5,v8) 0 2)=V a2:=by grind [Bg.ex,aC5,k1A]
theorem aS0(B:Bg Y x b l a0 v4 v8 a1 a2 a3 a4 a5 a6):vp J x (.p (5,v8) 0 3)=V a3:=by obtain⟨s,S,c,a⟩:=B.ex;grind [aC5,k1A]
def a5U(B:Bg Y x b l a0 v4 v8 a1 a2 a3 a4 a5 a6):vp J x (.p (5,v8) 0 4)=V a4:=by obtain⟨s,S,c,a⟩:=B.ex;rw[aC5,a];simp[k1A]
def baA(B:Bg Y x b l a0 v4 v8 a1 a2 a3 a4 a5 a6):vp J x (.p (5,v8) 0 5)=V a5:=by obtain⟨s,S,c,a⟩:=B.ex;rw[aC5,a];simp[k1A]
def a5V(B:Bg Y x b l a0 v4 v8 a1 a2 a3 a4 a5 a6):vp J x (.p (5,v8) 0 6)=V a6:=by obtain⟨s,S,c,a⟩:=B.ex;rw[aC5,a];simp[k1A]
def a5W(B:Bg Y x b l a0 v4 v8 a1 a2 a3 a4 a5 a6):∃t:Int,vp (V 7) x (.p (5,v8) 0 0)=V (.a [a1,iv t,a2,a3,a4,a5,a6]):=by obtain⟨s,S,e,c⟩:=B.ex;exact⟨s.gp.tx,by rw[aC5,c];rfl⟩
def aV3(B:Bg Y x b l a0 v4 v8 a1 a2 a3 a4 a5 a6):fS x a1=V (iv (3:Nat))/\fS x a4=V (iv (5:Nat))/\fS x a6=V (iv (4:Nat)):=by obtain⟨s,S,a,c⟩:=B.ex;refine⟨?_,?_,?_⟩;rw[S.g1.ln,bJ,a.1];rw[S.g4.ln,bJ,a.2.2.2.1];rw[S.g6.ln,bJ,a.2.2.2.2.2.1]
end
def baP{Y:ae}:aX bH 9 Y [(0,iv 2),(1,iv 2),(2,iv 2),(3,iv 2),(4,iv 0),(5,iv 1),(6,iv 3),(7,iv 4),(8,iv 5)]=V (.l ([2,2,2,2,0,1,3,4,5].map ci) U U,Y):=by kernel_rfl
section
attribute[local irreducible] aX
def bdb{Y:ae}{b:Id}{l:List Int}{a:Nat}(m:L Y=4096)(hb:b.1=14\/b.1=15\/b.1=16)(T:Tp Y b l a):∃r Y1,(∃(s:sA) (E:Nat),r= .a s.c/\sz5 s/\Tp Y1 b l E/\a<=E/\Kx [14,15,16] Y Y1)/\cZ aS GG 55 [.p b 0 0, .a aNE.c] Y r Y1:=by generalize hQ:(λ(r:AV) (y:ae)=>∃(s:sA) (E:Nat),aOo y r= .a s.c/\sz5 s/\Tp (kills y<|aNW r) b l E/\a<=E/\Kx [14,15,16] Y (kills y<|aNW r))=Qq;refine aQR (R:=Qq) ?_ (by grind);refine bhw m rfl λs2 v3 K2 bu nf b3=>?_;have F2:Fx Y s2 []:=K2.fx [];have aJ:=F2.len.trans m;simp only[aSH];refine ic aJ λv4 s4 F4 N4 b4=>?_;have M:=F2.trans F4;have ah:=M.len.trans m;have c3:=F4.kq b3;have aQ:aN (V 6) aNE.c=V (.a aNE.c):=rfl;simp only[qz 4,u0,u1,c3,aQ,J3];refine jH rfl (aXI (w:=aNE) ah (by decide) (by decide) (by decide)<|by decide) ?_;rintro _ s7 ⟨a1,a2,a3,a4,a5,a6,rfl,S,F7⟩;refine⟨F7.len,?_⟩;have aL:=F7.len.trans ah;simp only[qz 6,qy 8];refine ic aL λv8 s9 F9 N8 b8=>?_;refine stW b8 rfl rfl λaR W c8=>?_;have aA:Fx s4 s9 []:=F7.trans F9;have af:Fx Y s9 []:=M.trans aA;have n8:∀z,box Y (5,v8)≠V z:=(N8.old<|M.trans F7).no;have n4:∀z,box Y (4,v4)≠V z:=(N4.old F2).no;have P:Bg Y aR b l a v4 v8 a1 a2 a3 a4 a5 a6:=⟨⟨aH6 aNE,((S.keep F9<|by simp).keep W<|by simp).old M,⟨rfl,rfl,rfl,rfl,rfl,rfl,by decide,by decide⟩,c8⟩,(by grind [Fx.keep]),⟨a,(T.fx af<|by simp).fx W (by grind),dA _⟩,(af.kx<|by simp).fx W (by simp_all),hb,n4,n8⟩;have bj:=P.le m;have aD:∀{x:ae},Bg Y x b l a v4 v8 a1 a2 a3 a4 a5 a6->rV (vp (V 7) x<|.p (5,v8) 0 0) λaw=>sV (aK 7 x (.p (4,v4) 0 0) aw) λab=>rV (vp (V 7) ab<|.p (4,v4) 0 0) λax=>aNN Qq ab [ax]:=λ{x} B=>(by obtain⟨s,S,hz,b8⟩:=B.ex;obtain⟨E,T',ha⟩:=B.tp;have O:=@r7A;simp only[u1,b8,O,aY,J3];refine stW B.b4 rfl rfl λy F aC=>?_;simp only[u1,aC,O,aY];have S':=S.keep F (by simp);show Qq (.a [a1,iv s.gp.tx,a2,a3,a4,a5,a6]) y;rw[<-hQ];refine⟨s,E,?_,hz,(T'.fx F<|by grind).fx (aOp _ _)<|λe=>(S'.ids b e).1.no _ T.bx,ha,(B.kx.fx F<|by simp_all).fx (aOp _ _) λq hq=> .inr (S'.ids q hq).1.no⟩;show AV.a (List.map gK<|List.map (gi y) _)=_;rw[vA];exact brR AV.a S'.lz);have i4:∀{k:Nat},k<4->aF 4 (k:Int):=λh=>⟨by omega,by omega⟩;simp only[qz 10,aN5 P,a5V P,(aV3 P).2.2,aY];refine yV 4 (λ_ _ y=>Bg Y y b l a v4 v8 a1 a2 a3 a4 a5 a6) P ?_;rintro k _ x hk B;rcases t:Q ((k:Int)<((4:Nat):Int)) with _|_;simp only[qz 25,aI,au,av4,aY,t,↓iB,aN5 B,aRC B,(aV3 B).1];refine yV 3 (λ_ _ y=>Bg Y y b l a v4 v8 a1 a2 a3 a4 a5 a6) B ?_;rintro k _ x hk B;rcases t:Q ((k:Int)<((3:Nat):Int)) with _|_;simp only[qz 103,aI,au,av4,aY,t,↓iB];refine bpD (λg=>∀{x:ae},Bg Y x b l a v4 v8 a1 a2 a3 a4 a5 a6->g [] x) ?_ λg X=>?_;intro x B;simp only[qz 159,aI];refine bpD (λg=>∀{x:ae},Bg Y x b l a v4 v8 a1 a2 a3 a4 a5 a6->g [] x) ?_ λg Z=>?_;intro x B;simp only[qz 171,aI,aN5 B,a5U B,(aV3 B).2.1,aY];refine yV 5 (λ_ _ y=>Bg Y y b l a v4 v8 a1 a2 a3 a4 a5 a6) B ?_;rintro k _ x hk B;rcases t:Q ((k:Int)<((5:Nat):Int)) with _|_;simp only[qz 199,qy 54,aI,au,av4,aY,t,↓iB];exact aD B;have o:k<5:=(by grind);simp only[qz 199,qy 54,aI,au,av4,aY,t,↓iC,aN5 B,a5U B];refine aPS B m λu y N G i=>?_;simp only[qz 50,au];refine bav i ⟨by omega,by omega⟩ λp y2 j=>?_;simp only[qz 52];refine dT (by simp[eL,lb,lbV,m8,dC,dK]) ?_;simp only[au,cS,aY];exact yU o j;simp only[qz 173];refine aPS B m λu y N G i=>?_;rcases n:Q (u=2) with _|_;simp only[qz 42,iM,aY,n,↓iB];exact Z i;simp only[qz 42,iM,aY,n,↓iC,aN5 i,baz i];refine bax i ⟨by omega,by omega⟩ λy2 j=>?_;simp only[qz 44,aN5 j,baA j,aY];refine aPS j m λu2 y3 h2 h3 D=>?_;simp only[qz 46];refine bay D ⟨by omega,by omega⟩ λp y4 B5=>?_;simp only[qz 48];refine dT (by simp[eL,lb,lbV,m8,dC,dK]) ?_;exact Z B5;simp only[qz 161];refine aPS B m λu y N G i=>?_;rcases n:Q (u=2) with _|_;simp only[qz 36,iM,aY,n,↓iB];exact X i;obtain⟨t7,O⟩:=a5W i;simp only[qz 36,iM,aY,n,↓iC,O];refine a5S i m λu2 y2 _ j=>?_;simp only[qz 38,qy 40,aN5 j,aY];exact baD j λy3 D=>X D;have o:k<3:=(by grind);simp only[qz 103,aI,au,av4,aY,t,↓iC];refine bpD (λg=>∀y,Bg Y y b l a v4 v8 a1 a2 a3 a4 a5 a6->g [] y) ?_ λg v=>?_;intro y B;simp only[qz 123,aI,au,cS,aY];exact yU o B;obtain⟨t7,O⟩:=a5W B;simp only[qz 125,O,aY];refine a5S B m λu y hu i=>?_;have i3:aF 3 (k:Int):=⟨by omega,by omega⟩;rcases qu:Q (u<0) with _|_;have al:aF 4 u:=(by simp only[aNK] at qu;rcases hu with h|h;omega;exact h);have own:∀{z:ae},Bg Y z b l a v4 v8 a1 a2 a3 a4 a5 a6->rV (cz 2 z a1<|iv k) λp=>rV (iQ 0 z p) λp'=>sV (aK 1 z p'<|iv u) λav=>g [] av:=λ{z} Bz=>a5T Bz i3 (by simp) λy B=>v y B;rcases A:Q ((k:Int)=0) with _|_;rcases n:Q ((k:Int)=2) with _|_;simp only[qz 26,qy 34,au,u0,av4,iM,aOq,qu,A,n,↓jN,a7c,aN5 i,aRC i,bt];exact own i;simp only[qz 26,qy 34,au,u0,av4,iM,aPh,qu,n,↓jA,aUw,bt];refine aPS (d:=85) i m λu2 z N G j=>?_;rcases C:Q (u2=1) with _|_;simp only[u0,iM,C,A,↓jN,a7c,aN5 j,aRC j,bt];exact own j;simp only[au,u0,iM,C,A,aS1,↓jN,a7c,aN5 j,aRC j,qz 30,qy 32,bt];exact a5T j i3 (by simp) λy B=>v y B;have n:Q ((k:Int)=2)=I:=(by simp_all);obtain⟨st,ak⟩:=baB i;simp only[qz 26,qy 34,au,u0,av4,iM,aOq,qu,A,n,↓jA,↓jN,aUw,a7c,aN5 i,aRC i,aS0 i,bt];refine ak al ?_;rcases C:Q (st u.toNat=3) with _|_;simp only[u0,iM,C,↓jA,a7c,aN5 i,aS0 i];refine ak al ?_;rcases q4:Q (st u.toNat=4) with _|_;simp only[u0,iM,q4,bt];exact own i;simp only[u0,iM,q4,bt];exact v _ i;simp only[u0,iM,C,↓jN,aUw,bt];exact v _ i;simp only[qz 26,qy 34,au,u0,av4,iM,qu,bt];exact v _ i;have o:k<4:=(by grind);simp only[qz 25,aI,au,av4,aY,t,↓iC];refine bpD (λg=>∀y,Bg Y y b l a v4 v8 a1 a2 a3 a4 a5 a6->g [] y) ?_ λg v=>?_;intro y B;simp only[qz 45,aI,au,cS,aY];exact yU o B;simp only[qz 47,baP,bQ,qz 12];refine aPS B m λu y N G i=>?_;have ag:=G (by decide);simp only[qz 14,tf,ci,qM,aY];refine⟨⟨N,by simpa using ag⟩,?_⟩;refine btF (λg=>∀st:Int,g [iv st]) (λst=>?_) λg H=>?_;skip;have aE:bM btu aon [(0,iv st)]=V (.a [iv st,iv 0,bv I]):=rfl;simp only[qz 63,aI,au,aN5 i,aS0 i,aE,aY];refine baC i (i4 o) λy i=>?_;rcases A:Q (st≠0) with _|_;simp only[qz 16,au,u0,av6,A,↓jN,a7c,bt];exact v _ i;rcases t:Q (st≠1) with _|_;simp only[qz 16,au,u0,av6,A,t,↓jA,bt];exact v _ i;simp only[qz 16,au,u0,av6,A,t,aN5 i,a5V i,↓jA,bt];refine aPS i m λu y2 N G j=>?_;simp only[qz 18,au,cS,aY];have ag:=G (by decide);refine baw j (i4 o) (by grind [eM]) λp y3 D=>?_;simp only[qz 20];refine dT (by simp[eL,lb,lbV,m8,dC,dK]) ?_;simp only[aN5 D,aS0 D,aY];refine aPS D m λu2 y4 h2 h3 B5=>?_;simp only[qz 22,au,iM,aY];refine bat B5 (i4 o) λp p' y5 B6=>?_;simp only[qz 24];refine dT (by simp[eL,lb,lbV,m8,dC,dK]) ?_;exact v _ B6;simp only[qz 65,au];generalize gd ([2,2,2,2,0,1,3,4,5]:List Int) u.toNat=st;rcases n:Q ((k:Int)=0) with _|_;simp only[u0,iM,n,↓jN,a7c,bt];exact H _;rcases C:Q (st=0) with _|_;simp only[u0,iM,n,C,↓jA,aUw,bt];exact H _;simp only[u0,iM,n,C,↓jA,aUw,bt];exact H _
end
def bfA:dO:=aR3
def bfy:eJ bfA:=aPL
def bcy:=@aPg
section
attribute[local irreducible] aX
def a91:=lA 23 [(5,([23],[0,3,4,6,7,11,12,22])),(8,([],[0,3,4,6,7,11,12,22,23])),(12,([11],[0,3,6,7,12])),(19,([],[0,3,6,7,11,12,14,15]))]
def aVT c a b d e f R:=(.mk _:NS bfA a91 Tryz.f56 [c, .u, .u,d,e] [a,b] f R).p
def bhB{d:AV}{b:List AV}{c:List AV}{e f:AV}{s0:ae}{R:be}(hs:L s0=4096)(l1:L b=7)(g:L c=6)(h:HB2 40 7 6 b 31 6 7 c s0 λj k i=>aVT d j k e f i R):EB 56 [d, .a b, .a c,e,f] s0 R:=zB2 a91 bfy Tryz.func56 hs l1 g h
end
def aNI{Y:ae}{b:Id}{e:TypeId}{z j:Nat}{o v:Bool}{r:List (List AV)}(h:box Y b=V ⟨e,z,o,v,r⟩):iQ j Y (.p b 0 0)=V (.p b 0 j):=by rw[rR,h];simp
def aXM{ds:List AV}{s:sA}(h:Lk ds s.c):∃x0 a x2 d t4 o4 j g m i,ds=[x0,a,x2,d, .l (s.cells.map ci) t4 o4, .l (s.bU.map ci) j g, .l (s.count.map ci) m i]:=by have e:=oC h;obtain⟨h,_⟩:=h;rcases ds with _|⟨x0,_|⟨a,_|⟨x2,_|⟨d,_|⟨n,_|⟨x5,_|⟨o,_|⟨p,ds⟩⟩⟩⟩⟩⟩⟩⟩<;>simp at e;simp only[ji,mU,sA.c,kO] at h;grind [aRH]
theorem Rds.mono{Y:ae}{B:Id}{f:Nat->AV}{m n:Nat}(O:Rds Y B f m)(h:m<=n):Rds Y B f n:=⟨O.bx,(by grind [Rds.gr]),O.dj,O.pl⟩
def a62{Y:ae}{B:Id}{f:Nat->AV}{m d:Nat}{i v:Int}{t o:Bool}{K:AV->be}(O:Rds Y B f m)(hi:0<=i/\i<4)(hd:d=47\/d=103)(hl:L Y=4096)(hm:m<=1000)(Z:B.1=20)(M:∀a Y' z,Rds Y' B z (m+1)->Fx Y Y' (B::aA (f i.toNat))->(∀j,j<4->∀q∈aA (z j),q∈aA (f j)\/ig Y q)->K a (.p B i.toNat 0) Y'):eV (Gy 3 fB 8 Y d (f i.toNat)<|.l [[iv v]] t o) λa c=>rV (cz 1 c (.m B 4)<|iv i) λp=>sV (aK 1 c p a) (K a p):=by have r:i.toNat<4:=(by omega);obtain⟨ns,T,g⟩:=O.gr _ r;refine qs g rfl (by decide) (by omega) pU (by simp) (by simp) (by simp;omega) λa c E n W=>?_;have A:∀j,j<4->B∉aA (f j):=(by grind [Rds.pl]);have F:=n.keep _ _ (A _ r) O.bx;have C:cz 1 c (.m B 4) (iv i)=V (.p B i.toNat 0):=(by grind [cz]);rw[C];have P:B∉aA a:=(by grind);refine Bp F (uU r) (ms E) rfl (by simp) λu s G=>?_;have w:box u B=V ⟨38,1,U,U,io 4 λj=>[if j=i.toNat then a else f j]⟩:=(by rw[G,Bl];grind);have R:∀j,j<4->∀q∈aA (f j),q∉aA a:=(by grind [Rds.gr,aTi,ig.no]);refine M a u _ ⟨w,λj e=>?_,λj k e hk S q D=>?_,λj e q D=>?_⟩ ((n.trans s).mono<|by grind) λj e q D=>?_;by_cases h:j=i.toNat;subst h;simp only[aPI];refine⟨ns++[v],by simp;omega,?_⟩;grind [bc.p,bc.fx];simp only[j5 h];obtain⟨N,X,H⟩:=O.gr j e;exact⟨N,by omega,(H.fx n<|by grind [Rds.dj]).fx s<|by grind⟩;grind [Rds.dj];grind [Rds.pl];grind
def bc6{n:Int}:m8 (iv n)=[]:=rfl
structure PlS(Y x:ae)(b:Id)(l:List Int)(v6 v7:Nat)(B:Id)(f:Nat->AV)(k:Nat):Prop where
 b6:∃ds s,box x (6,v6)=V ⟨40,7,U,U,[ds]⟩/\Lk ds s.c/\vH k s/\L s.cells=5/\L s.bU=1/\L s.count=4
 b7:box x (7,v7)=V ⟨31,6,U,U,[aNE.c]⟩
 tp:∃a',Tp x b l a'
 kx:Kx [14,15,16] Y x
 rd:Rds x B f (k+1)
 nw:∀i,i<4->∀q∈aA (f i),∀z,box Y q≠V z
 no:(∀z,box Y (6,v6)≠V z)/\∀z,box Y B≠V z
 pb:b.1=16/\B.1=20
section
variable{Y x y:ae}{b B:Id}{l:List Int}{v6 v7 k:Nat}{f:Nat->AV}
theorem PlS.fx(P:PlS Y x b l v6 v7 B f k){Lw:List Id}(F:Fx x y Lw)(h:∀q∈Lw,q.1≠6/\q.1≠7/\q.1≠16/\q.1≠20/\q.1≠47/\q.1≠103)(g:∀q∈Lw,q.1=14\/q.1=15\/∀z,box Y q≠V z):PlS Y y b l v6 v7 B f k:=by obtain⟨ds,s,d,e⟩:=P.b6;obtain⟨a,T⟩:=P.tp;have c:=P.pb;exact⟨(by grind [Fx.keep]),(by grind [Fx.keep,PlS.b7]),⟨a,by grind [Tp.fx]⟩,P.kx.fx F (by grind),P.rd.fx F (by grind),P.nw,P.no,c⟩
theorem PlS.kxx(P:PlS Y x b l v6 v7 B f k)(K:Kx [14,15,16] x y){a:Nat}(T:Tp y b l a):PlS Y y b l v6 v7 B f k:=by obtain⟨ds,s,c,d⟩:=P.b6;exact⟨(by grind [Kx.keep]),K.kq P.b7,⟨a,T⟩,P.kx.kx K (by simp),P.rd.kx K (by grind [PlS.pb]),P.nw,P.no,P.pb⟩
theorem PlS.tape(P:PlS Y x b l v6 v7 B f k)(F:Fx x y [b]){a:Nat}(T:Tp y b l a):PlS Y y b l v6 v7 B f k:=(by grind [PlS.kxx,Fx.kx,PlS.pb])
theorem PlS.reads(P:PlS Y x b l v6 v7 B f k){a:Nat->AV}{i:Nat}(p:i<4)(R:Rds y B a<|k+2)(F:Fx x y (B::aA (f i)))(o:∀j,j<4->∀q∈aA (a j),q∈aA (f j)\/ig x q){d:Nat}(A:k+1<=d)
  (n:∃ds s,box x (6,v6)=V ⟨40,7,U,U,[ds]⟩/\Lk ds s.c/\vH d s/\L s.cells=5/\L s.bU=1/\L s.count=4):PlS Y y b l v6 v7 B a d:=by
 obtain⟨ds,s,v,w⟩:=n
 obtain⟨m,T⟩:=P.tp
 have r:=P.pb
 have pl:=P.rd.pl i p
 have C:∀{q:Id},q.1≠20->q.1≠47->q.1≠103->q∉B::aA (f i):=(by grind)
 exact⟨(by grind [Fx.keep]),(by grind [Fx.keep,PlS.b7]),⟨m,by grind [Tp.fx]⟩,P.kx.fx F (by grind [PlS.no,PlS.nw]),R.mono (by omega),λj g q t=>by
   rcases o j g q t with h|h
   ·exact P.nw j g q h
   ·intro z u
    by_cases e:q.1∈[14,15,16]
    ·grind [Rds.pl]
    ·exact h.no _ (P.kx.keep _ _ e u),P.no,r⟩
end
def tpM(b:Id)(y:ae):Nat:=((box y b).map λx=>match x.bA with|[[.l bA _ _, .s (.int _ n)]]=>L bA-n.toNat|_=>0).getD 0
theorem aTD{Y:ae}{b:Id}{l:List Int}{a:Nat}(T:Tp Y b l a):tpM b Y=L l-a:=by simp only[tpM,T.bx];show L (l.map cu)-(a:Int).toNat=_;simp
def bfl{k:Nat}{s:sA}{e:aP}(h:vH k s)(i:k<1000)(a:be3 aNE s e=U)(g:L s.cells=5)(c:L s.bU=1)(d:L s.count=4):vH (k+1) (nD aNE s e)/\L (nD aNE s e).cells=5/\L (nD aNE s e).bU=1/\L (nD aNE s e).count=4:=by refine⟨h.step (by omega),?_⟩;grind [nD,oc]
section
attribute[local irreducible] aX
def LeN(n:Int)(k:Nat):Prop:=k<=16/\((k:Int)<=n\/k=0)
def bdm{Y:ae}{b:Id}{l:List Int}{a:Nat}{ds:List AV}{s:sA}{n:Int}(K:L Y=4096)(hb:b.1=16)(T:Tp Y b l a)(hL:Lk ds s.c)(hS:vH 0 s)(h5:L s.cells=5)(h1:L s.bU=1)(h4:L s.count=4)(hn:n<=16):∃r Y1,(∃t:List aP,r= .l (t.map aP.c) I I/\LeN n (L t)/\(∀e∈t,EvL e)/\Kx [14,15,16] Y Y1)/\cZ aS GG 56 [.p b 0 0, .a ds, .a aNE.c,iv n,bv U] Y r Y1:=by generalize hQ:(λ(r:AV) (y:ae)=>∃t:List aP,aOo y r= .l (t.map aP.c) I I/\LeN n (L t)/\(∀e∈t,EvL e)/\Kx [14,15,16] Y (kills y<|aNW r))=Qq;refine aQR (R:=Qq) ?_ (by grind);refine bhB K (oC hL) rfl λs4 v6 v7 K4 c7 b4 c8 W X=>?_;have F4:Fx Y s4 []:=K4.fx [];have c4:=F4.len.trans K;have cm:aN J (List.drop 4 aNE.c)=V (sl cs aNE.ay):=rfl;have bY:∀{Y:ae},fS Y (sl cs aNE.ay)=V (iv (4:Nat)):=rfl;simp only[aVT,u0,u1,X,cm,bY,aj,↓uL];refine AP (by decide) (by decide) (by omega) (by decide) λB s9 hB NB F9 bB=>?_;have aR:=F4.trans F9;have P0:PlS Y s9 b l v6 v7 B (λ_=> .l [] U U) 0:=⟨(by grind [Fx.keep]),F9.kq X,⟨a,T.fx aR<|by simp⟩,aR.kx (by simp),⟨by rw[bB];rfl,λi hi=>⟨[],by simp, .inl ⟨rfl,rfl⟩⟩,by simp[aA],by simp[aA]⟩,by simp[aA],⟨b4,(NB.old F4).no⟩,hb,hB⟩;have bi:∀{x:ae} {f:Nat->AV} {k:Nat},PlS Y x b l v6 v7 B f k->fS x (.m B 4)=V (iv (4:Nat)):=λ{x f k} P=>(by simp[fS,P.rd.bx]);simp only[qz 6,bi P0,aY,↓uL];have a7:∀{e:aP},aN (V 7) e.c=V (.a e.c):=rfl;have a8:aN (V 6) aNE.c=V (.a aNE.c):=rfl;refine yV 4 (λk _ y=>∃f,PlS Y y b l v6 v7 B f k) ⟨_,P0⟩ ?_;rintro k _ x hk ⟨f,P⟩;rcases q1:Q ((k:Int)<((4:Nat):Int)) with _|_;(focus simp only[qz 31,aI,au,av4,aY,q1,↓iB,↓uL];have bW:k=4:=(by grind);subst bW;let o:aG:=λvs y=>∃(v:AV) (t:List aP) (f:Nat->AV),vs=[v]/\LeN n (L t)/\(∀e∈t,EvL e)/\qc y 62 7 v (t.map aP.c)/\(∀q∈aA v,q.1=108/\∀z,box Y q≠V z)/\PlS Y y b l v6 v7 B f (4+L t);refine⟨o,λ_ y=>tpM b y,⟨_,[],f,rfl,⟨by simp, .inr rfl⟩,by simp, .inl ⟨rfl,rfl⟩,by simp[aA],P⟩,?_⟩;rintro _ x ⟨v,t,f,rfl,a4,aD,g,po,P⟩;generalize hI:o=I';obtain⟨a',N⟩:=P.tp;have aF:=P.kx.len.trans K;have aE:fS x v=V (iv<|L t):=(by rw[g.ln,bJ]);have aJ:aNN Qq x [v]:=(by show Qq v x;rw[<-hQ];have ei:aNW v=aA v:=(by have:=aQX g;rcases g with⟨_,rfl⟩|⟨c,m,rfl,_⟩<;>rfl);have ef:aOo x v= .l (t.map aP.c) I I:=(by rw[<-g.ar];rcases g with⟨_,rfl⟩|⟨c,m,rfl,_⟩<;>rfl);refine⟨t,ef,a4,aD,?_⟩;rw[ei];exact P.kx.fx (aOp _ _)<|by simp_all);rcases q1:Q ((L t:Int)<n) with _|_;simp only[qz 73,aI,au,aE,u0,u1,q1,J3,↓jN,a7c,bt,↓uL];exact aJ;rcases q2:Q ((a':Int)<(L l:Int)) with _|_;simp only[qz 73,aI,au,aE,u0,u1,qb N.bx,N.bx,q1,q2,k1A,nM,J3,aj,↓jA,bt,↓uL];exact aJ;have cJ:L t<16:=(by grind);have c3:a'<L l:=(by simp_all);obtain⟨av,s',ap,ac,a1,a0,bC,bH⟩:=P.b6;obtain⟨x0,x1,x2,x3,t4,o4,t5,o5,t6,o6,bR⟩:=aXM ac;have cl:aN (V 7) av=V (.a av):=(by rw[bR];rfl);simp only[qz 73,aI,au,aE,u0,u1,qb N.bx,N.bx,q1,q2,ap,P.b7,cl,a8,k1A,nM,J3,aj,↓jA,bt,↓uL];refine jH rfl (bdf aF (.inr<|.inr hb) hB N ac (by have:=a1.sy.th;omega) a0 (by omega)<|P.rd.mono<|by omega) ?_;rintro _ y ⟨e,a2,rfl,he,ad,T2,_,cI,K2⟩;refine⟨K2.len,?_⟩;have G:=P.kxx K2 T2;have b1:=G.kx.len.trans K;have g2:qc y 62 7 v (t.map aP.c):=(by grind [Kx.gr]);simp only[qz 16,qy 18,↓uL];refine ic b1 λE y1 G1 c1 bu=>?_;refine stW bu rfl rfl λy2 G2 aV=>?_;have P3:=(G.fx G1 (by simp)<|by simp).fx G2 (by simp) (by simp);have g3:=(g2.fx G1<|by simp).fx G2 (by grind);have T3:Tp y2 b l a2:=(T2.fx G1<|by simp).fx G2 (by grind);obtain⟨aw,s3,aU,O,a3,bI,bD,aZ⟩:=P3.b6;obtain⟨z0,z1,z2,z3,db,c9,dd,da,cp,b5,aC⟩:=aXM O;have bl:aN (V 7) aw=V (.a aw):=(by rw[aC];rfl);have bs:∀{Y:ae},dG Y (.a aw)= .a s3.c:=λ{Y}=>O.arg Y;obtain⟨ca,cb,cd,cf,cg,ch,cj⟩:=a3.snB (by omega);simp only[qz 20,qy 22,u0,u1,aU,P3.b7,aV,bl,a8,a7,J3,bcy,ar,bs,↓uL];refine⟨⟨by decide,ca,cb,cd,cf,cg,ch,cj,by have:=he.1;omega,by have:=he.2;omega⟩,?_⟩;rintro _ ⟨cs,rfl,aB⟩;refine⟨by rw[lo,nA];exact .inl (by simp[x9 O];simp[eB,iR,aP.c,J9.c,sl]),?_⟩;simp only[oJ,pG,aY,↓uL];have bj:=P3.kx.len.trans K;refine ic bj λcq y3 G3 c2 bw=>?_;refine stW bw rfl (oC aB) λM G4 aW=>?_;have C:=(P3.fx G3 (by simp)<|by simp).fx G4 (by simp) (by simp);have g4:=(g3.fx G3<|by simp).fx G4 (by grind);have T4:Tp M b l a2:=(T3.fx G3<|by simp).fx G4 (by grind);have H:=G4.kq<|G3.kq aV;have ab:=G4.kq<|G3.kq aU;rcases b2:be3 aNE s3 e with _|_;simp only[qz 24,aIN,u0,↓iC,↓uL];rw[<-hI];exact⟨⟨v,t,f,rfl,a4,aD,g4,po,C⟩,by grind [aTD]⟩;have a5:=bfl a3 (by omega) b2 bI bD aZ;have ck:aN (V 7) cs=V (.a cs):=(by grind [oC,aN]);have up:∀{y:ae} {f:Nat->AV},PlS Y y b l v6 v7 B f (4+L t)->PlS Y y b l v6 v7 B f (4+(L t+1)):=λ{y f} P=>(by obtain⟨ds,s,h1,h2,D,h4⟩:=P.b6;exact⟨⟨ds,s,h1,h2,⟨D.sy.mono (by omega),D.ce,D.fu,D.co,λc hc=>by have:=D.cn c hc;omega⟩,h4⟩,P.b7,P.tp,P.kx,P.rd.mono (by omega),P.nw,P.no,P.pb⟩);simp only[qz 24,aIN,u0,↓iB,↓uL];refine bpD (λj=>∀{z:ae} {f':Nat->AV},PlS Y z b l v6 v7 B f' (4+(L t+1))->(∃d,box z (6,v6)=V ⟨40,7,U,U,[d]⟩/\L d=7)->box z (14,E)=V ⟨62,7,U,U,[e.c]⟩->box z (15,cq)=V ⟨40,7,U,U,[cs]⟩->qc z 62 7 v (t.map aP.c)->Tp z b l a2->j [] z) (λ{z f'} P h6 bF bG g T=>?_) λj a6=>?_;obtain⟨d6,h6,bO⟩:=h6;have bM:aX btV 1 z [(0, .a e.c)]=V (.l ([e].map aP.c) U U,z):=ua rfl rfl rfl (by decide) (by simp[aP.c,eN,sl]) (by decide);have af:∀{l:List aP},∀r∈l.map aP.c,L r=7:=qW (by intro _;rfl);simp only[qz 117,qy 32,aI,au,u0,u1,bF,a7,bM,J3,↓uL];refine apQ g (P.kx.len.trans K) af af (by simp) (by simp;omega) λout' z1 g1 F1 p1=>?_;have Z:∀{q:Id},q.1≠108->q∉aA v:=(by grind);have bc:=F1.keep _ _ (Z<|by simp) bG;have bK:=F1.keep _ _ (Z<|by simp) h6;have P1:=P.fx F1 (λq A=>by rw[(po q A).1];decide) (by grind);simp only[qz 34,qy 36,u0,u1,bc,ck,J3,↓uL];refine stW bK bO (oC aB) λz2 S c6=>?_;have aT:Tp z2 b l a2:=(T.fx F1<|Z<|by omega).fx S (by grind);have b9:∀q∈aA out',q.1=108/\∀w,box Y q≠V w:=λq A=>⟨(p1 q A).2,λw hw=>(p1 q A).1.no w<|P.kx.keep _ _ (by rw[(p1 q A).2];decide) hw⟩;rw[<-hI];refine⟨⟨out',t++[e],f',rfl,⟨by simp;omega, .inl (by have:=aNR q1;simp;omega)⟩,λy hy=>?_,?_,b9,?_⟩,by rw[aTD aT,aTD N];omega⟩;rcases dF.1 hy with h|h;exact aD y h;grind;rw[dg];exact g1.p.fx S (by grind);rw[a6G];exact⟨⟨cs,_,c6,aB,(show 4+L t+1=4+(L t+[e].length) from rfl)▸a5.1,a5.2⟩,S.kq P1.b7,⟨a2,aT⟩,P1.kx.fx S (by grind),P1.rd.fx S (λq A=>by simp at A;subst A;grind),P1.nw,P1.no,P1.pb⟩;have hu:e.aq.toNat<4:=(by omega);have f1:iQ 1 M (.p (14,E) 0 0)=V (.p (14,E) 0 1):=(by grind [rR]);have l1:vp J M (.p (14,E) 0 1)=V (iv e.kind):=(by rw[aC5,H];rfl);rcases q3:Q (e.kind=3) with _|_<;>rcases cc:Q (e.kind=23) with _|_<;>simp only[qz 119,qy 26,u0,f1,l1,iM,q3,cc,↓jA,↓jN,aUw,a7c,bt,↓uL];exact a6 (up C) ⟨_,ab,oC O⟩ H aW g4 T4;all_goals have f0:iQ 0 M (.p (14,E) 0 0)=V (.p (14,E) 0 0):=(by grind [rR]);have l0:vp J M (.p (14,E) 0 0)=V (iv e.aq):=(by rw[aC5,H];rfl);have f6:iQ 6 M (.p (6,v6) 0 0)=V (.p (6,v6) 0 6):=(by rw[rR,ab];rfl);have l6:vp J M (.p (6,v6) 0 6)=V (.l (s3.count.map ci) cp b5):=(by rw[aC5,ab,aC];rfl);have bT:cz 1 M (.m B 4) (iv e.aq)=V (.p B e.aq.toNat 0):=(by simp[cz,ad.1,C.rd.bx,hu]);have bX:vp J M (.p B e.aq.toNat 0)=V (f e.aq.toNat):=(by simp[vp,iE,C.rd.bx,uU hu,aN]);simp only[f0,l0,f6,l6,bT,bX,aY,tf,ci,qM,aS1,bQ,↓uL];refine⟨⟨ad.1,by rw[aZ];exact ad.2⟩,?_⟩;obtain⟨ns,c5,bA⟩:=C.rd.gr _ hu;have hk:=(SlR.of bA).keys (P:=λp=>p=47\/p=103) (λq A=>C.rd.pl _ hu q A);refine a62 C.rd ad (.inr rfl) (C.kx.len.trans K) (by omega) hB λa' z f' R F hf=>?_;simp only[qz 30,↓uL];refine dT ?_ ?_;rcases hk with e1|⟨p,e1,rfl|rfl⟩<;>simp[eL,lb,e1,aTn,a6H,bc6];have h1:=C.rd.pl _ hu;have ne:∀{q:Id},q.1≠20->q.1≠47->q.1≠103->q∉B::aA (f e.aq.toNat):=λ{q} n1 n2 n3 A=>(by rcases eW.1 A with rfl|h;exact n1 hB;rcases h1 _ h with e|e<;>omega);exact a6 (C.reads hu R F hf (by omega) (up C).b6) ⟨_,F.keep _ _ (by grind) ab,oC O⟩ (F.keep _ _ (by grind) H) (F.keep _ _ (by grind) aW) (g4.fx F λq A=>ne (by grind) (by grind)<|by grind)<|T4.fx F<|ne (by omega) (by omega)<|by omega);have b0:k<4:=(by grind);have up:∀{y:ae} {f:Nat->AV},PlS Y y b l v6 v7 B f k->PlS Y y b l v6 v7 B f (k+1):=λ{y f} P=>(by obtain⟨ds,s,h1,h2,D,h4⟩:=P.b6;exact⟨⟨ds,s,h1,h2,⟨D.sy.mono (by omega),D.ce,D.fu,D.co,λc hc=>by have:=D.cn c hc;omega⟩,h4⟩,P.b7,P.tp,P.kx,P.rd.mono (by omega),P.nw,P.no,P.pb⟩);obtain⟨av,s',ap,ac,a1,a0,bC,bH⟩:=P.b6;obtain⟨x0,x1,x2,x3,t4,o4,t5,o5,t6,o6,rfl⟩:=aXM ac;have aF:=P.kx.len.trans K;simp only[qz 31,aI,au,av4,aY,q1,↓iC,↓uL];refine bpD (λj=>∀{y:ae} {f:Nat->AV},PlS Y y b l v6 v7 B f (k+1)->j [] y) (λ{y f} P=>?_) λj nx=>?_;simp only[qz 51,aI,au,cS,aY,↓uL];exact yU b0 ⟨_,P⟩;simp only[qz 53,qy 10,u0,u1,ap,k1A,nM,J3,aj,tf,ci,qM,↓jA,aUw,↓uL];refine⟨⟨by omega,by omega⟩,?_⟩;rcases q2:Q (1<gd s'.count ((k:Int)).toNat) with _|_;simp only[u0,aOq,↓jN,a7c,bt,↓uL];exact nx<|up P;simp only[u0,aPh,↓jA,aUw,↓uL];obtain⟨a',N⟩:=P.tp;refine aPu (d:=37) aF N λu a2 y _ _ T2 _ S=>?_;have G:=P.tape S T2;rcases q3:Q (u=2) with _|_;simp only[u0,u1,q3,bt,↓uL];exact nx<|up G;simp only[u0,iM,q3,bt,↓uL];refine G.rd.rd (by omega) ?_;simp only[aS1,bQ];refine a62 G.rd (by omega) (.inl rfl) (G.kx.len.trans K) (by omega) hB λa' z f' R F hf=>?_;exact nx (G.reads (by omega) R F hf (dA _) (up G).b6)
end
def vq(w:J9)(l:List aP):Nat->sA|0=>aH6 w|k+1=>nD w (vq w l k)<|gd l k
structure aN4(w:J9)(l:List aP):Prop where
 wv:mQ w=U
 ln:L l<=400
 st:∀k,k<L l->be3 w (vq w l k) (gd l k)=U
 dp:∀k,k<L l->∀n∈(gd l k).dI,aOE l k (gd l k).aq n
 fr:∀k,k<L l->∀n∈(gd l k).ep,aOE l k (gd l k).aq n
def a6b{l:List aP}{t:Int}{i m:Nat}:bkk l t (i+m)=bkk l t i+bkk (l.drop i) t m:=by simp only[bkk,List.take_add,List.filter_append,a6G]
def a6Y(t:Int):∀(l:List aP) (j i:Nat),j<L l->(gd l j).aq=t->pS t l (bkk l t j) i=((i+j:Nat):Int)
 |[],j,i,h,_=>by simp at h
 |e::l,0,i,_,h=>by
  have b:e.aq=t:=h
  simp[pS,bkk,b]
 |e::l,j+1,i,h,c=>by
  have a:(gd l j).aq=t:=by grind [gd]
  have d:=a6Y t l j (i+1) (by simpa using h) a
  grind [pS,bkk]
def aXY{α:Type}{n:Nat}{x y:α}(h:y∈er n x):y=x:=(by simp_all)
theorem aTg{α:Type}[Inhabited α]{n j:Nat}{x:α}(h:j<n):gd (er n x) j=x:=by grind [bT]
def bcG{n j:Nat}(h:j<n):gd (qZ n) j=⟨if j=0 then 1 else 0,0,I⟩:=by grind [bT,qZ]
def a7j:∀n:Nat,(er n (0:Int)).sum=0
 |0=>rfl
 |n+1=>by simp
theorem a7R{w:J9}(h:mQ w=U):∀j,j<L w.bC->uh w j=I:=by grind [mQ]
theorem SI.start{w:J9}(h:mQ w=U):SI w (aH6 w) 0:=by have n:=a7R h;refine⟨?_,?_,?_,?_,?_,?_,?_⟩;simp only[fN,lh,aH6,bN,yp];grind [qZ,ou,uh,bT];intro c k;rw[aXY k];omega;exact a7j _;intro j g;have a:j<L w.ay:=(by grind [aH6,qZ]);have e:gd (aH6 w).gp.ay j=⟨if j=0 then 1 else 0,0,I⟩:=bcG a;have m:gd (aH6 w).count j=0:=aTg a;by_cases b:j=0;subst b;simp only[aPI] at e;exact⟨by rw[e];simp,by simp_all,by rw[e];simp,by rw[e];simp,by rw[e];simp,by rw[e];simp⟩;rw[j5 b] at e;exact⟨by rw[e];simp,by simp_all,λd=>aPo d b,by rw[e];simp,by rw[e];simp,by rw[e];simp⟩;intro j g;have a:j<L w.ak:=(by grind [aH6]);have e:gd (aH6 w).gp.ak j=⟨-1,[]⟩:=aTg a;exact⟨by simp_all,by simp_all,by simp_all,by rw[e];intro i f;simp at f⟩;intro h;exact aPo rfl h;grind [aH6,aTg]
section
variable{w:J9}{l:List aP}
theorem aN4.si(h:aN4 w l):∀k,k<=L l->SI w (vq w l k) k
 |0,_=>SI.start h.wv
 |k+1,a=>by
  have b:=h.si k (by omega)
  have c:=h.st k a
  have e:vq w l (k+1)=oc w (vq w l k) (gd l k):=by grind [vq,nD]
  grind [SI.step,a7R,aN4.wv,aN4.ln]
theorem aN4.thr(h:aN4 w l){k:Nat}(a:k<L l):aF (L w.ay) (gd l k).aq:=by have b:=h.st k a;grind [be3,aOL,dX]
theorem aN4.cnt(h:aN4 w l){t:Nat}(c:t<L w.ay):∀k,k<=L l->gd (vq w l k).count t=bkk l t k
 |0,_=>by
  grind [aH6,aTg,vq,bkk]
 |k+1,a=>by
  have n:=h.cnt c k (by omega)
  have i:=h.st k a
  have b:=h.thr a
  have hs:=h.si k (by omega)
  have d:L (vq w l k).count=L w.ay:=by
   have:=hs.fit
   grind [fN]
  have e:vq w l (k+1)=oc w (vq w l k) (gd l k):=by grind [vq,nD]
  rw[e,aV8<|by omega]
  simp only[oc]
  rw[gdS]
  have j:=aWu hs.c0
  have f:=h.ln
  by_cases m:(gd l k).aq=(t:Int)
  ·grind [a6c,eM]
  ·have g:¬(gd l k).aq.toNat=t:=by have:=b.1;omega
   simp_all
theorem a7P(h:aN4 w l){i m:Nat}{st:Int}:∀k,k<=m->cY ⟨w,st,vq w l i,(l.drop i).take m⟩ k=vq w l (i+k)
 |0,_=>rfl
 |k+1,a=>by
  have b:=a7P h (i:=i) (m:=m) (st:=st) k (by omega)
  grind [cY,gd,vq]
theorem aWv{i m k:Nat}(a:k<m):gd ((l.drop i).take m) k=gd l (i+k):=by grind [gd]
theorem a63(h:aN4 w l){i m k:Nat}{st:Int}(r:i<=L l)(D:k<m)(v:i+k<L l){t n:Int}(e:aF (L w.ay) t)(s:aOE l (i+k) t n):qU ⟨w,st,vq w l i,(l.drop i).take m⟩ t n=U:=by obtain⟨j,z,p,A,B⟩:=s;obtain⟨a,rfl⟩:∃a:Nat,t=a:=⟨t.toNat,by have:=e.1;omega⟩;have f:a<L w.ay:=(by have:=e.2;omega);have C:=h.cnt f i r;unfold qU;simp only[bh];rcases Decidable.em (n<gd (vq w l i).count a) with c|c;simp[c];have u:i<=j:=(by rcases jj j i with b|b;exfalso;have:bkk l a (j+1)<=bkk l a i:=(by obtain⟨d,rfl⟩:∃d,i=j+1+d:=⟨i-(j+1),by omega⟩;simp_all [a6b]);grind [aV8];exact b);obtain⟨d,rfl⟩:∃d,j=i+d:=⟨j-i,by omega⟩;have q:d<m:=(by omega);have g:bkk ((l.drop i).take m) a d=bkk (l.drop i) a d:=(by grind [bkk]);have x:=@a6b l a i d;have o:=a6Y a ((l.drop i).take m) d 0 (by simp only[gC,oz];omega) (by rw[aWv q];exact p);have y:oV ⟨w,st,vq w l i,(l.drop i).take m⟩ a (n-gd (vq w l i).count a)=(d:Int):=(by unfold oV;simp only;rw[show n-gd (vq w l i).count a=((bkk ((l.drop i).take m) a d:Nat):Int) by rw[g];omega,o];simp);grind [aWv]
theorem bau{a:gz}{t:Int}:bg a.init t->nO a t=U:=λh=>by
 simp only[nO,bN,yp]
 exact⟨dX.2 h.1,h.2⟩
theorem bhG(h:aN4 w l){i m:Nat}(u:i<=L l)(D:m<=16):bcV ⟨w,i,vq w l i,(l.drop i).take m⟩=U:=by have hs:=h.si i u;have A:=h.ln;have B:L ((l.drop i).take m)<=L l-i:=(by grind);have C:L ((l.drop i).take m)<=m:=(by grind);generalize e:(⟨w,i,vq w l i,(l.drop i).take m⟩:gz)=W;have d:W.aQ=w:=(by rw[<-e]);have b:W.init=vq w l i:=(by rw[<-e]);have v:W.start=i:=(by rw[<-e]);have p:W.ac=(l.drop i).take m:=(by rw[<-e]);have n:∀t,bg (vq w l i) t->nO W t=U:=(by grind [bau]);simp only[bcV,oh,bN,eH,cP,fK,yp,aNK];refine⟨⟨⟨⟨⟨⟨?_,?_⟩,?_⟩,?_⟩,?_⟩,?_⟩,?_,?_⟩;rw[d];exact h.wv;grind [SI.fit];grind;simp only[rM,bN,yp];rw[b,v,p,hs.sum];refine⟨λc o=>⟨hs.c0 c o,?_⟩,rfl,by omega⟩;obtain⟨j,a,rfl⟩:=ou o;have:=(aWu hs.c0 j).1;grind [SI.sum,bT];simp only[uZ,yp];rw[b];intro j a;have S:=hs.st j a;obtain⟨E,F⟩:=S.r;simp only[aOK,Eu,zX,d,b,bN,eH,cP,aNK,bik,fK,beq_iff_eq];grind [StI.fr,StI.z,dX,StI.wt,StI.nw];simp only[ny,bN,yp,eH];refine⟨λj a=>?_,?_,λj a=>?_⟩;rw[b] at a;have Lw:=hs.lk j a;refine⟨?_,λk g=>?_⟩;simp only[AM,d,b,cP,bik,aNK,fK,aNS];grind [LcI.ow,LcI.rd];rw[b] at g⊢;refine⟨n _<|Lw.rb _<|asq g,λf=>?_⟩;have:=Lw.inc (k-1) (by omega);grind;simp only[yS,b,bik,aNK,aNS,fK];grind [SI.tx];rw[b] at a;have S:=hs.st j a;simp only[pX,d,b,bN,eH,bik,fK,cP,aNK];refine⟨?_,?_⟩;grind [StI.at'];rcases Decidable.em ((gd (vq w l i).gp.ay j).cQ=3\/(gd (vq w l i).gp.ay j).cQ=4) with f|f;exact .inr (S.wt f).2;omega;rw[b];intro j a;have:=hs.fu j a;grind [Ae];rw[p];intro k g;have y:k<m:=(by omega);have x:i+k<L l:=(by omega);have q:gd W.ac k=gd l (i+k):=(by grind [aWv]);have s:cY W k=vq w l (i+k):=(by grind [a7P]);simp only[xH,q,s,d,cP,fK,yp];grind [aN4.st,a63,aN4.thr,aN4.dp,aN4.fr]
end
def aXL(s:sA):Lk s.c s.c:=⟨rfl,rfl⟩
def bfm{s:sA}(h:sz5 s):vH 0 s:=⟨⟨by rw[h.1];decide,by rw[h.2.1];decide,by rw[h.2.2.1];decide,λl b=>by have:=h.2.2.2.2.2.2.1 l b;omega⟩,by rw[h.2.2.2.1];decide,by rw[h.2.2.2.2.1];decide,by rw[h.2.2.2.2.2.1];decide,λc a=>by have:=h.2.2.2.2.2.2.2 c a;omega⟩
def w00:gz:=⟨aNE,0,aH6 aNE,[]⟩
def bfG:bcV w00=U:=by kernel_rfl
def bfF:hU w00:=⟨by decide,by decide,by grind [w00],by decide⟩
def aWb(w:gz):iX (.a w.c)=U:=by simp[iX,eN,gz.c,sl]
def aXE(l:List Int)(n:Int)(hp:(∀x∈l,0<=x/\x<256)/\L l<4611686018427387904):Ct 21 [sl cu l,iv n] (λr=>∃w:gz,r= .a w.c/\bcV w=U/\hU w/\((L w.ac:Int)<=n\/L w.ac=0)):=by obtain⟨hb,aX⟩:=hp;generalize hQ:(λ(r:AV)=>∃w:gz,r= .a w.c/\bcV w=U/\hU w/\((L w.ac:Int)<=n\/L w.ac=0))=Qq;refine aDq (bhv λs0 hl h0=>?_);simp only[a4B,qy 2];refine ic hl λv1 s2 F2 N2 b1=>?_;have aV:=F2.len.trans hl;refine btF (λb=>∀l':List Int,(∀x∈l',0<=x/\x<256)->L l'<4611686018427387904->b [sl cu l']) ?_ λb hj=>(by rcases q:Q ((400:Int)<(L l:Int)) with _|_;simp only[qz 11,u0,u1,q,bt];exact hj l hb aX;simp only[qz 11,u0,u1,q,bt];rw[aIk (z:=1) (f:=cu) λ_=>rfl];have:=aNR q;refine⟨(by omega),hj _ (by grind)<|by grind⟩);intro l' aO ap;have aQ:bM btZ bmK [(0,sl cu l')]=V (.a [sl cu l',iv 0]):=rfl;simp only[qz 9,qy 6,aI,au,aQ,aY];refine bxL rfl (by decide) (by omega) λv5 s6 F6 N5 E=>?_;have T6:Tp s6 (16,v5) l' 0:=⟨E,by omega,aO,ap⟩;have X:=F6.len.trans aV;have aF:=F6.kq b1;have aP:bM aOQ aQ4 [(0, .a aNE.c)]=V (.a<|aNE.c++(iv 0::(bsk++[.l [] U U]))):=rfl;simp only[aWo,ar,u0,aP];refine⟨by simp[lo,nA],?_⟩;refine ic X λd bz av N9 b9=>?_;refine stW b9 rfl rfl λba aw c9=>?_;have g:Fx s6 ba []:=(av.trans aw).mono (by grind [ig.no]);have aB:=T6.fx g (by simp);have K:=g.len.trans X;have ah:=g.kq aF;have a8:∀{xs:List AV},aN (V 6) (aNE.c++xs)=V (.a aNE.c):=λ{xs}=>rfl;simp only[qz 8,u0,u1,c9,a8,aj,J3];refine jH rfl (bdb K (.inr<|.inr rfl) aB) ?_;rintro _ bA ⟨s,a',rfl,m,aC,_,o⟩;refine⟨o.len,?_⟩;have an:=o.len.trans K;have R:=o.kq c9;have aE:=o.kq ah;have fb:∀{y:ae} {j:Nat} {r:List AV},box y (6,d)=V ⟨43,15,U,U,[r]⟩->iQ j y (.p (6,d) 0 7)=V (.p (6,d) 0<|7+j):=(by grind [rR]);simp only[qz 10,aNI R,aY];refine cy (y:=7) (cs:=s.c) R rfl rfl (by decide) λaf u aK=>?_;have aD:=aC.fx u (by simp);have ao:=u.len.trans an;have aG:=u.kq aE;have F:box af (6,d)=V ⟨43,15,U,U,[aNE.c++(iv 0::(s.c++[.l [] U U]))]⟩:=aK;have a0:∀{y:ae} {st:Int} {e:AV},box y (6,d)=V ⟨43,15,U,U,[aNE.c++(iv st::(s.c++[e]))]⟩->vp J y (.p (6,d) 0 13)=V (sl ci s.count):=λ{y st e} h=>(by rw[aC5,h];rfl);have l6:∀{y:ae} {st:Int} {e:AV},box y (6,d)=V ⟨43,15,U,U,[aNE.c++(iv st::(s.c++[e]))]⟩->vp J y (.p (6,d) 0 6)=V (iv st):=λ{y st e} h=>(by rw[aC5,h];rfl);have l7:∀{y:ae} {st:Int} {e:AV},box y (6,d)=V ⟨43,15,U,U,[aNE.c++(iv st::(s.c++[e]))]⟩->vp (V 7) y (.p (6,d) 0 7)=V (.a s.c):=λ{y st e} h=>(by rw[aC5,h];rfl);have l0:∀{y:ae} {r:List AV},box y (6,d)=V ⟨43,15,U,U,[aNE.c++r]⟩->vp (V 6) y (.p (6,d) 0 0)=V (.a aNE.c):=λ{y r} h=>(by rw[aC5,h];rfl);have O:∀{Y:ae} {l:List Int},fS Y (sl ci l)=V (iv<|L l):=cT;have bv:L s.count<1000:=(by rw[m.2.2.2.2.2.1];decide);simp only[qz 12,aNI F,fb F,a0 F,O,aY,dc];refine yV (L s.count) (λ_ _ y=>(∃st:Int,box y (6,d)=V ⟨43,15,U,U,[aNE.c++(iv st::(s.c++[.l [] U U]))]⟩)/\Fx af y [(6,d)]) (by grind [Fx.refl]) ?_;rintro k _ y hk ⟨⟨st,i⟩,M⟩;rcases q1:Q ((k:Int)<(L s.count:Int)) with _|_;simp only[qz 49,aI,au,av4,aY,q1,↓iB,aNI i,l7 i,l0 i,aRW,aXT];generalize ab:(if(16:Int)<(if(0:Int)>n then 0 else n) then(16:Int) else(if(0:Int)>n then 0 else n))=n';have aq:n'<=16:=(by omega);have bw:n'<=n\/n'<=0:=(by by_cases h0:(0:Int)>n;right;rw[<-ab,lC h0];simp;left;rw[<-ab,j5 h0];split<;>omega);have aa:=M.len.trans ao;have Ty:=aD.fx M (by simp);refine jH rfl (bdm aa rfl Ty (aXL s) (bfm m) m.2.2.2.1 m.2.2.2.2.1 m.2.2.2.2.2.1 aq) ?_;rintro _ y2 ⟨G,rfl,am,W,N⟩;refine⟨N.len,?_⟩;have T:=N.kq i;have aJ:=N.kq<|M.kq aG;simp only[qz 16,aNI T,aY];refine A0 T rfl (by simp[J9.c,sA.c]) λy3 F3 b3=>?_;have P:=F3.kq aJ;have aW:L y3=4096:=F3.len.trans<|N.len.trans aa;have d3:box y3 (6,d)=V ⟨43,15,U,U,[gz.c ⟨aNE,st,s,G⟩]⟩:=b3;have ad:∀{w:gz},aN (V 15) w.c=V (.a w.c):=λ{w}=>rfl;have H:hU ⟨aNE,st,s,G⟩:=⟨by show L aNE.bC<_;decide,λq hq=>by have:=m.2.2.2.2.2.2.1 q hq;omega,λe he=>⟨by have:=(W e he).1;omega,by have:=(W e he).2;omega⟩,by show L s.bU<_;rw[m.2.2.2.2.1];decide⟩;simp only[qz 18,qy 24,u0,u1,d3,ad,J3,aWo,ar,rr];refine⟨H,λbx=>?_,λaZ=>?_⟩;refine⟨by simp[lo,nA],by simp[lo,nA],?_⟩;refine jH rfl (aXI (w:=aNE) aW (by decide) (by decide) (by decide)<|by decide) ?_;rintro _ y4 ⟨a1,v,A,B,C,D,rfl,S,F4⟩;refine⟨F4.len,?_⟩;have al:bM aOQ aQ4 [(0, .a aNE.c),(2, .a [a1,iv<|-1,v,A,B,C,D])]=V (.a<|aNE.c++(iv 0::([a1,iv<|-1,v,A,B,C,D]++[.l [] U U]))):=rfl;have a9:aN (V 15) (aNE.c++(iv 0::([a1,iv<|-1,v,A,B,C,D]++[.l [] U U])))=V (.a<|aNE.c++(iv 0::([a1,iv<|-1,v,A,B,C,D]++[.l [] U U]))):=rfl;simp only[qz 20,qy 22,al,aY];refine stW (F4.kq P) rfl rfl λy5 F5 E=>?_;have t:=S.keep F5 (by simp);simp only[u0,u1,E,a9,J3];have hf:(aNE.c++(iv 0::([a1,iv<|-1,v,A,B,C,D]++[.l [] U U]))).map (fz y5)=w00.c:=(by simp only[dg,ji,mU,aBr t.g1,aBr t.g2,aBr t.g3,aBr t.g4,aBr t.g5,aBr t.g6];rfl);refine aOv (v':= .a w00.c) (brR AV.a hf) (aWb _) ?_;rw[<-hQ];exact⟨w00,rfl,bfG,bfF, .inr rfl⟩;refine stW P rfl rfl λy5 F5 E=>?_;simp only[u0,u1,E,ad];refine aOv (v':= .a<|gz.c ⟨aNE,st,s,G⟩) rfl (aWb _) ?_;rw[<-hQ];exact⟨_,rfl,by simpa using aZ,H,by have:=am.2;show(L G:Int)<=n\/L G=0;omega⟩;have Z:k<L s.count:=(by simp_all);simp only[qz 49,aI,au,av4,aY,q1,↓iC,amX,ci,qM,aNI i,l6 i,cS];refine⟨dJ Z,?_⟩;refine A0 i rfl (by simp[J9.c,sA.c]) λy2 F2 b2=>?_;simp only[qz 14,au,cS,aY];exact yU Z ⟨⟨_,b2⟩,(M.trans F2).mono<|by simp⟩
def aSj:FT:=pn aXE
def bcl{l n Lw K}:=f211 aSj aXE l n Lw K (j:=by simp+contextual only[ij,aQZ])
def a7J:dO:=(21,aSj)::a7I
def aX7:eJ a7J:=ve (aN0 aXE)<|a7s
def aQW:=ai @bcl<|@aWo
section
attribute[local irreducible] aX
def a9Q:=lA 20 [(10,([5],[1,4]))]
def aSG a b R:=(.mk _:NR a7J a9Q Tryz.f61 [.u] [a] b R).p
def bhp{c0:List AV}{R:j4}(l0:L c0=7)(h:H1 75 7 1 c0 λia b=>aSG ia b R):Ct 61 [.a c0] R:=z1 a9Q aX7 Tryz.func61 l0 h
def a9U:=lA 9 [(4,([6],[1,2,4,5]))]
def aVy a a1 b R:=(.mk _:NR a7J a9U Tryz.f62 [.u,a1] [a] b R).p
def bhs{c0:List AV}{a1:AV}{R:j4}(l0:L c0=7)(h:H1 75 7 2 c0 λia b=>aVy ia a1 b R):Ct 62 [.a c0,a1] R:=z1 a9U aX7 Tryz.func62 l0 h
end
def a6N{Y:ae}{w:J9}(h:L Y=4096)(d:L w.cells<=1000)(e:L w.ak<=100)(f:L w.bU<=100)(g:L w.ay<=100):∃r b,(r= .a (aH6 w).c/\Fx Y b [])/\cZ aS GG 57 [.a w.c] Y r b:=by refine aQR (aXI h d e f g) ?_;rintro _ b ⟨a1,j,k,l,m,n,rfl,S,F⟩;refine⟨?_,(F.trans<|aOp _ _).mono λq i=> .inr (S.ids q i).1.no⟩;show AV.a (List.map gK<|List.map (gi b) _)=_;rw[vA];exact brR AV.a S.lz
def bfk{w:J9}(h:mQ w=U):vH 0 (aH6 w):=by obtain⟨d,e,f,g,i,j⟩:=aP4 h;refine⟨⟨by simp[aH6];omega,by simp[aH6];omega,by simp[aH6,qZ];omega,λl b=>?_⟩,by simp[aH6];omega,by simp[aH6];omega,by simp[aH6];omega,λc a=>?_⟩;rw[aXY b];simp;rw[aXY a];simp
def aTz{w:J9}{l:List aP}(h:mQ w=U):∀k,k<=90000->vH k (vq w l k)|0,_=>bfk h|k+1,a=>(aTz h k<|by omega).step (by omega)
theorem bcA{ds:List AV}{s:sA}(h:Lk ds s.c)(Y:ae):fzT Y (.a ds)= .a s.c:=by have b:=h.fd Y;have d:ds.map (fz Y)=(ds.map<|dQ Y).map gK:=(by rw[vA];rfl);show AV.a (ds.map<|fz Y)=_;rw[d,b,h.1]
theorem aR0{ds:List AV}{s:sA}(h:Lk ds s.c):aN (V 7) ds=V (.a ds):=Bi<|oC h
theorem ba9(s:sA):iX (.a s.c)=U:=by simp[iX,eN,sA.c,sl]
def aYr(w:J9)(l:List aP)(k:Nat):Prop:=∀j,j<k->be3 w (vq w l j) (gd l j)=U/\(∀n∈(gd l j).dI,aOE l j (gd l j).aq n)/\∀n∈(gd l j).ep,aOE l j (gd l j).aq n
def aXx(t:aOx)(hp:L t.ac<1000000/\∀e∈t.ac,EvL e):Ct 61 [.a t.c] (λr=>∃i e:Int,r= .t [iv i,iv e]/\(e=0->aN4 t.aQ t.ac)):=by obtain⟨N,ak⟩:=hp;generalize hQ:(λ(r:AV)=>∃i e:Int,r= .t [iv i,iv e]/\(e=0->aN4 t.aQ t.ac))=Qq;refine aDq (bhp rfl λs2 hl b h0=>?_);show aSG (.p (1,1) 0 0) s2 λr=>Qq<|bm1 r;have aW:∀{i e:Int},(e=0->aN4 t.aQ t.ac)->Qq (bm1<|.t [iv i,iv e]):=λ{i e} h=>(by rw[<-hQ];exact⟨i,e,rfl,h⟩);have aw:∀{y:ae} {i e:Int},(e=0->aN4 t.aQ t.ac)->aE (λr=>Qq<|bm1 r) y [iv i,iv e]:=λ{y i e} h=>aOH (vs':=[iv i,iv e]) rfl rfl (by rw[<-hQ];exact⟨i,e,rfl,h⟩);have lE:∀{y:ae},box y (1,1)=V ⟨75,7,U,U,[t.c]⟩->vp J y (.p (1,1) 0 6)=V (sl aP.c t.ac):=λ{y} h=>(by rw[aC5,h];rfl);have lW:∀{y:ae},box y (1,1)=V ⟨75,7,U,U,[t.c]⟩->vp (V 6) y (.p (1,1) 0 0)=V (.a t.aQ.c):=λ{y} h=>(by rw[aC5,h];rfl);have g:∀{y:ae},fS y (sl aP.c t.ac)=V (iv<|L t.ac):=cT;rcases q0:Q ((400:Int)<(L t.ac:Int)) with _|_;rotate_left;simp only[aSG,aNI b,lE b,g,av1,aY,q0,↓iC];simp_all;have an:L t.ac<=400:=(by grind);simp only[aSG,aNI b,lE b,lW b,g,av1,aY,q0,↓iB,aQW,ar,rr,aIN];rcases hv:mQ t.aQ with _|_;simp only[kN,iC];simp_all;obtain⟨z1,z2,z3,z4,z5,z6⟩:=aP4 hv;simp only[fh,iB];refine jH rfl (a6N hl (by omega) (by omega) (by omega)<|by omega) ?_;rintro _ a4 ⟨rfl,m⟩;refine⟨m.len,?_⟩;have w:=m.len.trans hl;have S:=m.kq b;simp only[qz 4,qy 6,qy 8];refine ic w λv4 a5 G N4 b4=>?_;refine stW b4 rfl rfl λa6 H c4=>?_;have T:=H.kq<|G.kq S;have X:=H.len.trans<|G.len.trans w;refine yV (L t.ac) (λk _ y=>box y (1,1)=V ⟨75,7,U,U,[t.c]⟩/\(∃ds,box y (4,v4)=V ⟨40,7,U,U,[ds]⟩/\Lk ds (vq t.aQ t.ac k).c)/\L y=4096/\aYr t.aQ t.ac k) ⟨T,⟨_,c4,aXL _⟩,X,λj d=>aPo d<|Nat.not_lt_zero _⟩ ?_;rintro k _ y hk ⟨q,⟨ds,d4,E⟩,O,D⟩;rcases q1:Q ((k:Int)<(L t.ac:Int)) with _|_;simp only[qz 61,qy 10,aI,au,aNI q,lE q,g,av4,aY,q1,↓iB];have al:k=L t.ac:=(by grind);subst al;exact aw λ_=>⟨hv,an,λj d=>(D j d).1,λj d=>(D j d).2.1,λj d=>(D j d).2.2⟩;have x:k<L t.ac:=(by simp_all);have P:∀{e:aP},aN (V 7) e.c=V (.a e.c):=rfl;simp only[qz 61,qy 10,aI,au,aNI q,lE q,g,av4,aY,q1,↓iC,aCh,aC6,P,bh];refine⟨dJ x,?_⟩;have u:=ak _<|asq x;generalize he:gd t.ac k=e at u;refine ic O λA y1 R N6 c6=>?_;refine stW c6 rfl rfl λy2 G2 K=>?_;have s:=G2.kq<|R.kq q;have M:=G2.kq<|R.kq d4;have z:=G2.len.trans<|R.len.trans O;have ad:∀{Y:ae},dG Y (.a ds)= .a (vq t.aQ t.ac k).c:=λ{Y}=>E.arg Y;obtain⟨p2,p3,p4,p5,p6,p7,p8⟩:=(aTz (l:=t.ac) hv k<|by omega).snB (by omega);simp only[qz 12,qy 14,aNI s,lW s,u0,u1,M,K,aR0 E,P,J3,aQW,ar,ad];refine⟨⟨by omega,p2,p3,p4,p5,p6,p7,p8,by have:=u.1;omega,by have:=u.2;omega⟩,?_⟩;rintro _ ⟨cs,rfl,v⟩;refine⟨.inl (by simp[nA,x9 E];simp[eB,iR,aP.c,J9.c,sl]),?_⟩;simp only[oJ,pG,aY];refine ic z λv7 y3 B N7 c7=>?_;refine stW c7 rfl (oC v) λF C af=>?_;have f:=C.kq<|B.kq s;have ag:=C.kq<|B.kq M;have o:=C.kq<|B.kq K;have Z:=C.len.trans<|B.len.trans z;have g0:∀{j:Nat},iQ j F (.p (6,A) 0 0)=V (.p (6,A) 0 j):=(by grind [rR]);have g1:vp J F (.p (6,A) 0 0)=V (iv e.aq):=(by rw[aC5,o];rfl);have g5:vp J F (.p (6,A) 0 5)=V (sl ci e.dI):=(by rw[aC5,o];rfl);have g6:vp J F (.p (6,A) 0 6)=V (sl ci e.ep):=(by rw[aC5,o];rfl);rcases a1:be3 t.aQ (vq t.aQ t.ac k) e with _|_;simp only[qz 16,au,aIN,u0,↓jN,aUw,bt];simp_all;simp only[qz 16,au,aIN,u0,↓jA,a7c,aNI f,lE f,g0,g1,g5,aQW,ar,rr];have a0:∀(b W:Bool),(b=U->∀n∈e.dI,aOE t.ac k e.aq n)->(W=U->∀n∈e.ep,aOE t.ac k e.aq n)->b=U->W=U->aYr t.aQ t.ac (k+1):=λb W h1 h2 h3 h4 j d=>(by rcases Nat.lt_succ_iff_lt_or_eq.1 d with h|rfl;exact D j h;simp_all);refine⟨⟨by omega,N,by have:=u.1;omega⟩,?_⟩;rintro _ ⟨r1,rfl,a2⟩;refine⟨.inl (by simp[nA,eB,iR,sl]),?_⟩;cases r1 with|false=>simp only[aIN,aY,aMZ,kN,fh,aBA,jN,aUw,iC];simp_all|true=>simp only[aIN,aY,aMZ,kN,fh,aBA,jA,lE f,g1,g6,aQW,ar];refine⟨⟨by omega,N,by have:=u.2;omega⟩,?_⟩;rintro _ ⟨r2,rfl,a3⟩;refine⟨.inl (by simp[nA,eB,iR,sl]),?_⟩;cases r2 with|false=>simp only[aIN,aY,kN,a7c,iC];simp_all|true=>simp only[aIN,aY,fh,a7c,iB,u1,af,aR0 v,J3];refine stW ag (oC E) (oC v) λy5 G5 c5=>?_;simp only[qz 18,au,cS,aY];refine yU x ⟨G5.kq f,⟨cs,c5,?_⟩,G5.len.trans Z,by simp_all⟩;grind [vq]
def aUo:FT:=om aXx
def bcf{t Lw K}:=f111 aUo aXx t Lw K (j:=by simp+contextual only[ij,ijv])
def aXA(t:aOx)(n:Nat)(hp:aN4 t.aQ t.ac/\n<=L t.ac/\∀e∈t.ac,EvL e):Ct 62 [.a t.c,iv n] (·= .a (vq t.aQ t.ac n).c):=by obtain⟨B,hn,C⟩:=hp;have K:=B.wv;have av:=B.ln;obtain⟨z1,z2,z3,z4,z5,z6⟩:=aP4 K;refine aDq (bhs rfl λs2 E S h0=>?_);show aVy (.p (2,1) 0 0) (iv n) s2 λr=>bm1 r= .a (vq t.aQ t.ac n).c;have lE:∀{y:ae},box y (2,1)=V ⟨75,7,U,U,[t.c]⟩->vp J y (.p (2,1) 0 6)=V (sl aP.c t.ac):=λ{y} h=>(by rw[aC5,h];rfl);have M:∀{y:ae},box y (2,1)=V ⟨75,7,U,U,[t.c]⟩->vp (V 6) y (.p (2,1) 0 0)=V (.a t.aQ.c):=λ{y} h=>(by rw[aC5,h];rfl);simp only[aVy];refine ic E λv4 R v N4 W=>?_;have i:=v.len.trans E;have d:=v.kq S;simp only[qz 4,aNI d,M d,aY];refine jH rfl (a6N i (by omega) (by omega) (by omega)<|by omega) ?_;rintro _ s8 ⟨rfl,j⟩;refine⟨j.len,?_⟩;have G:=j.len.trans i;simp only[qz 6,qy 8,qy 10];refine ic G λg aw q N9 X=>?_;refine stW X rfl rfl λP s c9=>?_;have w:Fx R P [(5,g)]:=(j.trans q).trans s;refine yV n (λk _ y=>Fx R y [(5,g)]/\∃ds,box y (5,g)=V ⟨40,7,U,U,[ds]⟩/\Lk ds (vq t.aQ t.ac k).c) ⟨w,_,c9,aXL _⟩ ?_;rintro k _ y hk ⟨F,ds,z,b⟩;have m:=F.kq d;have d4:=F.kq W;have O:∀{e:aP},aN (V 7) e.c=V (.a e.c):=rfl;rcases N:Q ((k:Int)<(n:Int)) with _|_;have D:k=n:=(by grind);subst D;simp only[qz 25,qy 14,aI,au,av4,aY,N,↓iB,u1,z,aR0 b,aj,J3];refine stW d4 rfl (oC b) λy2 u T=>?_;simp only[u0,u1,T,aR0 b];grind [aQ7,bcA,ba9];have H:k<n:=(by simp_all);have f:k<L t.ac:=(by omega);have x:∀{Y:ae},dG Y (.a ds)= .a (vq t.aQ t.ac k).c:=λ{Y}=>b.arg Y;obtain⟨p2,p3,p4,p5,p6,p7,p8⟩:=(aTz (l:=t.ac) K k<|by omega).snB (by omega);have o:=C _<|asq f;have l9:vp (V 7) y (.p (5,g) 0 0)=V (.a ds):=(by grind [aC5,aR0]);simp only[qz 25,qy 14,aI,au,av4,aY,N,↓iC,aNI m,M m,lE m,l9,aCh,aC6,O,bh];refine⟨dJ f,?_⟩;generalize he:gd t.ac k=e at o;simp only[aQW,ar,x];refine⟨⟨by omega,p2,p3,p4,p5,p6,p7,p8,by have:=o.1;omega,by have:=o.2;omega⟩,?_⟩;rintro _ ⟨cs,rfl,A⟩;refine⟨.inl (by simp[nA,x9 b];simp[eB,iR,aP.c,J9.c,sl]),?_⟩;simp only[oJ,pG,aY];refine stW z (oC b) (oC A) λy2 u Z=>?_;simp only[qz 12];refine dT (by simp[eL,lb,Qh,m8,dC,dK]) ?_;simp only[au,cS,aY];refine yU H ⟨(F.trans u).mono (by simp),cs,Z,?_⟩;grind [vq]
def aUq:FT:=aIc aXA
def bci{t n Lw K}:=f210 aUq aXA t n Lw K (j:=by simp+contextual only[ij,ijv,Int.natCast_inj])
def a7K:dO:=(61,aUo)::(62,aUq)::a7J
def a7t:eJ a7K:=ve (rj aXx)<|ve (aCb aXA)<|aX7
def aWp:=ai @bcf<|ai @bci<|@aQW
section
attribute[local irreducible] aX
def a9T:=lA 16 [(11,([8,9],[1,2]))]
def aVw a a1 b R:=(.mk _:NR a7K a9T Tryz.f23 [.u,a1] [a] b R).p
def bhr{c0:List AV}{a1:AV}{R:j4}(l0:L c0=7)(h:H1 75 7 2 c0 λia b=>aVw ia a1 b R):Ct 23 [.a c0,a1] R:=z1 a9T a7t Tryz.func23 l0 h
end
def aV1(n:Int)(l:List gz):Prop:=∀w∈l,(bcV w=U/\hU w)/\(L w.ac:Int)<=n
def bhH{t:aOx}(a:aN4 t.aQ t.ac)(d:∀e∈t.ac,EvL e){i j:Nat}(g:i<=L t.ac)(k:j<=i+16):bcV ⟨t.aQ,i,vq t.aQ t.ac i,(t.ac.take j).drop i⟩=U/\hU ⟨t.aQ,i,vq t.aQ t.ac i,(t.ac.take j).drop i⟩:=by obtain⟨z1,z2,z3,m,n,o⟩:=aP4 a.wv;have c:=aTz (l:=t.ac) a.wv i (by have:=a.ln;omega);rw[List.drop_take];refine⟨bhG a g (by omega),by grind,λl h=>?_,λe f=>?_,?_⟩;have:=c.sy.rd l h;have:=a.ln;omega;have b:=d e<|CB<|bnL f;exact⟨by have:=b.1;omega,by have:=b.2;omega⟩;have:=c.fu;show L (vq t.aQ t.ac i).bU<_;omega
def spM(vs:List AV)(y:ae):Nat:=(1000-(match gt vs 1 with| .s (.int _ n)=>n|_=>0)).toNat
def aXz(t:aOx)(n:Int)(hp:L t.ac<1000000/\∀e∈t.ac,EvL e):Ct 23 [.a t.c,iv n] (λr=>∃(l:List gz) (e:Int),r= .t [sl gz.c l,iv e]/\aV1 n l):=by obtain⟨K,v⟩:=hp;generalize E:(λ(r:AV)=>∃(l:List gz) (e:Int),r= .t [sl gz.c l,iv e]/\aV1 n l)=Qq;refine aDq (bhr rfl λs2 Z C h0=>?_);show aVw (.p (2,1) 0 0) (iv n) s2 λr=>Qq<|bm1 r;have R:∀{y:ae},box y (2,1)=V ⟨75,7,U,U,[t.c]⟩->vp (V 7) y (.p (2,1) 0 0)=V (.a t.c):=λ{y} h=>(by rw[aC5,h];rfl);have lE:∀{y:ae},box y (2,1)=V ⟨75,7,U,U,[t.c]⟩->vp J y (.p (2,1) 0 6)=V (sl aP.c t.ac):=λ{y} h=>(by rw[aC5,h];rfl);have lW:∀{y:ae},box y (2,1)=V ⟨75,7,U,U,[t.c]⟩->vp (V 6) y (.p (2,1) 0 0)=V (.a t.aQ.c):=λ{y} h=>(by rw[aC5,h];rfl);have A:∀{y:ae},fS y (sl aP.c t.ac)=V (iv<|L t.ac):=cT;have d:∀{y:ae} {e:Int},aE (λr=>Qq<|bm1 r) y [.l [] U U,iv e]:=λ{y e}=>aOH (vs':=[sl gz.c [],iv e]) rfl rfl (by rw[<-E];exact⟨[],e,rfl,by intro w s;simp at s⟩);simp only[aVw,R C,aY,aWp,ar,Fa];refine⟨⟨K,v⟩,?_⟩;rintro _ ⟨i0,e0,rfl,u⟩;refine⟨.inl (by simp[nA,eB,iR,aOx.c,J9.c,sl]),?_⟩;simp only[oJ,pG,aY,av6];rcases q0:Q (e0≠0) with _|_;rotate_left;simp only[iC];exact d;have u:=u (by grind);have am:=u.ln;simp only[iB];rcases B:Q (n<1) with _|_;rotate_left;simp only[u0,u1,B,↓jN,aUw,bt];exact d;rcases S:Q (16<n) with _|_;rotate_left;simp only[u0,u1,B,S,↓jA,bt];exact d;have h1:1<=n:=(by simp_all);have ah:n<=16:=(by simp_all);simp only[u0,u1,B,S,↓jA,bt];let b:aG:=λvs y=>∃(k:AV) (f:List gz) (i:Nat),vs=[k,iv i]/\i<=500/\L f<=i/\aV1 n f/\qc y 43 15 k (f.map gz.c)/\(∀q∈aA k,q.1=51)/\box y (2,1)=V ⟨75,7,U,U,[t.c]⟩/\L y=4096;refine⟨b,spM,⟨_,[],0,rfl,by omega,by simp,by intro w s;simp at s, .inl ⟨rfl,rfl⟩,by simp[aA],C,Z⟩,?_⟩;rintro _ y ⟨k,f,i,rfl,hi,an,F,g,po,o,x⟩;generalize hI:b=I';rcases T:Q ((i:Int)<(L t.ac:Int)) with _|_;simp only[qz 67,qy 4,aI,au,ck,aNI o,lE o,A,av4,aY,T,↓iB];refine aOH (vs':=[sl gz.c f,iv 0]) (by simp only[ji,mU,aWs g];rfl) (by simp[iX,eN,sl]) ?_;rw[<-E];exact⟨f,0,rfl,F⟩;have O:i<L t.ac:=(by simp_all);have D:dq.wrap ((i:Int)+n)=(i:Int)+n:=(by grind [eM]);obtain⟨m,rfl⟩:∃m:Nat,n=m:=⟨n.toNat,by omega⟩;obtain⟨j,M,N,al⟩:∃j:Nat,(if(L t.ac:Int)<(i:Int)+m then(L t.ac:Int) else(i:Int)+m)=j/\j<=i+16/\i<=j/\j<=L t.ac:=(by split;grind;exact⟨i+m,by omega,by omega,by omega,by omega⟩);have s:=bhH u v (aYB O) N;have G:bM aOQ aQ4 [(0, .a t.aQ.c),(1,iv i),(2, .a (vq t.aQ t.ac i).c),(3,sl aP.c<|(t.ac.take j).drop i)]=V (.a<|gz.c ⟨t.aQ,i,vq t.aQ t.ac i,(t.ac.take j).drop i⟩):=rfl;simp only[qz 67,qy 4,aI,au,ck,aNI o,lE o,lW o,R o,A,av4,cS,aY,T,↓iC,aWp,ar,Fa,D,aXT,M,slE];refine⟨(by grind), .inl (by simp[nA,eB,iR,aOx.c,J9.c,sl]),(by omega),?_⟩;simp only[bh,G,aY];have z:(L (gz.mk t.aQ i (vq t.aQ t.ac i)<|(t.ac.take j).drop i).ac:Int)<=m:=(by have:j<=i+m:=(by omega);show(L ((t.ac.take j).drop i):Int)<=m;rw[oz,gC];omega);generalize ak:(gz.mk t.aQ i (vq t.aQ t.ac i)<|(t.ac.take j).drop i)=W at s z;have H:aX a72 1 y [(0, .a W.c)]=V (.l ([W].map gz.c) U U,y):=ua rfl rfl rfl (by decide) (by simp[gz.c,eN,sl]) (by decide);have aEx:∀{l:List gz},∀r∈l.map gz.c,L r=15:=qW (by intro _;rfl);simp only[H,bQ];refine apQ g x aEx aEx (by simp) (by simp;omega) λout' y2 g2 X p2=>?_;simp only[qz 6];refine dT (by simp[eL,lb]) ?_;simp only[ck,cS,aY,D];rw[<-hI];refine⟨⟨out',f++[W],i+m,by simp,by omega,by simp;omega,λw P=>?_,by grind [bc.p],λq hq=>(p2 q hq).2,(by grind [Fx.keep]),X.len.trans x⟩,?_⟩;rcases dF.1 P with h|h;exact F w h;simp at h;subst h;exact⟨s,z⟩;show(1000-((i:Int)+m)).toNat<(1000-(i:Int)).toNat;omega
def aUp:FT:=pn aXz
def bch{t n Lw K}:=f211 aUp aXz t n Lw K (j:=by simp+contextual only[ij,ijv])
def a7L:dO:=(23,aUp)::a7K
def a7u:eJ a7L:=ve (aN0 aXz)<|a7t
def aWq:=ai @bch<|@aWp
section
attribute[local irreducible] aX
def aZd a a1 s0 R:=(.mk _:NR a7L a8I Tryz.f22 [a,a1] [] s0 R).p
def bgh{a a1:AV}{R:j4}(h:H0 λs0=>aZd a a1 s0 R):Ct 22 [a,a1] R:=z0 a8I a7u Tryz.func22 h
end
def aWK(p:List Int)(s:List Int)(z:(∀x∈p,0<=x/\x<256)/\L p<4611686018427387904/\L s<=100):Ct 22 [sl cu p,sl cu s] (λr=>∃t:aOx,r= .a t.c/\L t.ac<=100/\∀e∈t.ac,EvL e):=by obtain⟨v,w,S⟩:=z;generalize T:(λ(r:AV)=>∃t:aOx,r= .a t.c/\L t.ac<=100/\∀e∈t.ac,EvL e)=Qq;refine aDq (bgh λs0 k R=>?_);simp only[aZd];refine ic k λZ W l O m=>?_;have g:=l.len.trans k;simp only[qz 2,qy 4,aWq,ar];refine⟨⟨v,w⟩,?_⟩;rintro _ ⟨c,rfl,y⟩;refine⟨.inl (by simp[nA,eB,iR,sl]),?_⟩;simp only[Fa];refine⟨by omega,?_⟩;rintro _ ⟨cs,rfl,D⟩;refine⟨.inl (by simp[nA,eB,iR,sl]),?_⟩;simp only[aWq,ar];refine⟨⟨y,by omega⟩,?_⟩;rintro _ ⟨t,st,rfl,E,F⟩;refine⟨.inl (by simp[nA,eB,iR,sl,aBY.c,J9.c]),?_⟩;simp only[oJ,pG,aY];refine ic g λv8 X h P n=>?_;refine ic (h.len.trans g) λN G b B i=>?_;simp only[qz 6,qy 8];refine stW (b.kq n) rfl rfl λH d o=>?_;refine stW (d.kq i) rfl rfl λK f C=>?_;have j:=f.kq o;have q:=f.kq<|d.kq<|b.kq<|h.kq m;have rt:aN (V 7) t.c=V (.a t.c):=rfl;simp only[qz 10,qy 12,u0,u1,j,rt,J3];refine stW q rfl rfl λM A u=>?_;simp only[u0,u1,u,rt];refine aOv (v':= .a t.c) rfl (by simp[iX,eN,aOx.c,J9.c,sl]) ?_;grind
def aTW:FT:=pn aWK
def bbs{p s Lw K}:=f211 aTW aWK p s Lw K (j:=by simp+contextual only[ij,aQZ])
def a7M:dO:=(22,aTW)::a7L
def a7v:eJ a7M:=ve (aN0 aWK)<|a7u
def aRP:=ai @bbs<|@aWq
section
attribute[local irreducible] aX
def a9W:=lA 10 []
def aVB a a1 b R:=(.mk _:NR a7M a9W Tryz.f7 [.u,a1] [a] b R).p
def bhu{c0:List AV}{a1:AV}{R:j4}(l0:L c0=5)(h:H1 24 5 2 c0 λia b=>aVB ia a1 b R):Ct 7 [.a c0,a1] R:=z1 a9W a7v Tryz.func7 l0 h
end
structure aOA where
 p:List Int
 s:List Int
 c:List Int
 z:Int
 w:Int
 deriving Inhabited
def aOA.cs(v:aOA):List AV:=[sl cu v.p,sl cu v.s,sl cu v.c, .s<|.int .u8 v.z, .s<|.int .u8 v.w]
def ByL(l:List Int):Prop:=(∀x∈l,0<=x/\x<256)/\L l<4611686018427387904
structure aSr(v:aOA):Prop where
 p:ByL v.p
 s:ByL v.s
 c:ByL v.c
 z:0<=v.z/\v.z<256
 w:0<=v.w/\v.w<256
def bcQ{v v':aOA}:(v.cs=v'.cs)=(v=v'):=by(cases v;cases v');simp only[aOA.cs,kO,aQZ,AV.s.injEq,Value.int.injEq,aOA.mk.injEq,GL,aO5]
def aYl{w:gz}:aN (V 15) w.c=V (.a w.c):=rfl
def aXD(v:aOA)(n:Int)(hp:aSr v/\1<=n/\n<=16):Ct 7 [.a v.cs,iv n] (λr=>∃w:gz,r= .a w.c/\bcV w=U/\hU w/\(L w.ac:Int)<=n):=by obtain⟨B,aM,ay⟩:=hp;generalize hQ:(λ(r:AV)=>∃w:gz,r= .a w.c/\bcV w=U/\hU w/\(L w.ac:Int)<=n)=Qq;refine aDq (bhu rfl λs2 hl b1 h0=>?_);show aVB (.p (2,1) 0 0) (iv n) s2 λr=>Qq<|bm1 r;simp only[aVB];refine ic hl λM s4 N N4 R=>?_;have ab:=N.len.trans hl;have d:=N.kq b1;have l0:∀{y:ae},box y (2,1)=V ⟨24,5,U,U,[v.cs]⟩->vp J y (.p (2,1) 0 0)=V (sl cu v.p):=λ{y} h=>(by rw[aC5,h];rfl);have l1:∀{y:ae},box y (2,1)=V ⟨24,5,U,U,[v.cs]⟩->vp J y (.p (2,1) 0 1)=V (sl cu v.s):=λ{y} h=>(by rw[aC5,h];rfl);have l2:∀{y:ae},box y (2,1)=V ⟨24,5,U,U,[v.cs]⟩->vp J y (.p (2,1) 0 2)=V (sl cu v.c):=λ{y} h=>(by rw[aC5,h];rfl);have H:∀{y:ae},box y (2,1)=V ⟨24,5,U,U,[v.cs]⟩->vp J y (.p (2,1) 0 3)=V (.s<|.int .u8 v.z):=λ{y} h=>(by rw[aC5,h];rfl);have l4:∀{y:ae},box y (2,1)=V ⟨24,5,U,U,[v.cs]⟩->vp J y (.p (2,1) 0 4)=V (.s<|.int .u8 v.w):=λ{y} h=>(by rw[aC5,h];rfl);have hz:=B.z;have hw:=B.w;have X:dq.wrap v.z=v.z:=(by grind [eM]);have W:dq.wrap v.w=v.w:=(by grind [eM]);have aJ:=Int.tmod_nonneg n hz.1;have aL:=Int.tmod_lt_of_pos v.z (show 0<n by omega);have T:dq.wrap (1+v.z.tmod n)=1+v.z.tmod n:=(by grind [eM]);have O:∀{Y:ae},dG Y (.l [] U U)=sl cu []:=rfl;have o:∀{y:ae} {w:gz},bcV w=U->hU w->(L w.ac:Int)<=n->box y (4,M)=V ⟨43,15,U,U,[aOQ]⟩->sV (aK 15 y (.p (4,M) 0 0)<|.a w.c) λE=>rV (vp (V 15) E<|.p (4,M) 0 0) λan=>aE (λr=>Qq<|bm1 r) E [an]:=λ{y w} u A G hb=>(by refine stW hb rfl rfl λz F b=>?_;simp only[u0,u1,b,aYl,J3];refine aOv (v':= .a w.c) rfl (aWb _) ?_;rw[<-hQ];exact⟨w,rfl,u,A,G⟩);rcases q0:Q ((0:Int)<(L v.c:Int)) with _|_;rotate_left;simp only[qz 4,qy 6,qy 8,aNI d,l2 d,H d,a6S,av1,aY,q0,↓iC,aS6,X,aPR,aP1,cS,T,aRP,ar];refine⟨by omega,B.c,?_⟩;rintro _ ⟨w,rfl,u,A,G⟩;exact⟨.inl (by simp[nA,eB,iR,sl]),o u A (by omega) R⟩;simp only[qz 4,qy 6,qy 8,aNI d,l0 d,l1 d,l2 d,H d,a6S,av1,aY,q0,↓iB,aXT];rw[aIk (z:=1) (f:=cu) λ_=>rfl];refine⟨(by omega),?_⟩;generalize hk:(if(80:Int)<(L v.s:Int) then(80:Int) else(L v.s:Int))=k;have ax:k<=80:=(by omega);simp only[aRP,ar];refine⟨⟨B.p.1,B.p.2,by grind⟩,?_⟩;rintro _ ⟨t,rfl,aN,ag⟩;refine⟨.inl (by simp[nA,eB,iR,sl]),?_⟩;refine ic ab λao aO C aI P=>?_;refine stW P rfl rfl λam D S=>?_;have i:=D.kq<|C.kq d;have m:=D.kq<|C.kq R;have lt:vp (V 7) am (.p (5,ao) 0 0)=V (.a t.c):=(by rw[aC5,S];rfl);simp only[qz 10,qy 12,qy 14];refine dT (by simp[eL,lb,Qh,m8,dC,dK,sl]) ?_;simp only[aNI i,H i,l4 i,lt,aY,aS6,X,W,aPR,aP1,cS,T,aRP,ar,Fa];refine⟨by omega,⟨by omega,ag⟩,?_⟩;rintro _ ⟨g,e,rfl,hW⟩;refine⟨.inl (by simp[nA,eB,iR,aOx.c,J9.c,sl]),?_⟩;have ak:∀{y:ae},fS y (sl gz.c g)=V (iv<|L g):=cT;simp only[oJ,pG,aY,ak,iM];rcases q1:Q ((L g:Int)=0) with _|_;rotate_left;simp only[iC,aRP,O];refine⟨⟨by simp,by simp⟩,?_⟩;rintro _ ⟨w,rfl,u,A,G⟩;exact⟨.inl (by simp[nA,eB,iR]),o u A (by omega) m⟩;have h0:0<L g:=(by grind);have ad:=Int.tmod_nonneg (L g:Int) hw.1;have af:=Int.tmod_lt_of_pos v.w (show(0:Int)<L g by omega);have Z:∀{x:ae} {j:Int} {K:j4},rV (cz 15 x (sl gz.c g)<|iv j) K=(aF (L g) j/\K (.q<|gz.c<|gd g j.toNat)):=aBz λ_=>rfl;simp only[iB,aPR,aP1,Z,aC6,aYl,aY];have h:=hW _ (asq<|show(v.w.tmod (L g:Int)).toNat<L g by omega);exact⟨by omega,⟨ad,af⟩,o h.1.1 h.1.2 (by have:=h.2;omega) m⟩
def aUs:FT:=pn aXD
def bck{v n Lw K}:=f211 aUs aXD v n Lw K (j:=by simp+contextual only[ij,bcQ])
def a7N:dO:=(7,aUs)::a7M
def aX8:eJ a7N:=ve (aN0 aXD)<|a7v
def a6u:=ai @bck<|@aRP
def bn0:=lA 10 [(3,([7],[2,3,4]))]
def blD b a c d R:=(.mk _:NR a7N bn0 Tryz.f179 [.u, .u,c] [b,a] d R).p
def bqa{c0:List AV}{b:List AV}{c:AV}{R:j4}(l0:L c0=15)(l1:L b=9)(h:H2 43 15 3 c0 103 9 4 b λia d e=>blD ia d c e R):Ct 179 [.a c0, .a b,c] R:=z2 bn0 aX8 Tryz.func179 l0 l1 h
def bnZ:=lA 16 [(6,([9],[2,3,4,5])),(9,([],[2,3,4,5,9]))]
def blA b a c d e R:=(.mk _:NR a7N bnZ Tryz.f180 [.u, .u,c,d] [b,a] e R).p
def bp9{c0:List AV}{b:List AV}{c d:AV}{R:j4}(l0:L c0=15)(l1:L b=9)(h:H2 43 15 4 c0 103 9 5 b λia e f=>blA ia e c d f R):Ct 180 [.a c0, .a b,c,d] R:=z2 bnZ aX8 Tryz.func180 l0 l1 h
def bzo a s0 R:=(.mk _:NR a7N asY Tryz.f114 [a] [] s0 R).p
def bB2{a:AV}{R:j4}(h:H0 λs0=>bzo a s0 R):Ct 114 [a] R:=z0 asY aX8 Tryz.func114 h
def bzE:=lA 12 [(4,([3,4],[0])),(9,([],[0,3,4,5]))]
def bzs a s0 R:=(.mk _:NR a7N bzE Tryz.f50 [a] [] s0 R).p
def bB6{a:AV}{R:j4}(h:H0 λs0=>bzs a s0 R):Ct 50 [a] R:=z0 bzE aX8 Tryz.func50 h
def LI(n:Nat)(x:Int):Prop:=x≠0/\ -(n:Int)<=x/\x<=n
def LV(n:Nat)(c:List Int):Prop:=∀x∈c,LI n x
def LVs(n:Nat)(l:List<|List Int):Prop:=∀c∈l,LV n c
section
variable{n:Nat}{x y:Int}{c d:List Int}{l m:List (List Int)}
def LI.neg(h:LI n x):LI n (-x):=by obtain⟨a,b,e⟩:=h;exact⟨by omega,by omega,by omega⟩
theorem LV.nil:LV n []:=λx h=>by cases h
theorem LV.cons(h:LI n x)(b:LV n c):LV n (x::c):=λz a=>by
 rcases eW.1 a with rfl|a
 ·exact h
 ·exact b z a
theorem LV.app(h:LV n c)(a:LV n d):LV n (c++d):=λz b=>(dF.1 b).elim (h z)<|a z
theorem LV.one(h:LI n x):LV n [x]:= .cons h .nil
def LV.two(h:LI n x)(a:LI n y):LV n [x,y]:= .cons h<|.one a
theorem LVs.nil:LVs n []:=λc h=>by cases h
theorem LVs.cons(h:LV n c)(b:LVs n l):LVs n (c::l):=λz a=>by
 rcases eW.1 a with rfl|a
 ·exact h
 ·exact b z a
theorem LVs.one(h:LV n c):LVs n [c]:= .cons h .nil
theorem LVs.app(h:LVs n l)(a:LVs n m):LVs n (l++m):=λz b=>(dF.1 b).elim (h z)<|a z
def LVs.rng{f:Nat->List (List Int)}{k:Nat}(h:∀i,i<k->LVs n (f i)):LVs n ((aH k).flatMap f):=λz a=>by
 obtain⟨i,b,a⟩:=iI.1 a
 exact h i (fq.1 b) z a
end
def brK{ns:List aH8}{x:aH8}(h:x∈ns):LI (L ns) (dP ns x):=by unfold dP;rw[lC h];have:=List.idxOf_lt_length_of_mem h;exact⟨by omega,by omega,by omega⟩
def btD{ns l:List aH8}{p:aH8->Bool}(h:∀x∈l,x∈ns):LV (L ns) ((l.filter p).map<|dP ns):=λz b=>by
 obtain⟨x,a,rfl⟩:=dN.1 b
 exact brK<|h x (jW.1 a).1
section
variable{ns:List aH8}{w:gz}(N:jb w ns)
include N
theorem biw{x:Int}(h:aF (L w.ac) x):LI (L ns) (lE ns x):=brK<|N.ex x h
theorem bqK{x y:Int}(h:aF (L w.ac) x)(a:aF (L w.ac) y)(b:x≠y):LI (L ns) (lB ns x y):=brK<|N.bf x y h a b
theorem btB{x:Int}(h:aF (L w.ac) x)(a:fR (gd w.ac x.toNat)=U):LI (L ns) (lF ns x):=brK<|N.fx x h a
theorem byI:LVs (L ns) (bqD ns w):=by unfold bqD jy;refine .app (.rng λx i=> .rng λy b=>?_) (.app (.rng λy b=>?_)<|.rng λj g=>?_);have ix:=dJ i;have a:=dJ b;unfold my;split;exact .one (.two (bqK N ix a<|by omega)<|bqK N a ix<|by omega);exact .nil;have a:=dJ b;have k:=anW (w:=w) (j:=y);unfold kY;split;rename_i h;have f:aF (L w.ac) (lw w.ac y):=⟨h,by omega⟩;exact .cons (.one<|bqK N f a<|by omega)<|.one<|.two (biw N a).neg<|biw N f;exact .nil;have ij:=dJ g;unfold mA;split;rename_i h;obtain⟨is,e⟩:=aIp h;exact .cons (.two (biw N ij).neg<|biw N is)<|.one<|.two (biw N ij).neg<|bqK N is ij e;exact .nil
theorem bwS{h e f:Int}(i:aF (L w.ac) h)(g:aF (L w.ac) f)(k:h≠f)(o:0<=e->aF (L w.ac) e/\e≠f):LVs (L ns) (jI ns h e f):=by unfold jI;have a:=(biw N i).neg;have b:=(biw N g).neg;have c:=(bqK N i g k).neg;split;exact .one<|.cons a<|.two b c;obtain⟨j,p⟩:=o (by omega);exact .cons (.cons a<|.cons b<|.two c<|biw N j)<|.one<|.cons a<|.cons b<|.two c<|bqK N j g p
theorem byF(P:∀Lw:Nat,Lw<=L w.aQ.ak->∀i j,i<j->j<L (jE w.aQ w.init.gp w.ac Lw)->(gd (jE w.aQ w.init.gp w.ac Lw) i).aq≠(gd (jE w.aQ w.init.gp w.ac Lw) j).aq->¬((gd (jE w.aQ w.init.gp w.ac Lw) i).read=U/\(gd (jE w.aQ w.init.gp w.ac Lw) j).read=U)->Sd (L w.ac) (gd (jE w.aQ w.init.gp w.ac Lw) i) (gd (jE w.aQ w.init.gp w.ac Lw) j)):LVs (L ns) (oH ns w):=by unfold oH pE rL mw;refine .rng λLw s=> .rng λi t=> .rng λj r=>?_;have P:=P Lw (by omega) i (i+1+j) (by omega) (by rw[oz] at r;omega);generalize jE w.aQ w.init.gp w.ac Lw=S at*;rw[show gd (S.drop<|i+1) j=gd S (i+1+j) by unfold gd;simp[eI,List.getElem?_drop]];generalize gd S i=p at*;generalize gd S (i+1+j)=q at*;unfold iA;split;exact .nil;rename_i e;simp only[not_or] at e;have P:=P e.1 e.2.1;split;rename_i k;rcases P.held k with h|⟨f,b,a,g⟩;exact aPo h e.2.2;exact .cons (.two (biw N a).neg<|biw N b)<|.one<|.two (biw N a).neg<|bqK N b a g;rename_i k;obtain⟨f,b,a,g,o⟩:=P.own (by omega);exact .app (bwS N f b a g)<|bwS N b f (Sa a) o
theorem byG(K:sE w ns):LVs (L ns) (sN ns w<|aR ns 5):=by have q:∀x∈aR ns 5,x∈ns:=λx h=>(jW.1 h).1;have B:=K.ok;generalize aR ns 5=l at*;have r:∀{j:Nat},j<L l->gd l j∈ns/\aF (L w.ac) (gd l j).a/\pN (gd w.ac (gd l j).a.toNat)=U/\(0<=(gd l j).b->aF (L w.ac) (gd l j).b/\(gd l j).b≠(gd l j).a):=λf=>⟨q _<|asq f,B _<|asq f⟩;have C:∀{i j:Nat},j<L (l.drop<|i+1)->gd (l.drop<|i+1) j∈ns:=λf=>q _<|CB<|asq f;have G:∀x:aH8,aF (L w.ac) x.a->(0<=x.b->aF (L w.ac) x.b/\x.b≠x.a)->LV (L ns) (kZ ns w l x):=λx E H=>(by unfold kZ jd;refine .app (.cons (biw N E).neg ?_)<|btD q;split;obtain⟨g,o⟩:=H (by assumption);exact .two (biw N g).neg (bqK N g E o).neg;exact .nil);unfold sN;refine .app (.rng λk p=>?_) (.app (.rng λi z=>?_)<|.app (.rng λi z=>?_)<|.app (.rng λk p=>?_)<|.rng λk p=>?_);obtain⟨g,o,s,t⟩:=r p;unfold iW;refine .app (.one<|.two (brK g).neg<|biw N o) ?_;split;obtain⟨u,v⟩:=t (by assumption);exact .cons (.two (brK g).neg<|biw N u)<|.one<|.two (brK g).neg<|bqK N u o v;exact .nil;unfold lP ju;refine .rng λj f=>?_;split;exact .one<|.two (brK (r z).1).neg (brK<|C f).neg;exact .nil;unfold lQ jk;refine .rng λj f=>?_;split;exact .one<|.two (brK (r z).1).neg (brK<|C f).neg;exact .nil;obtain⟨g,o,s,t⟩:=r p;have F:=G (gd l k) o t;unfold nT brU;refine .cons (.app F<|btD q) (.rng λj f=> .one<|.app F ?_);have A:=jW.1<|asq f;have u:=B _ A.1;have v:(gd (l.filter<|eZ<|gd l k) j).a≠(gd l k).a:=(by have:=A.2;simp only[eZ,bN,yp] at this;exact this.2);exact .two (brK<|q _ A.1).neg<|bqK N u.1 o v;unfold ng;split;rename_i D;refine .cons (.cons (biw N<|dJ p).neg<|btD q) (.rng λj f=>?_);obtain⟨g,o,s,t⟩:=r f;unfold iO;split;refine .one (.cons (biw N<|dJ p).neg<|.two (brK g).neg<|bqK N o (dJ p) λe=>?_);rw[e,bh] at s;simp[pN,D.1] at s;exact .nil;exact .nil
theorem byH(R:tP w)(S:GU w ns):LVs (L ns) (rJ ns w):=by have hs:∀{r:Nat} {s:Int},r<L w.ac->fR (gd w.ac r)=U->s∈dx w r->LI (L ns) (lS ns r s):=λo h f=>brK (jW.1 (S.eq _ o h▸CA f:(⟨4,_,_⟩:aH8)∈ns.filter (oa _))).1;unfold rJ;refine .app (.rng λr o=>?_) (.rng λi C=>?_);have p:=dJ o;unfold bqN;split;rename_i h;have B:LI (L ns) (lF ns r):=btB N p (by rw[bh];exact h);refine .app (.cons (.two B.neg<|biw N p)<|.one<|.cons B.neg λz F=>?_) (.rng λj u=>?_);obtain⟨s,f,rfl⟩:=dN.1 F;exact hs o h f;have f:=asq u;generalize gd (dx w r) j=s at*;have g:=hs o h f;have v:=S.ok r s f;unfold iP kD;refine .app ?_ (.rng λx E=>?_);split;obtain⟨b,A⟩:=v (by assumption);refine .app (.cons (.two g.neg<|biw N b)<|.one<|.two g.neg<|bqK N b p A) (.rng λk D=>?_);unfold pD;have:=R.fr s.toNat (by have:=b.1;have:=b.2;omega) _<|asq D;exact .one<|.two g.neg<|btB N this.1 this.2;exact .nil;have a:=dJ E;unfold bpl;split;exact .nil;rename_i t;simp only[not_or,Bool.not_eq_false] at t;have q:(r:Int)≠x:=λe=>(by have e:r=x:=(by omega);subst e;have:=t.2;simp[aTG] at this;omega);split;obtain⟨b,A⟩:=v (by assumption);exact .one<|.cons g.neg<|.cons (biw N a).neg<|.two (bqK N a b t.1)<|bqK N p a q;exact .one<|.cons g.neg<|.two (biw N a).neg<|bqK N p a q;exact .nil;unfold kX qv;refine .rng λj u=>?_;have:=R.dp i C _<|asq u;exact .one<|.two (biw N<|dJ C).neg<|btB N this.1 this.2
end
section
variable{w:gz}
variable{ns:List aH8}
end
structure FOK(f:br6):Prop where
 i0:0<=f.ints/\f.ints<=32
 b0:0<=f.bools/\f.bools<=1024
 cl:L f.ug<=32768
 al:(L f.lL:Int)<=f.bools
 ats:∀d∈f.lL,(0<=d.x/\d.x<f.ints)/\(0<=d.y/\d.y<f.ints)/\d.x≠d.y/\d.k= -1
 li:∀c∈f.ug,∀x∈c,x≠0/\ -f.bools<=x/\x<=f.bools
def byL{n:Nat}{x:aH8}(h:x∈lr n n):aF n x.a/\aF n x.b/\x.a≠x.b:=by simp only[lr,nB,iI,fq,dN,jW,yp] at h;obtain⟨i,f,j,⟨g,e⟩,rfl⟩:=h;exact⟨dJ f,dJ g,e⟩
section
variable{w:gz}(hf:hU w)(hv:bcV w=U)
include hf hv
theorem byY:jb w (cw w)/\tP w/\GU w (cw w)/\L w.ac<=16/\L (cw w)<2000/\LVs (L<|cw w) (brQ (cw w) w):=by have h:=anT hf hv;obtain⟨f,k,o,e,j⟩:=Bx hv;have a:=(vd hf hv).wo.ev;obtain⟨b,_⟩:=tC (aQA hv).1;have g:=b.sy.th;have f:L w.aQ.ak<=4:=(iY e).2.1▸b.sy.lo;have i:=(anE a g).1;have N:=anG (w:=w) (by omega);have R:=an6 h hf;have S:=aId a;refine⟨N,R,S,a,i,?_⟩;unfold brQ;exact .app (.app (.app (byI N)<|byF N λLw p=>anV hf hv ⟨by omega,by omega⟩)<|byG N<|Rq a g)<|byH N R S
end
structure aB9 where
 value:Int
 known:Bool
 deriving Inhabited,DecidableEq
structure aNU where
 gp:aW
 cells:List aB9
 bU:List aB9
 order:List Int
 fixed:List Bool
 woke:List Int
 deriving Inhabited,DecidableEq
def aB9.c(x:aB9):List AV:=[iv x.value,bv x.known]
def aNU.c(x:aNU):List AV:=[sl cg.c x.gp.ak,iv x.gp.tx,sl cb x.gp.done,sl aoC.c x.gp.ay,sl aB9.c x.cells,sl aB9.c x.bU,sl ci x.order,sl cb x.fixed,sl ci x.woke]
def boR{x y:aB9}:(aB9.c x=aB9.c y)=(x=y):=by cases x;cases y;simp[aB9.c]
def boS{l l':List aB9}:(sl aB9.c l=sl aB9.c l')=(l=l'):=kL (by intro x y h;rwa [boR] at h)
def aNX{x y:aNU}:(aNU.c x=aNU.c y)=(x=y):=by cases x;cases y;simp[aNU.c,amV,boS,aN8,mD,aW.ext_iff',bj5]
def bpy{x:aB9}:aN J (aB9.c x)=V (iv x.value):=rfl
def bpz{x:aB9}:aN J ((aB9.c x).drop 1)=V (bv x.known):=rfl
def bpA{x:aB9}:aN (V 2) (aB9.c x)=V (.a<|aB9.c x):=rfl
def bpr{x:aNU}:aN J ((aNU.c x).drop 4)=V (sl aB9.c x.cells):=rfl
def bps{x:aNU}:aN J ((aNU.c x).drop 5)=V (sl aB9.c x.bU):=rfl
def bpt{x:aNU}:aN J ((aNU.c x).drop 6)=V (sl ci x.order):=rfl
def bpu{x:aNU}:aN J ((aNU.c x).drop 7)=V (sl cb x.fixed):=rfl
def bpv{x:aNU}:aN J ((aNU.c x).drop 8)=V (sl ci x.woke):=rfl
def bpw{x:aNU}:aN (V 4) (aNU.c x)=V (.a<|x.gp.c):=rfl
def bpx{x:aNU}:aN (V 9) (aNU.c x)=V (.a<|aNU.c x):=rfl
def oe:=ai @bpy<|ai @bpz<|ai @bpA<|ai @bpr<|ai @bps<|ai @bpt<|ai @bpu<|ai @bpv<|ai @bpw<|@bpx
def boc{Y:ae}{x:aNU}:dG Y (.a<|aNU.c x)= .a (aNU.c x):=rfl
def arm:=@boc
section
variable{K:j4}{Y:ae}{i:Int}
end
def aNY(w:gz):aNU:=⟨w.init.gp,w.init.cells.map λv=>⟨v,U⟩,w.init.bU.map λv=>⟨v,U⟩,[],er (L w.ac) I,er (L w.ac) 0⟩
def a6w(w:gz)(c:aNU)(t:Int)(i:Nat):Bool:=Q ((gd w.ac i).aq=t)&&!Q ((i:Int)∈c.order)
def aH7(w:gz)(c:aNU)(t:Int):Int:=uo (a6w w c t)<|L w.ac
def aPQ(w:gz)(c:aNU)(t n:Int):Bool:=Q (n<gd w.init.count t.toNat)||(dh (oV w t<|n-gd w.init.count t.toNat) (L c.fixed)&&gd c.fixed (oV w t<|n-gd w.init.count t.toNat).toNat)
def aTF(w:gz)(c:aNU)(t:Int)(l:List Int):Bool:=l.all<|aPQ w c t
def evN(w:gz)(c:aNU)(t:Int):aP:=gd w.ac (aH7 w c t).toNat
def aID(w:gz)(c:aNU)(t:Int):Bool:=!Q (aH7 w c t<0)&&(jm w.aQ c.gp t (evN w c t).kind (evN w c t).f8&&aTF w c t (evN w c t).dI)
def aRD(w:gz)(c:aNU)(t:Int)(e:aP):aB9:=bif aTF w c t e.ep then⟨e.value,U⟩ else⟨0,I⟩
def aN2(w:gz)(c:aNU)(b:BF):aNU:=
 let k:=aH7 w c b.aq
 let e:=gd w.ac k.toNat
 let a:=cU w.aQ c.gp b.aq e.kind e.f8 b.amt
 {gp:=a.1,order:=c.order++[k],
  cells:=if e.kind=4 then c.cells.set e.f8.toNat (aRD w c b.aq e) else c.cells,
  bU:=if e.kind=22 then c.bU.set e.f8.toNat (aRD w c b.aq e) else c.bU,
  fixed:=if e.kind=3 then c.fixed.set k.toNat (Q<|gd c.cells e.f8.toNat=⟨e.value,U⟩) else if e.kind=23 then c.fixed.set k.toNat (Q<|gd c.bU e.f8.toNat=⟨e.value,U⟩) else c.fixed,
  woke:=if e.kind=18 then(if 0<=a.2 then c.woke.set k.toNat 1 else c.woke) else if e.kind=19 then c.woke.set k.toNat a.2 else c.woke}
def aNT(w:gz):aNU->List BF->Option aNU|c,[]=>V c|c,a::l=>if aID w c a.aq=U then aNT w (aN2 w c a) l else J
structure CfI(w:gz)(c:aNU):Prop where
 sy:kQ (L w.aQ.ay) c.gp
 ft:lh w.aQ c.gp=U
 ce:L c.cells=L w.aQ.cells
 fu:L c.bU=L w.aQ.bU
 fx:L c.fixed=L w.ac
 wk:L c.woke=L w.ac
 od:∀x∈c.order,aF (L w.ac) x
 nd:c.order.Nodup
def bka:∀(n:Nat) {l:List Int},l.Nodup->(∀x∈l,aF n x)->L l<=n
 |0,l,_,h=>by
  cases l with
  |nil=>simp
  |cons x l=>obtain⟨f,b⟩:=h x (by simp);omega
 |n+1,l,d,h=>by
  by_cases i:(n:Int)∈l
  ·have f:=bka n (d.erase (n:Int)) λx a=>by
    have b:=(d.mem_erase_iff).1 a
    obtain⟨c,g⟩:=h x b.2
    have j:=b.1
    exact⟨c,by omega⟩
   simp_all
  ·have f:=bka n d λx a=>by
    obtain⟨c,g⟩:=h x a
    have:x≠n:=λe=>i<|e▸a
    exact⟨c,by omega⟩
   omega
def CfI.ol{w:gz}{c:aNU}(h:CfI w c):L c.order<=L w.ac:=bka _ h.nd h.od
theorem bmY{p:Nat->Bool}{n:Nat}(h:0<=uo p n):∃k,uo p n=(k:Nat)/\k<n/\p k=U:=by grind [uo]
def bpd{l:List Int}:∀{s:aW},(l.foldl uE s).ak=s.ak/\(l.foldl uE s).done=s.done/\L (l.foldl uE s).ay=L s.ay:=by induction l with|nil=>simp|cons u l a=>grind [uE,ni]
def bis(s:aW)(x:aW×Int):Prop:=L x.1.ak=L s.ak/\L x.1.done=L s.done/\L x.1.ay=L s.ay
def bis.ite{s:aW}{c:Prop}[Decidable c]{a b:aW×Int}(d:bis s a)(e:bis s b):bis s (if c then a else b):=by grind
def bob{w:J9}{s:aW}{t kind f8 amt:Int}:bis s (cU w s t kind f8 amt):=by obtain⟨m1,b,c⟩:=bpd (l:=fO s f8) (s:=s);have a:(λ(s:aW) u=>ni s u {fA s u with cQ:=4})=uE:=rfl;unfold cU;rw[a];(repeat' apply bis.ite)<;>simp only[bis,ni,I9,zq,m1,b,c,aOe]
def boJ{w:J9}{s:aW}(h:lh w s=U)(t kind f8 amt:Int):lh w (cU w s t kind f8 amt).1=U:=by have a:=bob (w:=w) (s:=s) (t:=t) (kind:=kind) (f8:=f8) (amt:=amt);simp only[lh,bN,yp,a.1,a.2.1,a.2.2] at h⊢;exact h
def bjy{w:gz}{c:aNU}{t:Int}(h:aID w c t=U):∃k,aH7 w c t=(k:Nat)/\k<L w.ac/\(gd w.ac k).aq=t/\(k:Int)∉c.order/\jm w.aQ c.gp t (gd w.ac k).kind (gd w.ac k).f8=U/\aTF w c t (gd w.ac k).dI=U:=by simp only[aID,evN,bN,eH,aNK,aqC] at h;grind [bmY,a6w,aH7]
theorem CfI.step{w:gz}{c:aNU}(h:CfI w c){a:BF}(e:aID w c a.aq=U):CfI w (aN2 w c a):=by obtain⟨k,d,f,g,i,b,j⟩:=bjy e;simp only[jm,bN] at b;refine⟨h.sy.apply _ _ _ _ _<|dX.1 b.2.1,boJ h.ft _ _ _ _,?_,?_,?_,?_,?_,?_⟩<;>simp only[aN2,d];have:=h.ce;grind;have:=h.fu;grind;have:=h.fx;grind;have:=h.wk;grind;grind [CfI.od,dJ];grind [CfI.nd]
def bhV{w:gz}(b:bcV w=U):CfI w (aNY w):=by obtain⟨c,hs⟩:=aQA b;obtain⟨g,f,d,e,a⟩:=tC c;simp only[fN,bN,yp] at a;exact⟨Bq b 0<|Nat.zero_le _,a.1,by grind [aNY],by grind [aNY],by simp[aNY],by simp[aNY],by simp[aNY],by simp[aNY]⟩
def CfI.run{w:gz}:∀{l:List BF} {c b:aNU},CfI w c->aNT w c l=V b->CfI w b
 |[],c,b,h,a=>by grind [aNT]
 |ch::l,c,b,h,a=>by
  simp only[aNT] at a
  split at a
  ·exact CfI.run (h.step ‹_›) a
  ·cases a
def btm(e:aP):Int:=if e.kind=18/\0<=e.value/\e.value<4 then e.value else-1
def bsF(e:aP):BF:=⟨e.aq,btm e⟩
def btA(l:List Int):List aB9:=l.map λv=>⟨v,U⟩
def bdT(k:Nat):List Int:=(aH k).map λ(i:Nat)=>(i:Int)
structure btr(w:gz)(k:Nat)(c:aNU):Prop where
 sy:c.gp=(cY w k).gp
 ce:c.cells=btA (cY w k).cells
 fu:c.bU=btA (cY w k).bU
 od:c.order=bdT k
 fl:L c.fixed=L w.ac
 fx:∀i,i<k->fR (gd w.ac i)=U->gd c.fixed i=U
def bz0{k i:Nat}:(i:Int)∈bdT k↔i<k:=by simp only[bdT,dN,fq];exact⟨λ⟨a,h,e⟩=>by omega,λh=>⟨i,h,rfl⟩⟩
section
variable{w:gz}{c:aNU}{k:Nat}
def bBx:btr w 0 (aNY w):=⟨rfl,rfl,rfl,rfl,by simp[aNY],λi h=>by omega⟩
def bBq(a:btr w k c)(d:k<L w.ac):aH7 w c (gd w.ac k).aq=k:=by unfold aH7;refine KW d ?_ λj b=>?_;simp only[a6w,a.od,bz0];simp;simp only[a6w,a.od,bz0];simp[b]
def bzN(s:bcV w=U)(a:btr w k c)(t:k<L w.ac)(r:aF (L w.init.count) (gd w.ac k).aq){l:List Int}(p:lZ l<|gd (cY w k).count (gd w.ac k).aq.toNat)(q:∀n∈l,qU w (gd w.ac k).aq n=U):aTF w c (gd w.ac k).aq l=U:=by unfold aTF;rw[dV];intro x g;have b:=q x g;simp only[qU,aPQ,fH,yp] at b⊢;rcases b with b|b;exact .inl b;by_cases h:x<gd w.init.count (gd w.ac k).aq.toNat;exact .inl h;right;obtain⟨j,e,rfl⟩:=ou g;have i:=(p j e).2.1;rw[bT e,(axw s r k<|by omega).1] at i;obtain⟨m,o⟩:∃m:Nat,l[j]-gd w.init.count (gd w.ac k).aq.toNat=m:=⟨(l[j]-gd w.init.count (gd w.ac k).aq.toNat).toNat,by omega⟩;have d:m<L (fj w.ac (gd w.ac k).aq k):=(by omega);have f:gd (fj w.ac (gd w.ac k).aq k) m<k:=(by have:=asq d;simp only[fj,jW,fq] at this;exact this.1);rw[o,aEv (by omega) d] at b⊢;simp only[bh,bN,fH,yp] at b⊢;refine⟨dX.2<|by rw[a.fl];exact dJ<|by omega,a.fx _ f ?_⟩;simp only[fR,fH,yp];exact b.2
theorem bsX(i:bcV w=U)(h:k<L w.ac):jm w.aQ (cY w k).gp (gd w.ac k).aq (gd w.ac k).kind (gd w.ac k).f8=U/\fN w.aQ (cY w k)=U/\lZ (gd w.ac k).dI (gd (cY w k).count (gd w.ac k).aq.toNat)/\lZ (gd w.ac k).ep (gd (cY w k).count (gd w.ac k).aq.toNat)/\aO8 (cY w k) (gd w.ac k)=U/\(∀n∈(gd w.ac k).dI,qU w (gd w.ac k).aq n=U)/\(∀n∈(gd w.ac k).ep,qU w (gd w.ac k).aq n=U)/\be3 w.aQ (cY w k) (gd w.ac k)=U:=by have b:=i;simp only[bcV,bN,eH,yp] at b;have d:=b.2.2 k h;simp only[xH,cP,fK,yp] at d;obtain⟨⟨e,f⟩,g⟩:=d;have a:=e;simp only[be3,aOL,bip,eH,cP,fK,yp] at a;exact⟨a.1.2,a.1.1.1.1.1,a.2.2.2.2.1.1,a.2.2.2.2.1.2,a.2.2.2.2.2,f,g,e⟩
def bAA{w:J9}{s:aW}{t kind f8 a b:Int}(h:kind≠18):cU w s t kind f8 a=cU w s t kind f8 b:=by unfold cU;simp only[h,brW]
def bzQ{l:List Int}{i:Nat}(h:i<L l):gd (btA l) i=⟨gd l i,U⟩:=by rw[bT (by simpa[btA] using h),bT h];simp[btA]
def bBT(l:bcV w=U)(r:pN (gd w.ac k)=I)(a:btr w k c)(g:k<L w.ac):aID w c (gd w.ac k).aq=U/\btr w (k+1) (aN2 w c<|bsF<|gd w.ac k):=by obtain⟨n,x,y,z,j,A,B,C⟩:=bsX l g;have q:(gd w.ac k).kind≠18:=(by simp only[pN,cP,aNK] at r;exact r.1);have u:=bBq a g;obtain⟨H,o,D,K⟩:=alS n;have t:aF (L w.init.count) (gd w.ac k).aq:=(by have:=(Bx l).2.2.2.2;rw[this];exact D);have F:=bzN l a g t y A;have s:=bzN l a g t z B;have hs:cY w (k+1)=oc w.aQ (cY w k) (gd w.ac k):=(by show nD w.aQ (cY w k) (gd w.ac k)=_;rw[nD,C];rfl);have v:=x;simp only[fN,bN,yp] at v;obtain⟨z1,z2,z3,N⟩:=v;refine⟨?_,?_⟩;simp only[aID,evN,u,a.sy,bh,n,F];simp;simp only[aN2,bsF,u,bh];refine⟨?_,?_,?_,?_,?_,?_⟩;rw[hs,a.sy,oc];exact brR Prod.fst<|bAA q;rw[hs,a.ce,oc];simp only[aRD,s,bie];split;simp only[btA,vB];rfl;rw[hs,a.fu,oc];simp only[aRD,s,bie];split;simp only[btA,vB];rfl;simp only[a.od,bdT,qn,dg];rfl;simp only[];split;rw[zq];exact a.fl;split;rw[zq];exact a.fl;exact a.fl;intro i M d;simp only[];have m:∀b,i≠k->gd (c.fixed.set k b) i=U:=λb G=>(by have p:=a.fx i (by omega) d;unfold gd at p⊢;rw[eI,List.getElem?_set_ne (by omega),<-eI];exact p);have new:∀b,b=U->gd (c.fixed.set k b) k=U:=λb E=>(by unfold gd;rw[eI,List.getElem?_set_self<|by rw[a.fl];exact g];exact E);by_cases f:i=k;subst f;simp only[fR,fH,yp] at d;rcases d with e|e;have h:=qP o (by omega) (by omega);rw[lC e];refine new _<|brS ?_;rw[a.ce,bzQ (by rw[z2];have:=h.1;have:=h.2;omega)];simp only[aO8,e,brp,bie,yp] at j;rw[j];have h:=oU o (by omega) (by omega);rw[j5 (by omega),lC e];refine new _<|brS ?_;rw[a.fu,bzQ (by rw[z3];have:=h.1;have:=h.2;omega)];simp[aO8,e] at j;rw[j];split;exact m _ f;split;exact m _ f;exact a.fx i (by omega) d
def bAa(f:bcV w=U)(e:∀i,i<L w.ac->pN (gd w.ac i)=I):∀{m k:Nat} {c:aNU},k+m=L w.ac->btr w k c->∃b,aNT w c ((w.ac.drop k).map bsF)=V b/\btr w (L w.ac) b
 |0,k,c,h,a=>by
  obtain rfl:k=L w.ac:=by omega
  exact⟨c,by rw[Gz];rfl,a⟩
 |m+1,k,c,h,a=>by
  have d:k<L w.ac:=by omega
  obtain⟨g,j⟩:=bBT f (e k d) a d
  obtain⟨b,l,n⟩:=bAa f e (m:=m) (k:=k+1) (by omega) j
  refine⟨b,?_,n⟩
  rw[aWc d,ji,aNT]
  rw[lC<|show aID w c (bsF<|gd w.ac k).aq=U from g]
  exact l
end
def bsn{α:Type}[Inhabited α]{l:List α}{i j:Nat}{x:α}:gd (l.set i x) j=if i=j/\i<L l then x else gd l j:=by simp only[gd,eI,List.getElem?_set];by_cases h:i=j;subst h;by_cases a:i<L l;simp[a];simp[a];simp[h]
def bBS{w:J9}{s:aW}{t kind f8 amt u:Int}(q:kind≠18)(r:kind≠19)(y:aF (L s.ay) t)(v:kind=20->aF (L s.ay) f8)(E:0<=u):(fA (cU w s t kind f8 amt).1 u).cQ=if u=t/\kind=1 then 2 else if u=t/\kind=2 then 5 else if u=t/\kind=16 then 3 else if u=t/\kind=17 then 2 else if u=f8/\kind=20 then 1 else(fA s u).cQ:=by have A:=y.1;have C:=y.2;have p:∀x:Int,0<=x->(x.toNat=u.toNat↔u=x):=λx F=>(by omega);have b:t.toNat<L s.ay:=(by omega);have c:(t.toNat=u.toNat)=(u=t):=aPe<|p t A;by_cases a:kind=20;have B:=(v a).1;have D:=(v a).2;have z:f8.toNat<L s.ay:=(by omega);subst a;simp[cU,fA,ni,bsn,p _ B,z];split<;>rfl;by_cases j:kind=1;subst j;simp[cU,fA,ni,bsn,b,c];split<;>simp_all;by_cases k:kind=2;subst k;simp[cU,fA,ni,bsn,b,c];split<;>simp_all;by_cases l:kind=6\/kind=10;rcases l with rfl|rfl<;>simp[cU,fA,I9];by_cases m:kind=7\/kind=11;rcases m with rfl|rfl<;>simp[cU,fA,I9];by_cases n:kind=8;subst n;simp[cU,fA,I9];by_cases o:kind=9;subst o;simp[cU,fA,I9];by_cases d:kind=12;subst d;simp[cU,fA];by_cases e:kind=13;subst e;simp[cU,fA];by_cases f:kind=14;subst f;simp[cU,fA,ni,bsn,b,c];split<;>simp_all;by_cases g:kind=15;subst g;simp[cU,fA,ni,bsn,b,c];split<;>simp_all;by_cases h:kind=16;subst h;simp[cU,fA,ni,I9,bsn,b,c];split<;>simp_all;by_cases i:kind=17;subst i;simp[cU,fA,ni,I9,bsn,b,c];split<;>simp_all;simp[cU,fA,a,j,k,l,m,n,o,d,e,f,g,h,i,q,r];split<;>rfl
def bAH{w:J9}{s:aW}{t kind f8 amt:Int}(n:kind≠18)(o:kind≠19):(cU w s t kind f8 amt).1.done=if kind=22 then s.done.set f8.toNat U else s.done:=by by_cases h:kind=1;subst h;simp[cU,ni];by_cases i:kind=2;subst i;simp[cU,ni];by_cases j:kind=6\/kind=10;rcases j with rfl|rfl<;>simp[cU,I9];by_cases k:kind=7\/kind=11;rcases k with rfl|rfl<;>simp[cU,I9];by_cases l:kind=8;subst l;simp[cU,I9];by_cases m:kind=9;subst m;simp[cU,I9];by_cases a:kind=12;subst a;simp[cU];by_cases b:kind=13;subst b;simp[cU];by_cases c:kind=14;subst c;simp[cU,ni];by_cases d:kind=15;subst d;simp[cU,ni];by_cases e:kind=16;subst e;simp[cU,ni,I9];by_cases f:kind=17;subst f;simp[cU,ni,I9];by_cases g:kind=20;subst g;simp[cU,ni];simp[cU,h,i,j,k,l,m,a,b,c,d,e,f,g,n,o];split<;>rfl
def buN{w:J9}{s:aW}{t kind f8:Int}(h:lc w s t kind f8=U):(kind=1->(fA s t).cQ=1)/\(kind=17->(fA s t).cQ=4)/\(kind≠1->kind≠17->(fA s t).cQ=2)/\(kind=20->(fA s f8).cQ=0)/\(kind=21->(fA s f8).cQ=5)/\(kind=22->gd s.done f8.toNat=I)/\(kind=23->gd s.done f8.toNat=U):=by unfold lc at h;by_cases c:kind=1;subst c;simp at h;simp[fA,h];by_cases a:kind=17;subst a;simp at h;simp[fA,h];have b:(gd s.ay t.toNat).cQ=2:=(by by_cases b:(gd s.ay t.toNat).cQ=2;exact b;simp[c,a,b] at h);refine⟨λe=>aPo e c,λe=>aPo e a,λ_ _=>b,λe=>?_,λe=>?_,λe=>?_,λe=>?_⟩<;>subst e<;>simp[b] at h<;>simp[fA,h]
section
variable{w:gz}(hf:hU w)(hv:bcV w=U)(hn:∀i,i<L w.ac->pN (gd w.ac i)=I)
include hf hv hn
theorem bu3{k:Nat}(g:k<L w.ac):lc w.aQ (cY w k).gp (gd w.ac k).aq (gd w.ac k).kind (gd w.ac k).f8=U/\named w.aQ (gd w.ac k).kind (gd w.ac k).f8=U/\aF (L w.aQ.ay) (gd w.ac k).aq/\aF (L (cY w k).gp.ay) (gd w.ac k).aq/\L (cY w k).gp.ay=L w.aQ.ay:=by obtain⟨c,_⟩:=bsX hv g;obtain⟨d,e,a,f⟩:=alS c;obtain⟨g1,h,i,b⟩:=iY f;exact⟨d,e,a,by rw[b];exact a,b⟩
theorem byN{k:Nat}(a:k<L w.ac){u:Int}(f:0<=u):(fA (cY w<|k+1).gp u).cQ=if u=(gd w.ac k).aq/\(gd w.ac k).kind=1 then 2 else if u=(gd w.ac k).aq/\(gd w.ac k).kind=2 then 5 else if u=(gd w.ac k).aq/\(gd w.ac k).kind=16 then 3 else if u=(gd w.ac k).aq/\(gd w.ac k).kind=17 then 2 else if u=(gd w.ac k).f8/\(gd w.ac k).kind=20 then 1 else(fA (cY w k).gp u).cQ:=by obtain⟨_,b,_,c,d⟩:=bu3 hf hv hn a;have h:=hn k a;simp only[pN,cP,aNK] at h;rw[aoF (vd hf hv) a];exact bBS h.1 h.2 c (λe=>by rw[d];exact Eb b (by omega)<|by omega) f
theorem bAn{u:Int}(b:0<=u):∀{m k:Nat},k<=m->m<=L w.ac->(fA (cY w k).gp u).cQ≠0->(fA (cY w m).gp u).cQ≠0
 |0,k,h,_,a=>by
  obtain rfl:k=0:=by omega
  exact a
 |m+1,k,h,e,a=>by
  rcases jj k (m+1) with c|c
  ·have d:=bAn b (m:=m) (k:=k) (by omega) (by omega) a
   rw[byN hf hv hn (by omega) b]
   repeat' split
   all_goals first|omega|exact d
  ·obtain rfl:k=m+1:=by omega
   exact a
theorem bAm{u:Int}(b:0<=u):∀{m k:Nat},k<=m->m<=L w.ac->(fA (cY w k).gp u).cQ=5->(fA (cY w m).gp u).cQ=5
 |0,k,h,_,a=>by
  obtain rfl:k=0:=by omega
  exact a
 |m+1,k,h,o,a=>by
  rcases jj k (m+1) with j|j
  ·have l:=bAm b (m:=m) (k:=k) (by omega) (by omega) a
   obtain⟨d,f,g,i,n⟩:=buN (bu3 hf hv hn<|show m<L w.ac by omega).1
   rw[byN hf hv hn (by omega) b]
   generalize gd w.ac m=e at*
   generalize(cY w m).gp=s at*
   split
   ·rename_i c;have:=d c.2;rw[<-c.1] at this;omega
   split
   ·rfl
   split
   ·rename_i c;have:=g (by omega) (by omega);rw[<-c.1] at this;omega
   split
   ·rename_i c;have:=f c.2;rw[<-c.1] at this;omega
   split
   ·rename_i c;have:=i c.2;rw[<-c.1] at this;omega
   exact l
  ·obtain rfl:k=m+1:=by omega
   exact a
theorem bAl{u:Int}(b:0<=u):∀{m:Nat},m<=L w.ac->(fA (cY w m).gp u).cQ=4->(fA w.init.gp u).cQ=4/\btc w.ac u m=J
 |0,_,a=>⟨a,rfl⟩
 |m+1,k,a=>by
  rw[byN hf hv hn (by omega) b] at a
  repeat' split at a
  all_goals first|omega|skip
  rename_i g h d i j
  obtain⟨e,f⟩:=bAl b (m:=m) (by omega) a
  refine⟨e,?_⟩
  rw[btc,j5<|λc=>d ⟨c.1.symm,c.2⟩]
  exact f
theorem bzM{k:Nat}(a:k<L w.ac):(cY w<|k+1).gp.done=if(gd w.ac k).kind=22 then(cY w k).gp.done.set (gd w.ac k).f8.toNat U else(cY w k).gp.done:=by have h:=hn k a;simp only[pN,cP,aNK] at h;rw[aoF (vd hf hv) a];exact bAH h.1 h.2
theorem bzK{k:Nat}(f:k<L w.ac)(h:(gd w.ac k).kind=22\/(gd w.ac k).kind=23):(gd w.ac k).f8.toNat<L (cY w k).gp.done/\0<=(gd w.ac k).f8:=by obtain⟨a,_⟩:=bsX hv f;obtain⟨g,b,i,c⟩:=alS a;obtain⟨g1,j,d,l⟩:=iY c;have:=oU b (by omega) (by omega);have e:=this.1;have m:=this.2;exact⟨by rw[d];omega,e⟩
theorem bzL{o:Nat}:∀{m k:Nat},k<=m->m<=L w.ac->gd (cY w k).gp.done o=U->gd (cY w m).gp.done o=U
 |0,k,h,_,a=>by
  obtain rfl:k=0:=by omega
  exact a
 |m+1,k,h,d,a=>by
  rcases jj k (m+1) with b|b
  ·have c:=bzL (m:=m) (k:=k) (by omega) (by omega) a
   rw[bzM hf hv hn<|by omega]
   split
   ·rw[bsn];split<;>simp_all
   ·exact c
  ·obtain rfl:k=m+1:=by omega
   exact a
theorem byf{o:Nat}:∀{m:Nat},m<=L w.ac->gd (cY w m).gp.done o=U->(∀i,i<m->¬((gd w.ac i).kind=22/\(gd w.ac i).f8.toNat=o))->gd w.init.gp.done o=U
 |0,_,a,_=>a
 |m+1,f,a,b=>by
  rw[bzM hf hv hn<|by omega] at a
  split at a
  ·rename_i c
   rw[bsn,j5<|λd=>b m (by omega) ⟨c,d.1⟩] at a
   exact byf (by omega) a λi e=>b i (by omega)
  ·exact byf (by omega) a λi e=>b i (by omega)
theorem bBQ{j:Nat}(r:j<L w.ac)(h:0<=kr w j):kr w j<j:=by obtain⟨q,m⟩:=azY h;obtain⟨i,l⟩:∃i:Nat,kr w j=i:=⟨(kr w j).toNat,by omega⟩;have k:pV (gd w.ac j) (gd w.ac i)=U:=(by have:uo (λi=>pV (gd w.ac ((j:Int)).toNat)<|gd w.ac i) (L w.ac)=i:=l;rw[this] at m;simpa using m);have b:i<L w.ac:=(by have:uo (λi=>pV (gd w.ac ((j:Int)).toNat)<|gd w.ac i) (L w.ac)=i:=l;rw[this] at q;omega);rw[l];rcases Nat.lt_trichotomy i j with d|d|d;omega;subst d;simp only[pV,fH,bN,yp] at k;omega;exfalso;obtain⟨a1,y,n,z,A⟩:=bu3 hf hv hn r;obtain⟨o,B,p,C,D⟩:=bu3 hf hv hn b;obtain⟨p1,E,F,G,s,H,t⟩:=buN a1;obtain⟨K,M,u,v,N,x,O⟩:=buN o;simp only[pV,fH,bN,yp] at k;rcases k with(⟨e,f,c⟩|⟨e,f,c⟩)|⟨e,f,c⟩;have g:=p1 e;have a:=v f;rw[c] at a;exact bAn hf hv hn n.1 (aYB d) (aYB b) (by omega) a;have g:=s e;have a:=u (by omega) (by omega);rw[c] at a;have:=bAm hf hv hn (by rw[<-c];exact p.1) (aYB d) (aYB b) g;omega;have g:=t e;have a:=x f;rw[c] at a;rw[bzL hf hv hn (aYB d) (aYB b) g] at a;cases a
theorem bBs{k:Nat}(a:k<L w.ac)(h:(gd w.ac k).kind=17):(bh0 w k).2=I:=by
 obtain⟨a1,f,b,g,i⟩:=bu3 hf hv hn a
 obtain⟨c,d⟩:=bAl hf hv hn b.1 (aYB a)<|(buN a1).2.1 h
 unfold bh0
 rw[bh,d]
 simp only[]
 rw[j5 (show¬(gd w.init.gp.ay (gd w.ac k).aq.toNat).cQ=3 fromλe=>by
  have:(gd w.init.gp.ay (gd w.ac k).aq.toNat).cQ=4:=c
  omega)]
end
def bAy{w:J9}{s:aW}{e:aP}{Lw a r amt:Int}(l:jm w s e.aq e.kind e.f8=U)(m:0<=Lw/\Lw<=L w.ak)(h:lK w Lw e=Lw):xo w Lw (cU w s e.aq e.kind e.f8 amt).1 ⟨e.aq,a,r,(dD w e).2⟩:=by obtain⟨o,i,q,hf⟩:=alS l;obtain⟨fc,fl,p,n⟩:=iY hf;unfold xo;by_cases g:Lw=L w.ak;grind [lK,cU,dD];rw[j5 g];rw[lK,bmL g,bkl] at h;have c:aF (L s.ak) Lw:=⟨m.1,by rw[fl];omega⟩;by_cases t:e.kind=6\/e.kind=10;grind [dD,cU,aDe];by_cases k:e.kind=8;have d:e.f8=Lw:=(by grind [dD]);have f:(dD w e).2=U:=(by simp[dD,k]);rw[f,lC rfl];rw[cU,j5 (by omega),j5 (by omega),j5 (by omega),j5 (by omega),lC k,d];simp only[aDe c];simp only[mP,List.foldl_cons,aRl];exact aFa<|.inr rfl;by_cases b:e.kind=17;have j:=oT i (by omega) (by omega);have d:(gd w.bC e.f8.toNat).eg=Lw:=(by rw[<-h];simp[dD,b,sd,dX.2 j]);have f:(dD w e).2=I:=(by simp[dD,b]);rw[f,j5<|by simp];simp only[cU,b];simp[d,Qk,aDe c];grind [dD]
theorem bz7{E:aP->Bool}{l:List aP}{x:bp}{m:Nat}(h:0<=fT E l x m):∀{n:Nat},m<=n->fT E l x n=fT E l x m
 |0,b=>by
  obtain rfl:m=0:=by omega
  rfl
 |n+1,b=>by
  rcases jj m (n+1) with a|a
  ·have c:=bz7 h (n:=n) (by omega)
   grind [fT]
  grind
def tkn(w:gz)(a:Nat):bp:=⟨(gd w.ac a).aq,a,-1,(dD w.aQ<|gd w.ac a).2⟩
section
variable{w:gz}(hf:hU w)(hv:bcV w=U)
include hf hv
theorem bAs{a:Nat}(b:a<L w.ac):0<=(gd w.ac a).aq:=((alS (bsX hv b).1).2.2.1).1
theorem bAr{Lw:Int}(d:0<=Lw/\Lw<=L w.aQ.ak){a:Nat}(f:a<L w.ac)(c:lK w.aQ Lw (gd w.ac a)=Lw):∀{k:Nat},a<k->k<=L w.ac->fT (gZ w.aQ Lw) w.ac (tkn w a) k<0->xo w.aQ Lw (cY w k).gp (tkn w a)
 |0,h,_,_=>by omega
 |k+1,h,l,i=>by
  have b:=vd hf hv
  rcases jj a k with e|e
  ·have g:=QP (show k<=k+1 by omega) i
   have m:boU (gZ w.aQ Lw) w.ac (tkn w a) k=I:=by
    grind [fT]
   rw[aoF b<|by omega]
   refine aEW (Kk b<|by omega).1 d (by grind [kQ.rd,vL.sy]) (bAs hf hv f) (bAr d f c e (by omega) g) λj=>?_
   grind [boU,gZ,tkn]
  ·obtain rfl:a=k:=by omega
   rw[aoF b<|by omega]
   exact bAy (Kk b<|by omega).1 d c
theorem bAJ{Lw:Int}(h:0<=Lw/\Lw<=L w.aQ.ak){x:bp}(g:x∈nu w.aQ w.init.gp Lw\/∃a,a<L w.ac/\lK w.aQ Lw (gd w.ac a)=Lw/\x=tkn w a){b:Nat}(l:b<L w.ac)(d:lK w.aQ Lw (gd w.ac b)=Lw)(z:x.dD<b)(t:x.aq≠(gd w.ac b).aq)(e:¬(x.read=U/\(dD w.aQ<|gd w.ac b).2=U)):0<=fT (gZ w.aQ Lw) w.ac x (L w.ac)/\fT (gZ w.aQ Lw) w.ac x (L w.ac)<b:=by have j:=vd hf hv;obtain⟨n,y,f,m,s⟩:=Bx hv;obtain⟨fc,fl,A,q⟩:=iY m;rcases Int.lt_or_le (fT (gZ w.aQ Lw) w.ac x b) 0 with o|o;exfalso;rcases g with g|⟨a,k,r,rfl⟩;obtain⟨u,G,B,C,D,p⟩:=uu g;refine asn (Kk j l).1 h (by omega) (by grind [amB]) d e (λi c=>?_)<|axy f;rw[j5 i,lC c] at p;have E:=(n Lw.toNat<|by omega).1;grind [AM];refine asn (Kk j l).1 h (bAs hf hv k) (by grind [bAr,tkn]) d e (λi c=>?_)<|axy f;have F:(gd w.ac a).kind=8:=(by have:(dD w.aQ<|gd w.ac a).2=U:=c;grind [aso]);obtain⟨_,v,_⟩:=alS (bsX hv k).1;grind [lK,dD,named];grind [bz7,an9]
end
def aTH(w:gz)(r:aP):Nat->Int|0=> -1|k+1=>if aTG (gd w.ac k) r=U then k else aTH w r k
def bwA{w:gz}{r:aP}:∀{k:Nat},-1<=aTH w r k/\aTH w r k<k
 |0=>by simp[aTH]
 |k+1=>by
  have:=bwA (w:=w) (r:=r) (k:=k)
  grind [aTH]
def bzY{w:gz}{r:aP}:∀{k:Nat},0<=aTH w r k->aTG (gd w.ac (aTH w r k).toNat) r=U
 |0,h=>by simp[aTH] at h
 |k+1,h=>by
  rw[aTH] at h⊢
  split
  ·simp_all
  ·rename_i c;rw[j5 c] at h;exact bzY h
theorem byC{w:gz}{r:aP}:∀{k i:Nat},i<k->aTH w r k<i->aTG (gd w.ac i) r=I
 |0,i,h,_=>by omega
 |k+1,i,h,a=>by
  rw[aTH] at a
  split at a
  ·omega
  ·rename_i c
   rcases jj i k with b|b
   ·exact byC b a
   grind
section
variable{w:gz}(hf:hU w)(hv:bcV w=U)
include hf hv
theorem bAh{k:Nat}(a:k<L w.ac):cY w (k+1)=oc w.aQ (cY w k) (gd w.ac k):=by grind [nD,cY,bsX]
theorem bzJ{r:aP}(e:r.kind=3)(a:aF (L w.aQ.cells) r.f8):∀{k:Nat},k<=L w.ac->gd (cY w k).cells r.f8.toNat=if aTH w r k<0 then gd w.init.cells r.f8.toNat else(gd w.ac (aTH w r k).toNat).value
 |0,_=>by simp[aTH];rfl
 |k+1,m=>by
  have n:=bzJ e a (k:=k) (by omega)
  have f:=(bsX hv<|show k<L w.ac by omega).2.1
  simp only[fN,bN,yp] at f
  have l:=bwA (w:=w) (r:=r) (k:=k)
  obtain⟨_,c,_⟩:=alS (bsX hv<|show k<L w.ac by omega).1
  rw[bAh hf hv (by omega),oc,aTH]
  simp only[]
  have g:=a.1
  have h:=a.2
  by_cases b:(gd w.ac k).kind=4
  ·have d:=qP c (by omega) (by omega)
   have i:=d.1
   have j:=d.2
   rw[lC b,bsn]
   grind [aTG]
  grind [aTG]
theorem bzP{r:aP}(e:r.kind=23)(a:aF (L w.aQ.bU) r.f8):∀{k:Nat},k<=L w.ac->gd (cY w k).bU r.f8.toNat=if aTH w r k<0 then gd w.init.bU r.f8.toNat else(gd w.ac (aTH w r k).toNat).value
 |0,_=>by simp[aTH];rfl
 |k+1,n=>by
  have o:=bzP e a (k:=k) (by omega)
  have f:=(bsX hv<|show k<L w.ac by omega).2.1
  simp only[fN,bN,yp] at f
  have m:=bwA (w:=w) (r:=r) (k:=k)
  obtain⟨_,c,_⟩:=alS (bsX hv<|show k<L w.ac by omega).1
  rw[bAh hf hv (by omega),oc,aTH]
  simp only[]
  have g:=a.1
  have h:=a.2
  by_cases b:(gd w.ac k).kind=22
  ·have d:=oU c (by omega) (by omega)
   have j:=d.1
   have l:=d.2
   rw[lC b,bsn]
   grind [aTG]
  grind [aTG]
variable(hn:∀i,i<L w.ac->pN (gd w.ac i)=I)
include hn
theorem bBi{r:Nat}(c:r<L w.ac)(d:fR (gd w.ac r)=U):aTH w (gd w.ac r) r∈dx w r:=by have B:=bwA (w:=w) (r:=gd w.ac r) (k:=r);obtain⟨l,t,u,v,x,_⟩:=bsX hv c;obtain⟨m,y,z,A⟩:=alS l;have n:(∀h:(gd w.ac r).kind=3,(gd w.ac r).value=gd (cY w r).cells (gd w.ac r).f8.toNat)/\(∀h:(gd w.ac r).kind=23,(gd w.ac r).value=gd (cY w r).bU (gd w.ac r).f8.toNat):=(by grind [aO8]);unfold dx;rw[dX.2<|dJ c,bh,d];simp only[Bool.and_self,bie];rw[dF];have j:=d;simp only[fR,fH,yp] at j;have a:(gd w.ac r).value=if aTH w (gd w.ac r) r<0 then(if(gd w.ac r).kind=23 then gd w.init.bU (gd w.ac r).f8.toNat else gd w.init.cells (gd w.ac r).f8.toNat) else(gd w.ac (aTH w (gd w.ac r) r).toNat).value:=(by grind [bzJ,qP,bzP,oU]);by_cases f:aTH w (gd w.ac r) r<0;left;have p:aTH w (gd w.ac r) r= -1:=(by omega);rw[lC f] at a;have g:oM w (gd w.ac r)=U:=(by unfold oM;rcases j with b|b;simp_all;rw[brS b,bie];rw[lC b] at a;have C:gd w.init.gp.done (gd w.ac r).f8.toNat=U:=byf hf hv hn (aYB c) ((buN m).2.2.2.2.2.2 b) λi g ⟨e,q⟩=>(by have:=byC g (show aTH w (gd w.ac r) r<i by omega);have o1:=(bzK hf hv hn (by omega)<|.inl e).2;have D:=(bzK hf hv hn c<|.inr b).2;simp[aTG,e,b] at this;omega);simp_all);simp_all;right;obtain⟨s,hs⟩:∃s:Nat,aTH w (gd w.ac r) r=s:=(by grind);have o:=bzY (show 0<=aTH w (gd w.ac r) r by omega);rw[j5 f] at a;rw[hs,bh] at a o;rw[hs,bBn];refine⟨s,by omega,?_,rfl⟩;grind [mr]
end
def bs4(x:Int):Int:=if 0<x then x-1 else if x<0 then-(x+1) else-1
def bsd(bs:List Bool)(x:Int):Bool:=Q (0<=bs4 x)&&(Q (bs4 x<L bs)&&Q (gd bs (bs4 x).toNat=Q (0<x)))
def btt(bs:List Bool)(c:List Int):Prop:=∃x∈c,bsd bs x=U
def bqH(bs:List Bool)(l:List<|List Int):Prop:=∀c∈l,btt bs c
section
variable{bs:List Bool}{x:Int}{c d:List Int}{l m:List (List Int)}
theorem bqH.nil:bqH bs []:=λc h=>by cases h
theorem bqH.cons(h:btt bs c)(b:bqH bs l):bqH bs (c::l):=λz a=>by
 rcases eW.1 a with rfl|a
 ·exact h
 ·exact b z a
theorem bqH.one(h:btt bs c):bqH bs [c]:= .cons h .nil
theorem bqH.app(h:bqH bs l)(a:bqH bs m):bqH bs (l++m):=λz b=>(dF.1 b).elim (h z)<|a z
def bqH.rng{f:Nat->List (List Int)}{k:Nat}(h:∀i,i<k->bqH bs (f i)):bqH bs ((aH k).flatMap f):=λz a=>by
 obtain⟨i,b,a⟩:=iI.1 a
 exact h i (fq.1 b) z a
theorem btt.at(h:bsd bs x=U)(a:x∈c):btt bs c:=⟨x,a,h⟩
end
theorem buo{ns:List aH8}{v:aH8->Bool}{x:aH8}(h:x∈ns):(v x=U->bsd (ns.map v) (dP ns x)=U)/\(v x=I->bsd (ns.map v) (-dP ns x)=U):=by have b:=List.idxOf_lt_length_of_mem h;have a:gd (ns.map v) (ns.idxOf x)=v x:=(by grind [bT]);grind [dP,bs4,bsd]
def bdZ(w:gz)(x:aH8):Bool:=bif Q (x.kind=1) then Q (x.a<x.b) else bif Q (x.kind=2)||Q (x.kind=3) then U else bif Q (x.kind=4) then Q (aTH w (gd w.ac x.a.toNat) x.a.toNat=x.b) else I
section
variable{ns:List aH8}{w:gz}(N:jb w ns)
include N
theorem h_E{x:Int}(h:aF (L w.ac) x):bsd (ns.map<|bdZ w) (lE ns x)=U:=(buo<|N.ex x h).1 rfl
theorem h_F{x:Int}(h:aF (L w.ac) x)(a:fR (gd w.ac x.toNat)=U):bsd (ns.map<|bdZ w) (lF ns x)=U:=(buo<|N.fx x h a).1 rfl
theorem h_B{x y:Int}(h:aF (L w.ac) x)(a:aF (L w.ac) y)(b:x<y):bsd (ns.map<|bdZ w) (lB ns x y)=U:=(buo<|N.bf x y h a<|by omega).1<|brS b
theorem bA3{x y:Int}(h:aF (L w.ac) x)(a:aF (L w.ac) y)(b:y<x):bsd (ns.map<|bdZ w) (-lB ns x y)=U:=(buo<|N.bf x y h a<|by omega).2 (bmL<|by show¬x<y;omega)
variable(hf:hU w)(hv:bcV w=U)(hn:∀i,i<L w.ac->pN (gd w.ac i)=I)
include hf hv hn
theorem bBK:bqH (ns.map<|bdZ w) (bqD ns w):=by unfold bqD jy;refine .app (.rng λx g=> .rng λy a=>?_) (.app (.rng λy a=>?_)<|.rng λj b=>?_);unfold my;split;exact .one (.at (h_B N (dJ g) (dJ a)<|by omega) (by simp));exact .nil;have i:=dJ a;have f:=anW (w:=w) (j:=y);unfold kY;split;rename_i h;have e:aF (L w.ac) (lw w.ac y):=⟨h,by omega⟩;exact .cons (.at (h_B N e i f) (by simp)) (.one<|.at (h_E N e) (by simp));exact .nil;have ij:=dJ b;unfold mA;split;rename_i h;obtain⟨is,k⟩:=aIp h;exact .cons (.at (h_E N is) (by simp)) (.one<|.at (h_B N is ij<|bBQ hf hv hn b h) (by simp));exact .nil
theorem bBI(a:aR ns 5=[]):bqH (ns.map<|bdZ w) (sN ns w<|aR ns 5):=by rw[a];unfold sN;simp only[aO1,List.range_zero,RN,dW];refine .rng λk b=>?_;unfold ng;grind [bqH.nil,bBs]
theorem bBJ(R:tP w)(S:GU w ns):bqH (ns.map<|bdZ w) (rJ ns w):=by have E:∀{r:Nat} {s:Int},r<L w.ac->fR (gd w.ac r)=U->s∈dx w r->(⟨4,(r:Int),s⟩:aH8)∈ns:=λf h n=>(jW.1 (S.eq _ f h▸CA n:(⟨4,_,_⟩:aH8)∈ns.filter (oa _))).1;unfold rJ;refine .app (.rng λr f=>?_) (.rng λi A=>?_);have o:=dJ f;unfold bqN;split;rename_i h;have F:=bBi hf hv hn f h;have H:=bwA (w:=w) (r:=gd w.ac r) (k:=r);refine .app (.cons (.at (h_E N o) (by simp)) (.one ?_)) (.rng λj q=>?_);exact .at (x:=lS ns r<|aTH w (gd w.ac r) r) (by grind [buo,bdZ]) (by grind);have n:=asq q;generalize gd (dx w r) j=s at*;by_cases hs:aTH w (gd w.ac r) r=s;have u:=S.ok r s n;unfold iP kD;refine .app ?_ (.rng λx D=>?_);split;obtain⟨e,y⟩:=u (by assumption);refine .app (.cons (.at (h_E N e) (by simp)) (.one<|.at (h_B N e o<|by omega) (by simp))) (.rng λk B=>?_);unfold pD;have:=R.fr s.toNat (by have:=e.1;have:=e.2;omega) _<|asq B;exact .one (.at (h_F N this.1 this.2) (by simp));exact .nil;have g:=dJ D;unfold bpl;split;exact .nil;rename_i z;simp only[not_or,Bool.not_eq_false] at z;have G:(r:Int)≠x:=(by grind [aTG]);have p:(x:Int)<s\/(r:Int)<x:=(by rcases jj x r with b|b;grind [byC];omega);split;obtain⟨e,y⟩:=u (by assumption);rcases p with b|b;exact .one (.at (h_B N g e b) (by simp));exact .one (.at (h_B N o g b) (by simp));rcases p with b|b;omega;exact .one (.at (h_B N o g b) (by simp));have t:bsd (ns.map<|bdZ w) (-lS ns r s)=U:=(buo<|E f h n).2 (by simp[bdZ,hs]);have v:∀{l:List (List Int)},(∀c∈l,-lS ns r s∈c)->bqH (ns.map<|bdZ w) l:=λC c a=> .at t (C c a);refine v ?_;intro c a;unfold iP kD at a;rcases dF.1 a with a|a;grind [pD];obtain⟨x,_,a⟩:=iI.1 a;grind [bpl];exact .nil;unfold kX qv;refine .rng λj q=>?_;have:=R.dp i A _<|asq q;exact .one (.at (h_F N this.1 this.2) (by simp))
omit hf hv hn in
theorem bAd{b e a:Int}(i:aF (L w.ac) b)(f:aF (L w.ac) a)(o:b≠a)(g:0<=e->aF (L w.ac) e)(j:b<a->0<=e/\e<a):bqH (ns.map<|bdZ w) (jI ns b e a):=by unfold jI;by_cases n:b<a;obtain⟨h,k⟩:=j n;rw[j5<|by omega];exact .cons (.at (h_E N<|g h) (by simp)) (.one<|.at (h_B N (g h) f k) (by simp));have:=bA3 N i f (by omega);grind [bqH.cons,btt.at,bqH.one]
theorem bBH:bqH (ns.map<|bdZ w) (oH ns w):=by unfold oH pE rL mw;refine .rng λLw K=> .rng λi M=> .rng λj O=>?_;have o:(0:Int)<=(Lw:Int)/\(Lw:Int)<=L w.aQ.ak:=(by omega);have e:i+1+j<L (jE w.aQ w.init.gp w.ac Lw):=(by grind);have P:=anV hf hv o i (i+1+j) (by omega) e;rw[show gd ((jE w.aQ w.init.gp w.ac Lw).drop<|i+1) j=gd (jE w.aQ w.init.gp w.ac Lw) (i+1+j) by unfold gd;simp];rw[Q5] at e P⊢;simp only[bJ] at e;rw[amr (show i<_ by omega),amr e] at P⊢;have cs:∀k,k<L (nu w.aQ w.init.gp Lw++oF w.aQ Lw w.ac (L w.ac))->gd (nu w.aQ w.init.gp Lw++oF w.aQ Lw w.ac (L w.ac)) k∈nu w.aQ w.init.gp Lw\/∃a,a<L w.ac/\lK w.aQ Lw (gd w.ac a)=Lw/\gd (nu w.aQ w.init.gp Lw++oF w.aQ Lw w.ac (L w.ac)) k=tkn w a:=λk D=>(by rcases amq D with⟨_,h⟩|⟨_,h⟩;exact .inl h;obtain⟨a,g,f,n⟩:=zL h;exact .inr ⟨a,g,f,n⟩);have ci:=cs i (by omega);have A:=cs (i+1+j) e;generalize gd (nu w.aQ w.init.gp Lw++oF w.aQ Lw w.ac (L w.ac)) i=p at*;generalize gd (nu w.aQ w.init.gp Lw++oF w.aQ Lw w.ac (L w.ac)) (i+1+j)=q at*;simp only[gk] at P⊢;unfold iA;split;exact .nil;rename_i g;simp only[not_or] at g;obtain⟨u,v,z⟩:=g;have P:=P u v;have G:∀{y:bp},(y∈nu w.aQ w.init.gp Lw\/∃a,a<L w.ac/\lK w.aQ Lw (gd w.ac a)=Lw/\y=tkn w a)->¬y.dD<0->∃a,a<L w.ac/\lK w.aQ Lw (gd w.ac a)=Lw/\y=tkn w a:=(by grind [uu]);have ex:∀{x y:bp},(x∈nu w.aQ w.init.gp Lw\/∃a,a<L w.ac/\lK w.aQ Lw (gd w.ac a)=Lw/\x=tkn w a)->(∃a,a<L w.ac/\lK w.aQ Lw (gd w.ac a)=Lw/\y=tkn w a)->x.aq≠y.aq->¬(x.read=U/\y.read=U)->x.dD<y.dD->0<=fT (gZ w.aQ Lw) w.ac x (L w.ac)/\fT (gZ w.aQ Lw) w.ac x (L w.ac)<y.dD:=λE F g f n=>(by obtain⟨b,C,t,rfl⟩:=F;exact bAJ hf hv o E C t n g f);split;rename_i f;rcases P.held f with h|⟨n,r,s,B⟩;simp_all;have:=ex (x:=p) (y:=q) ci (G A z) u v (by simp only at f z;omega);exact .cons (.at (h_E N r) (by simp)) (.one<|.at (h_B N r s this.2) (by simp));rename_i f;obtain⟨n,r,s,B,H⟩:=P.own (by omega);grind [bqH.app,bAd]
end
theorem bBg{w:gz}(hn:∀i,i<L w.ac->pN (gd w.ac i)=I):aR (cw w) 5=[]:=by grind [Qf,jp,List.flatMap_eq_nil_iff,pR]
def bBF{w:gz}(hf:hU w)(hv:bcV w=U)(hn:∀i,i<L w.ac->pN (gd w.ac i)=I):bqH ((cw w).map<|bdZ w) (brQ (cw w) w):=by obtain⟨N,R,S,_⟩:=byY hf hv;unfold brQ;exact .app (by grind [bqH.app,bBK,bBH,bBI,bBg])<|bBJ N hf hv hn R S
def a8d{l:List aB9}:∀r∈l.map aB9.c,L r=2:=by intro r a;obtain⟨y,_,rfl⟩:=dN.1 a;rfl
def bjU(w:gz)(c:aNU)(t:Int)(g:vL w/\CfI w c):Ct 179 [.a w.c, .a c.c,iv t] (·=iv (aH7 w c t)):=by obtain⟨i,f⟩:=g;have l:=i.wo.ev;have m:=f.ol;refine bqa rfl rfl λq p b d n=>?_;simp only[blD];refine bhZ (L w.ac) (λk=>∀j,j<k->a6w w c t j=I) (by simp) λk o hI=>?_;simp+contextual only[qz 19,aI,au,u0,u1,b,d,ix,rk,oe,ar,a6u,aj,bh];refine⟨λh=>⟨u7 h,λ_=>by omega,λe=>?_,λe=>?_⟩,λh=>?_⟩;grind [aH7,KW,a6w];grind [gS,a6w];grind [aH7,KX]
def bdU:FT:=qe bjU
def boz{w c t Lw K}:=f310 bdU bjU w c t Lw K (j:=by simp+contextual only[ij,aNX])
structure aC2(w:gz):Prop where
 wo:vL w
 ev:∀e∈w.ac,vo e
 sn:∀k,k<L w.ac->L (cY w k).cells<1000/\L (cY w k).bU<1000
 ct:L w.init.count=L w.aQ.ay/\∀c∈w.init.count,0<=c/\c<=400
 rd:∀k,k<L w.ac->∀x,x∈(gd w.ac k).dI\/x∈(gd w.ac k).ep-> -1000<=x/\x<=1000
def bnz{w:gz}(p:hU w)(h:bcV w=U):aC2 w:=by obtain⟨a,hs⟩:=aQA h;obtain⟨t,C,A,B,d⟩:=tC a;have o:L w.init.count=L w.aQ.ay:=(by simp only[fN,bN,yp] at d;exact d.2.2.2);refine⟨vd p h,p.2.2.1,λk s=>?_,⟨o,λc v=>by have:=t.cn c v;omega⟩,λk s x g=>?_⟩;have:=(wK a k<|by omega).ce;have:=(wK a k<|by omega).fu;omega;have e:=hs k s;simp only[be3,eH,cP] at e;have f:=e.1;have i:=e.2.2.2.2;simp only[aOL,cP,fK] at f;simp only[bip,cP,fK,yp] at i;obtain⟨⟨y,z⟩,E⟩:=i;have hI:=wK a k (by omega);have q:aF (L (cY w k).count) (gd w.ac k).aq:=(by have u:=dX.1 f.1.1.1.2;have m:=f.1.1.1.1;simp only[fN,bN,yp] at m;rw[m.2.2.2];exact u);have D:=hI.cn _<|ii q;have b:∀l:List Int,lZ l (gd (cY w k).count (gd w.ac k).aq.toNat)->x∈l-> -1000<=x/\x<=1000:=λl n g=>(by obtain⟨j,r,rfl⟩:=ou g;have:=n j r;rw[uJ,bT r] at this;omega);exact g.elim (b _ y)<|b _ z
def bcF(w:gz)(t:Int)(l:List Int):Prop:=L l<4611686018427387904/\(∀x∈l,-1000<=x/\x<=1000)/\aF (L w.init.count) t
theorem aC2.dI{w:gz}(h:aC2 w){k:Nat}(a:k<L w.ac):bcF w (gd w.ac k).aq (gd w.ac k).dI/\bcF w (gd w.ac k).aq (gd w.ac k).ep:=by have c:=h.ev _<|asq a;have d:=(h.wo.wo.named a).2;have e:=h.ct.1;refine⟨⟨c.1,λx b=>?_,by simp_all⟩,⟨c.2,λx b=>?_,by simp_all⟩⟩;exact h.rd k a x<|.inl b;exact h.rd k a x<|.inr b
theorem bmZ{w:gz}{c:aNU}{t:Int}{l:List Int}(h:∀j,j<L l->aPQ w c t (gd l j)=U):aTF w c t l=U:=by grind [aTF,List.mem_iff_getElem,bT]
theorem bjA{w:gz}{c:aNU}{t:Int}{l:List Int}{k:Nat}(a:k<L l)(h:aPQ w c t (gd l k)=I):aTF w c t l=I:=by grind [aTF,asq]
def bjT(w:gz)(c:aNU)(t:Int)(l:List Int)(r:aC2 w/\CfI w c/\bcF w t l):Ct 180 [.a w.c, .a c.c,iv t,sl ci l] (·=bv (aTF w c t l)):=by obtain⟨n,y,v,m,d⟩:=r;have u:=n.wo.wo.ev;have s:=n.ct.2 _<|ii d;refine bp9 rfl rfl λC A g o x=>?_;have z1:¬t<0:=(by have:=d.1;omega);have z2:¬(L w.init.count:Int)<=t:=(by have:=d.2;omega);simp+contextual only[blA,u0,u1,g,rk,aj,dc,z1,z2,bq0,eE,aQ6,be8,GL,↓jA];refine bhZ (L l) (λk=>∀j,j<k->aPQ w c t (gd l j)=U) (by simp) λk z hI=>?_;simp only[qz 37,aI,au,u0,u1];refine⟨λh=>?_,λh=>?_⟩;have e:=aL h;have B:=m _<|asq e;have p:dq.wrap (gd l k-gd w.init.count t.toNat)=gd l k-gd w.init.count t.toNat:=(by grind [eM]);refine bsp (λb=>aPQ w c t (gd l k)=U->b []) ?_ λb nx=>?_;intro q;simp only[qz 57,aI,au,u0,u1];grind [gS];simp+contextual only[qz 59,au,u0,u1,g,o,ix,rk,oe,ar,a6u,aj,dc,bh,p,dJ e,d];refine⟨λi=>nx (by grind [aPQ]),λi=>?_⟩;have q:aPQ w c t (gd l k)=!(Q (oV w t (gd l k-gd w.init.count t.toNat)<0)||Q (↑(L c.fixed)<=oV w t (gd l k-gd w.init.count t.toNat))||!gd c.fixed (oV w t<|gd l k-gd w.init.count t.toNat).toNat):=(by simp only[aPQ,i,Bool.false_or,dh,Bool.not_or,<-decide_not,aqC,Int.not_le,Bool.not_not,Bool.and_assoc]);refine⟨(by omega),λf=>?_,λf=>?_,λf=>nx<|by simp_all⟩;simp only[eH,cP,aNK] at f;exact⟨by omega,by omega⟩;grind [bjA];grind [bmZ]
def biE:FT:=bix bjT
def boy{w c t l Lw K}:=bmX biE bjT w c t l Lw K (j:=by simp+contextual only[ij,aNX])
def bz8{l:List BF}:∀r∈l.map BF.c,L r=2:=by intro r a;obtain⟨y,_,rfl⟩:=dN.1 a;rfl
def byv(x:Int)(f: -1000000<=x/\x<=1000000):Ct 114 [iv x] (·=iv (bs4 x)):=by refine bB2 λs0 e d=>?_;simp only[bzo,u0,u1];refine⟨λh=>?_,λh=>⟨λc=>?_,λc=>?_⟩⟩;have a:=aNR h;rw[eM (by omega) (by omega),bs4,lC a];have a:=bpF h;have b:=aNR c;rw[eM (by omega) (by omega),aEn,eM (by omega) (by omega),bs4,j5 a,lC b];simp only[u0,u1];have a:=bpF h;have b:=bpF c;rw[bs4,j5 a,j5 b]
def by5:FT:=mT byv
def bAM{x Lw K}:=f110 by5 byv x Lw K (j:=by simp+contextual only[ij,aNX])
def byy(l:List aP)(Z:L l<1000000):Ct 50 [sl aP.c l] (·=sl BF.c (l.map bsF)):=by refine aDq (bB6 λs0 G j=>?_);simp only[bzs];refine jD (α:=AV) (λa i=>[a,iv i]) 1 (L l) (λk a Y=>Fx s0 Y []/\qc Y 170 2 a (((l.take k).map bsF).map BF.c)/\∀q∈aA a,ig s0 q/\q.1=49) (s0:= .l [] U U) ⟨Fx.refl _ _, .inl ⟨rfl,rfl⟩,by simp[aA]⟩ ?_;rintro k a Y S ⟨F,g,K⟩;have H:=F.len.trans G;have D:∀{x:Int},bM buY bmK [(0,iv x),(1,iv<|-1)]=V (.a<|BF.c ⟨x,-1⟩):=λ{x}=>rfl;simp only[qz 25,qy 2,au,aI,u0,u1,ix,rk,bh,D];refine⟨λh=>⟨u7 h,?_⟩,λh=>?_⟩;have d:=aL h;refine anu H λr A M O n=>?_;simp only[qz 4];have nv:((5,r):Id)∉aA a:=λm=>aPo (K _ m).2 (by simp);refine bpD (λb=>∀Y',Fx A Y' [(5,r)]->box Y' (5,r)=V ⟨170,2,U,U,[BF.c<|bsF<|gd l k]⟩->b [] Y') ?_ λb o=>?_;intro Y' u v;have B:Fx Y Y' []:=(M.trans u).mono (by simp only[dW,cE];rintro q rfl;exact .inr O.no);have t:Fx s0 Y' []:=F.trans B;have W:∀{c:BF},aN (V 2) c.c=V (.a c.c):=λ{c}=>rfl;have E:∀{c:BF},aX buT 1 Y' [(0, .a c.c)]=V (.l ([c].map BF.c) U U,Y'):=λ{c}=>ua rfl rfl rfl (by decide) (by simp[BF.c,eN]) (by decide);simp only[qz 57,qy 8,au,aI,u0,u1,v,W,J3,E];refine qs (g.fx B<|by simp) rfl (by decide) (by rw[t.len,G];decide) bz8 bz8 (by simp) (by simp;omega) λP s9 R N C=>?_;simp only[qz 10,au,u0,u1];refine dR (mk:=λa i=>[a,iv i]) (p:=1) (s:=a) (s':=P) (λ_ _=>rfl) d (by omega) ⟨(t.trans N).mono λq m=> .inr (K q<|by simpa using m).1.no,?_,λq m=>⟨(C q m).1.old t,(C q m).2⟩⟩;rw[iJ d,dg,dg,<-bT d];exact R.p;have T:bsF (gd l k)=⟨(gd l k).aq,btm<|gd l k⟩:=rfl;rw[T] at o;simp only[qz 59,qy 6,u0,u1,ix,rk,aj,bh];refine⟨dJ d,?_⟩;rcases sq (Q<|(gd l k).kind=18) with e|e;simp+contextual only[e,qE,ix,rk,u0,u1,uO,bie,n,bh,df];refine⟨λ_=>dJ d,λ_=>dJ d,?_⟩;have z:btm (gd l k)=(gd l k).value->sV (aK 1 A (.p (5,r) 0 1)<|iv (gd l k).value) λs=>b [] s:=λy=>A0 n rfl (by simp[BF.c]) λX u v=>o X u (by rw[v,y];rfl);have f:btm (gd l k)= -1->b [] A:=λy=>o _ (Fx.refl _ _) (by rw[y];exact n);rcases sq (Q<|0<=(gd l k).value) with j|j;simp only[j,qE,bie,u0];refine⟨λw=>⟨dJ d,z ?_⟩,λw=>f ?_⟩;rw[btm,lC ⟨aNR e,aNR j,aNR w⟩];rw[btm,j5 λc=>bpF w c.2.2];simp only[j,bkl,u0];exact⟨λh=>(nomatch h),λ_=>f<|by rw[btm,j5 λc=>bpF j c.2.1]⟩;simp only[e,jN,xM,uO,bkl,u0];refine⟨λh=>(nomatch h),λ_=>o _ (Fx.refl _ _) ?_⟩;rw[show btm (gd l k)= -1 by unfold btm;rw[j5<|λc=>bpF e c.1]];exact n;rw[bP S<|bw h,gV] at g;exact aQ7 (aWs g) (by simp[iX,eN,sl])
def by9:FT:=mT byy
def bAQ{l Lw K}:=f110 by9 byy l Lw K (j:=by simp+contextual only[ij,aNX])
def buC:dO:=(179,bdU)::(180,biE)::(114,by5)::(50,by9)::a7N
def bwO:eJ buC:=ve (tE bjU)<|ve (bnA bjT)<|ve (pg byv)<|ve (pg byy)<|aX8
def bvc:=ai @boz<|ai @boy<|ai @bAM<|ai @bAQ<|@a6u
def bly b a c d R:=(.mk _:NR buC asY Tryz.f178 [.u, .u,c] [b,a] d R).p
def bp8{c0:List AV}{b:List AV}{c:AV}{R:j4}(l0:L c0=15)(l1:L b=9)(h:H2 43 15 3 c0 103 9 4 b λia d e=>bly ia d c e R):Ct 178 [.a c0, .a b,c] R:=z2 asY bwO Tryz.func178 l0 l1 h
def biI a b R:=(.mk _:NF<|zF GGV buC at1 CH [.u] [a] b<|QDb CH R).p
def bp7{c0:List AV}{s0:ae}{R:be}(hs:L s0=4096)(l0:L c0=9)(h:HB1 103 9 1 c0 s0 λc b=>biI c b R):EB 181 [.a c0] s0 R:=aTc<|zB1 at1 (aQ9 bwO) Tryz.func181 hs l0 h
def bzl b a c R:=(.mk _:NR buC a8I Tryz.f53 [b, .u] [a] c R).p
def bBZ{c:AV}{b:List AV}{R:j4}(l1:L b=2)(h:H1 65 2 3 b λia d=>bzl c ia d R):Ct 53 [c, .a b] R:=z1 a8I bwO Tryz.func53 l1 h
def bzt a b R:=(.mk _:NR buC at1 Tryz.f19 [.u] [a] b R).p
def bB7{c0:List AV}{R:j4}(l0:L c0=15)(h:H1 43 15 1 c0 λia b=>bzt ia b R):Ct 19 [.a c0] R:=z1 at1 bwO Tryz.func19 l0 h
def CfI.sz{w:gz}{c:aNU}(h:CfI w c)(d:vL w):L c.gp.ak<1000/\L c.gp.done<1000/\L c.gp.ay<1000/\(∀l∈c.gp.ak,L l.bk<12)/\∀l∈c.gp.ak,jC l.bk:=by have a:=h.sy;have:=d.th;have:=a.lo;have:=a.dn;have:=a.th;exact⟨by omega,by omega,by omega,λl b=>by have:=AC (a.rd l b).1 (a.rd l b).2;omega,λl b=>(a.rd l b).1⟩
def bm9{n:Bool}:m8 (bv n)=[]:=rfl
def bnb{l:List AV}:m8 (.q l)=[]:=rfl
def bo5{l:List AV}:m8 (.t l)=[]:=rfl
def bna{b:Id}{n:Nat}:m8 (.m b n)=[b.1]:=rfl
def bjD{n:Nat}:m8 (.f n [] [])=[]:=rfl
def bo3{c:aNU}:m8 (.a c.c)=[]:=rfl
def bo6{c:gz}:m8 (.a c.c)=[]:=rfl
def bBc{c:BF}:m8 (.a c.c)=[]:=rfl
def r15{w:gz}:aN (V 15) w.c=V (.a w.c):=rfl
theorem bmW{w:gz}{c:aNU}{t:Int}(h:aH7 w c t<0):aID w c t=I:=by simp[aID,h]
def bj6{w:gz}{c:aNU}{t:Int}(h:¬aH7 w c t<0):∃k,aH7 w c t=(k:Nat)/\k<L w.ac/\(gd w.ac k).aq=t:=by grind [bmY,a6w,aH7]
def bjS(w:gz)(c:aNU)(t:Int)(s:aC2 w/\CfI w c):Ct 178 [.a w.c, .a c.c,iv t] (·=bv (aID w c t)):=by obtain⟨b,d⟩:=s;obtain⟨A,B,C,D,E⟩:=d.sz b.wo;have u:=b.wo.wo.co;refine bp8 rfl rfl λG r e f y=>?_;simp+contextual only[bly,qy 6,u0,u1,e,f,r15,rk,oe,ar,arm,bvc,ix,aj,b.wo,d,aOe];refine⟨λh=>?_,λh=>?_⟩;grind [bmW];obtain⟨k,n,o,z⟩:=bj6<|bpF h;have g:aID w c t=(jm w.aQ c.gp t (gd w.ac k).kind (gd w.ac k).f8&&aTF w c t (gd w.ac k).dI):=(by grind [aID,evN]);rw[n];refine⟨dJ o,?_⟩;refine anu r λv x F N i=>?_;have j:=F.kq e;have m:=F.kq f;have p:L w.aQ.bC<4611686018427387904/\(∀l∈c.gp.ak,L l.bk<4611686018427387904):=(by grind);have q:bcF w t (gd w.ac k).dI:=(by grind [aC2.dI]);simp+contextual only[qz 8,u0,u1,bh,i,j,m,r15,rk,oe,ar,arm,bvc,aj,b,d,p,q,g,aNV,aOe]
def bia:FT:=qe bjS
def bow{w c t Lw K}:=f310 bia bjS w c t Lw K (j:=by simp+contextual only[ij,aNX])
structure biy(Y:ae)(c:aNU)(a1 a2 a3 a4 a5 a6 a7 a8:AV)(Y1:ae):Prop where
 hl:L Y1=L Y
 g1:qc Y1 184 2 a1 (c.gp.ak.map cg.c)
 g2:qc Y1 4 1 a2 (c.gp.done.map cb)
 g3:qc Y1 138 3 a3 (c.gp.ay.map aoC.c)
 g4:bc Y1 235 2 a4 (c.cells.map aB9.c)
 g5:bc Y1 235 2 a5 (c.bU.map aB9.c)
 g6:bc Y1 3 1 a6 (c.order.map ci)
 g7:bc Y1 4 1 a7 (c.fixed.map cb)
 g8:bc Y1 3 1 a8 (c.woke.map ci)
 p1:∀q∈aA a1,q.1=41
 p2:∀q∈aA a2,q.1=10
 p3:∀q∈aA a3,q.1=14
 p4:∀q∈aA a4,q.1=9
 p5:∀q∈aA a5,q.1=13
 p6:∀q∈aA a6,q.1=17
 p7:∀q∈aA a7,q.1=21
 p8:∀q∈aA a8,q.1=25
 kx:Kx [10,14,41] Y Y1
 nw:∀q∈aA a4++aA a5++aA a6++aA a7++aA a8,∀x,box Y q≠V x
def bo8{w:gz}{c:aNU}{Y:ae}(hl:L Y=4096)(hw:aC2 w)(G:CfI w c)(a9:L c.cells<1000)(bb:L c.bU<1000):∃r Y1,(∃a1 k m n o p s t,r= .a [a1,iv c.gp.tx,k,m,n,o,p,s,t]/\biy Y c a1 k m n o p s t Y1)/\cZ aS GG 181 [.a c.c] Y r Y1:=by obtain⟨q1,q2,q3,q4,q5⟩:=G.sz hw.wo;have ba:=hw.wo.wo.ev;refine bp7 hl rfl λs2 v1 K2 bf nf b1=>?_;have S:Fx Y s2 []:=K2.fx [];have P:=S.len.trans hl;simp only[biI];refine ic P λv2 s3 T N3 b3=>?_;have c1:=T.kq b1;have R:=T.len.trans P;simp only[qz 4,qy 6,u0,u1,c1,oe,aj];refine bjx R (by grind) λa1 k m W D g1 g2 g3 p1 p2 p3=>?_;have au:=D.len.trans R;have H:=D.kq c1;have af:=D.kq b3;simp only[nS,bQ,qz 8,qy 10,u0,u1,H,oe,aj];have ap:∀{α:Type} {f:α->List AV} {l:List α} {e z d by':Nat} {zs:List AV} {Y:ae} {K:be},(∀x,L (f x)=z)->L zs=z->0<z->d<L Y->L l*(by'+1)<=1099511627776->(∀E Y',bc Y' e z E (l.map f)->Fx Y Y' []->(∀q∈aA E,ig Y q/\q.1=d)->K E Y')->eV (Gy e zs by' Y d (.l [] U U)<|sl f l) K:=λ{α f l e z d by' zs Y K} hf hz h0 hd hb hK=>(by refine gD (bA:=[]) (e:=e) (z:=z) (new:=l.map f) (.inl ⟨rfl,rfl⟩) hz h0 hd (by simp) (qW hf) (by grind) λE Y' g F i1 i2=>?_;grind [aA]);refine ap (z:=2) (e:=235) (λ_=>rfl) rfl (by decide) (by omega) (by omega) λn s5 g4 A P4=>?_;have M:=A.kq H;have av:=A.len.trans au;simp only[qz 12,u0,u1,M,oe,aj];refine ap (z:=2) (e:=235) (λ_=>rfl) rfl (by decide) (by omega) (by omega) λo s6 g5 B X=>?_;have N:=B.kq M;have aw:=B.len.trans av;simp only[qz 14,nS,bQ,qz 16,u0,u1,N,oe,aj];refine ap (z:=1) (e:=3) (λ_=>rfl) rfl (by decide) (by omega) (by have:=G.ol;omega) λp s7 g6 C Z=>?_;have O:=C.kq N;have ax:=C.len.trans aw;simp only[qz 18,nS,bQ,qz 20,u0,u1,O,oe,aj];refine ap (z:=1) (e:=4) (λ_=>rfl) rfl (by decide) (by omega) (by have:=G.fx;omega) λs s8 g7 v P7=>?_;have ak:=v.kq O;have ay:=v.len.trans ax;simp only[qz 22,nS,bQ,qz 24,u0,u1,ak,oe,aj];refine ap (z:=1) (e:=3) (λ_=>rfl) rfl (by decide) (by omega) (by have:=G.wk;omega) λt s9 g8 y P8=>?_;have bd:=y.len.trans ay;have j:Fx W s9 []:=(A.trans<|B.trans<|C.trans<|v.trans y).mono (by simp);have ag:=j.kq af;have aq:bM bst aP0 [(0, .a [a1,iv c.gp.tx,k,m]),(1,n),(2,o),(3,p),(4,s),(5,t)]=V (.a [a1,iv c.gp.tx,k,m,n,o,p,s,t]):=(by simp[bM,aly,ms g4,ms g5,ms g6,ms g7,ms g8,show∀x,eY (.a x)=V x fromλ_=>rfl]);simp only[qz 26,aq,aY];refine stW ag rfl rfl λbi i ad=>?_;simp only[qz 28];refine dT (by simp[eL,lb,Cz,aTn,bc7,a6H]) ?_;have r9:aN (V 9) [a1,iv c.gp.tx,k,m,n,o,p,s,t]=V (.a [a1,iv c.gp.tx,k,m,n,o,p,s,t]):=rfl;simp only[u0,u1,ad,r9,aNN,aoz];have nv:∀{q:Id},q.1≠2->q∉[((2,v2):Id)]:=(by grind);have X3:Kx [10,14,41] Y s3:=((S.trans T).kx<|by simp);have aa:=X3.kx D (by simp);have X9:=aa.fx j (by simp);have bg:∀x,box Y (2,v2)≠V x:=(S.kx (ks:=[])<|by simp).no (by simp) N3.no;refine⟨a1,k,m,n,o,p,s,t,rfl,(by grind [Fx.len]),(g1.fx j<|by simp).fx i (by grind),(g2.fx j<|by simp).fx i (by grind),(g3.fx j<|by simp).fx i (by grind),((((g4.fx B<|by simp).fx C<|by simp).fx v<|by simp).fx y<|by simp).fx i (by grind),(((g5.fx C<|by simp).fx v<|by simp).fx y<|by simp).fx i (by grind),((g6.fx v<|by simp).fx y<|by simp).fx i (by grind),(g7.fx y<|by simp).fx i (by grind),(by grind [bc.fx]),p1,p2,p3,λq b=>(P4 q b).2,λq b=>(X q b).2,λq b=>(Z q b).2,λq b=>(P7 q b).2,λq b=>(P8 q b).2,(by grind [Kx.fx]),λq b=>?_⟩;have ab:Kx [10,14,41] Y W:=(by omega);have u:∀{q:Id},ig W q->q.1≠10/\q.1≠14/\q.1≠41->∀x,box Y q≠V x:=λh h'=>ab.no (by simp;omega) h.no;simp only[dF] at b;rcases b with(((b|b)|b)|b)|b;grind;exact u ((X q b).1.old A) (by grind);exact u ((Z q b).1.old<|A.trans B) (by grind);exact u (by grind [ig.old]) (by grind);exact u (by grind [ig.old]) (by grind)
def boL{P:Program}{κ:vg}{w:World}{Y:ae}{β:Id->Nat}{v:Value}{cs:List AV}(n:Nat)(s:Iy P κ w Y β)(h:ba κ w Y β v<|.a cs):ba κ w (kills Y<|(cs.take n).flatMap iR) β v (.a<|(cs.take n).map (lz Y)++cs.drop n):=by obtain⟨e,s',q⟩:=btl ((cs.take n).flatMap iR) s;cases h with|a m k o=>refine .a (by grind) k (λi v c p d=>?_);rcases jj i (L<|cs.take n) with l|l;rw[xe (by grind),bj9] at d;(cases f:(cs.take n)[i]? with|none=>simp_all|some y=>rw[f] at d;simp only[df,Option.some.injEq] at d;subst d;have g:cs[i]?=V y:=(by grind);exact Qx<|Di s (o i v y p g) λb j=>iI.2 ⟨y,List.mem_of_getElem? f,j⟩);grind [ba.ext]
def cZ.frzP{P:Program}{G:zp}{fn:FuncId}{xs:List AV}{Y b:ae}{cs:List AV}(n:Nat)(h:cZ P G fn xs Y (.a cs) b):cZ P G fn xs Y (.a<|(cs.take n).map (lz b)++cs.drop n) (kills b<|(cs.take n).flatMap iR):=by refine⟨h.1,λκ w β d s g i=>(h.2 κ w β d s g i).mono ?_⟩;rintro e l ⟨v,f,rfl,j,c,k⟩;exact⟨v,f,rfl,boL n c j,(btl _ c).2.1,k.trans (btl _ c).1⟩
structure bki(Y:ae)(c:aNU)(a4 a5 a6 a7 a8:AV)(Y1:ae):Prop where
 hl:L Y1=L Y
 g4:bc Y1 235 2 a4 (c.cells.map aB9.c)
 g5:bc Y1 235 2 a5 (c.bU.map aB9.c)
 g6:bc Y1 3 1 a6 (c.order.map ci)
 g7:bc Y1 4 1 a7 (c.fixed.map cb)
 g8:bc Y1 3 1 a8 (c.woke.map ci)
 p4:∀q∈aA a4,q.1=9
 p5:∀q∈aA a5,q.1=13
 p6:∀q∈aA a6,q.1=17
 p7:∀q∈aA a7,q.1=21
 p8:∀q∈aA a8,q.1=25
 kx:Kx [10,14,41] Y Y1
 nw:∀q∈aA a4++aA a5++aA a6++aA a7++aA a8,∀x,box Y q≠V x
def bo9{w:gz}{c:aNU}{Y:ae}(u:L Y=4096)(x:aC2 w)(v:CfI w c)(p:L c.cells<1000)(s:L c.bU<1000):∃r k,(∃d f g i j,r= .a (c.gp.c++[d,f,g,i,j])/\bki Y c d f g i j k)/\cZ aS GG 181 [.a c.c] Y r k:=by obtain⟨_,k,⟨a1,l,m,d,f,g,i,j,rfl,C⟩,h⟩:=bo8 u x v p s;have o:=h.frzP 4;have e:([a1,iv c.gp.tx,l,m,d,f,g,i,j].take 4).map (lz k)++[a1,iv c.gp.tx,l,m,d,f,g,i,j].drop 4=c.gp.c++[d,f,g,i,j]:=(by show[lz k a1,lz k<|iv c.gp.tx,lz k l,lz k m]++_=_;rw[aOb C.g1,aOb C.g2,aOb C.g3,aQ5];rfl);rw[e] at o;have F:=aOp (([a1,iv c.gp.tx,l,m,d,f,g,i,j].take 4).flatMap iR) k;have t:∀q∈([a1,iv c.gp.tx,l,m,d,f,g,i,j].take 4).flatMap iR,q.1=41\/q.1=10\/q.1=14:=λq b=>(by have:q∈iR a1++(iR l++iR m):=(by grind [iR]);simp only[dF] at this;rw[aQX C.g1,aQX C.g2,aQX C.g3] at this;grind [biy.p1,biy.p2,biy.p3]);have n:∀{q:Id},q.1≠41/\q.1≠10/\q.1≠14->q∉([a1,iv c.gp.tx,l,m,d,f,g,i,j].take 4).flatMap iR:=(by grind);exact⟨_,_,⟨d,f,g,i,j,rfl,F.len.trans C.hl,C.g4.fx F λq b=>n (by rw[C.p4 q b];decide),C.g5.fx F λq b=>n (by rw[C.p5 q b];decide),C.g6.fx F λq b=>n (by rw[C.p6 q b];decide),C.g7.fx F λq b=>n (by rw[C.p7 q b];decide),C.g8.fx F λq b=>n (by rw[C.p8 q b];decide),C.p4,C.p5,C.p6,C.p7,C.p8,C.kx.fx F λq b=> .inl (by have:=t q b;simp;omega),C.nw⟩,o⟩
def bBy{x y:AV}:aN J [x,y]=V x:=rfl
def byt(x:Int)(bs:List Bool)(is:List Int)(e:(-1000000<=x/\x<=1000000)/\L bs<1000000):Ct 53 [iv x, .a [sl cb bs,sl ci is]] (·=bv (bsd bs x)):=by obtain⟨f,h⟩:=e;refine bBZ rfl λj i b g=>?_;simp+contextual only[bzl,u0,u1,ar,bvc,f,aOe,b,rk,ix,aj,bBy];refine⟨λc d=>⟨aNR c,aNR d⟩,?_⟩;rw[bsd];congr 4
def by1:FT:=qe byt
def bAK{x bs is Lw K}:=f310 by1 byt x bs is Lw K (j:=by simp+contextual only[ij,aNX])
def byB(w:gz)(d:L w.ac<1000000):Ct 19 [.a w.c] (·=sl BF.c (w.ac.map bsF)):=by refine bB7 rfl λg f b e=>?_;simp only[bzt,u0,u1,b,rk,ar,bvc,d,aj];exact⟨.inl rfl,by rw[aFj]⟩
def bze:FT:=mT byB
def bAR{w Lw K}:=f110 bze byB w Lw K (j:=by simp+contextual only[ij,aNX])
def buD:dO:=(178,bia)::(53,by1)::(19,bze)::buC
def bw5:eJ buD:=ve (tE bjS)<|ve (tE byt)<|ve (pg byB)<|bwO
def byj:=ai @bow<|ai @bAK<|ai @bAR<|@bvc
def bmQ:=lA 15 [(4,([4],[1,2,3])),(10,([5],[1,2,3]))]
def bjm a b R:=(.mk _:NF<|zF GGV buD bmQ Tryz.f109 [.u] [a] b<|I3 Tryz.f109 R).p
def bqb{c0:List AV}{R:j4}(l0:L c0=15)(h:∀b:ae,L b=4096->box b (1,1)=V ⟨43,15,U,U,[c0]⟩->(∀k,k≠1->aZ b k=mO)->bjm (.p (1,1) 0 0) b R):Fn aS GG 109 [.a c0] R:=by refine fnV (uq ready (aQ9 bw5) Tryz.func109 (an:=bmQ) (by kernel_rfl)<|Eq.mpr (show ZF aS GGV buD bmQ Tryz.f109 [.a c0] R=(eV (bxA 43 15 (ly Tryz.f109) 1<|.a c0) λc b=>bjm c b R) by kernel_rfl) ?_);refine mY (N:=4096) rfl l0 (by decide) (by decide) uB (by rw[i8]) λb f d g g0=>?_;exact h b f d (λk e=>by rw[g0 k e];exact i8 _ k)
def bzn a a1 s0 R:=(.mk _:NS buD at1 Tryz.f52 [a,a1] [] s0 R).p
def bB1{a a1:AV}{s0:ae}{R:be}(hs:L s0=4096)(h:bzn a a1 s0 R):EB 52 [a,a1] s0 R:=zB at1 bw5 Tryz.func52 h
def bzC:=lA 14 [(4,([7,12],[2,3,10,11])),(7,([7],[2,3,10,11,12]))]
def bzq a a1 b c R:=(.mk _:NR buD bzC Tryz.f46 [.u,a1,b] [a] c R).p
def bB4{c0:List AV}{a1 b:AV}{R:j4}(l0:L c0=15)(h:H1 43 15 3 c0 λia c=>bzq ia a1 b c R):Ct 46 [.a c0,a1,b] R:=z1 bzC bw5 Tryz.func46 l0 h
def gsG{Y:ae}{e:TypeId}{z:Nat}{a:AV}{bA:List (List AV)}{i:Int}{cs:List AV}{x:AV}{K:be}(j:bc Y e z a bA)(d:aF (L bA) i)(v:∀r∈bA,L r=z)(n:eY x=V cs)(l:nrm (eR Y x)=x)(hI:eB x=[])(t:L cs=z)(u:cs.all eN=U)(k:∀p Y',Fx Y Y' (aA a)->bc Y' e z a (bA.set i.toNat cs)->K p Y'):rV (cz z Y a<|iv i) λp=>sV (aK z Y p x) (K p):=by have q:=d.1;have s:i.toNat<L bA:=(by have:=d.1;have:=d.2;omega);rcases j with⟨f,_⟩|⟨b,rfl,c⟩;simp_all;have g:cz z Y (.m b<|L bA) (iv i)=V (.p b i.toNat 0):=(by grind [cz]);have h:bA[i.toNat]?=V bA[i.toNat]:=(by simp);have o:bA[i.toNat].length=z:=(by simp_all);have f:aK z Y (.p b i.toNat 0) x=V (wr Y b ⟨e,z,U,I,bA.set i.toNat cs⟩):=(by simp only[aK,aBG,c,eE,brW,hI,kills,aRl,l,pW,n,h];grind);rw[g];simp only[rV,f];exact k _ _ (wc c) (.inr ⟨b,by simp,lO c⟩)
def aQx:aNU:=⟨⟨[],0,[],[]⟩,[],[],[],[],[]⟩
structure StR(x:ae)(v2:Nat)(w:gz)(a1 a2 a3:AV)(bF bW:Id):Prop where
 hl:L x=4096
 b1:box x (1,1)=V ⟨43,15,U,U,[w.c]⟩
 b2:box x (2,v2)=V ⟨103,9,U,U,[bst]⟩
 g1:qc x 184 2 a1 (w.init.gp.ak.map cg.c)
 g2:qc x 4 1 a2 (w.init.gp.done.map cb)
 g3:qc x 138 3 a3 (w.init.gp.ay.map aoC.c)
 gF:bc x 4 1 (.m bF<|L w.ac) ((er (L w.ac) I).map cb)
 gW:bc x 3 1 (.m bW<|L w.ac) ((er (L w.ac) (0:Int)).map ci)
theorem StR.fx{x y:ae}{f:Nat}{w:gz}{a1 a b:AV}{c d:Id}{Lw:List Id}(S:StR x f w a1 a b c d)(p1:∀q∈aA a1,q.1=41)(j:∀q∈aA a,q.1=10)(k:∀q∈aA b,q.1=14)(g:c.1=13)(i:d.1=17)(F:Fx x y Lw)(h:∀q∈Lw,q.1=3\/q.1=37\/q.1=57):StR y f w a1 a b c d:=by have e:∀{q:Id},q.1≠3/\q.1≠37/\q.1≠57->q∉Lw:=(by grind);exact⟨F.len.trans S.hl,F.keep _ _ (e<|by simp) S.b1,F.keep _ _ (e<|by simp) S.b2,S.g1.fx F (by grind),S.g2.fx F (by grind),S.g3.fx F (by grind),S.gF.fx F (by grind [aA]),S.gW.fx F<|by grind [aA]⟩
def bjV(w:gz)(hp:aC2 w/\bcV w=U):Ct 109 [.a w.c] (·= .a (aNY w).c):=by obtain⟨hw,aO⟩:=hp;have bg:=hw.wo.wo.ev;have hc:=bhV aO;obtain⟨q1,q2,q3,q4,q5⟩:=hc.sz hw.wo;have q6:L w.init.cells<1000/\L w.init.bU<1000:=(by grind [tC,aQA,vH.ce,vH.fu]);have hS:L w.init.gp.ak<100000/\L w.init.gp.done<100000/\L w.init.gp.ay<100000/\∀l∈w.init.gp.ak,L l.bk<1000000:=(by grind [aNY]);refine aDq (bqb rfl λs2 T b1 h0=>?_);simp only[bjm];refine ic T λW s3 F3 N3 b3=>?_;have c1:=F3.kq b1;have aa:=F3.len.trans T;simp only[qz 4,u0,u1,c1,rk,aj,dc];refine bjx aa hS λa1 r t s4 X4 g1 g2 g3 p1 O P=>?_;have aJ:=X4.len.trans aa;have M:=X4.kq c1;have aC:=X4.kq b3;simp only[qz 6,u0,u1,M,rk,aj];refine AP (by decide) (by decide) (by omega) (by omega) λu s5 B N5 F5 b5=>?_;have aF:=F5.kq M;have aK:=F5.len.trans aJ;simp only[qz 8,u0,u1,aF,rk,aj];refine AP (by decide) (by decide) (by omega) (by omega) λA s6 C N6 F6 b6=>?_;have ab:=F6.len.trans aK;have aG:∀{n:Nat},bM bst aP0 [(0, .a [a1,iv w.init.gp.tx,r,t]),(4, .m u n),(5, .m A n)]=V (.a [a1,iv w.init.gp.tx,r,t, .l [] U U, .l [] U U, .l [] U U, .m u n, .m A n]):=λ{n}=>rfl;simp only[qz 10,qy 12,aG,aY];refine ic ab λv3 bi az N7 aD=>?_;refine stW aD rfl rfl λs7 aB b7=>?_;have R:Fx s6 s7 []:=(az.trans aB).mono (by grind [ig.no]);have aM:=R.len.trans ab;have o:Fx s4 s7 []:=(F5.trans<|F6.trans R).mono (by simp);have S7:StR s7 W w a1 r t u A:=⟨aM,o.kq M,o.kq aC,g1.fx o (by simp),g2.fx o (by simp),g3.fx o (by simp), .inr ⟨u,by simp,by rw[R.kq<|F6.kq b5,List.map_replicate];rfl⟩, .inr ⟨A,by simp,by rw[R.kq b6,List.map_replicate];rfl⟩⟩;have ad:∀{n:Int} {b:Bool},m8 (.a [iv n,bv b])=[]:=λ{n b}=>rfl;simp only[qz 14];refine dT ?_ ?_;have k0:=bnf (x:=w.init.gp.tx) g1 g2 g3 p1 O P;generalize AV.a [a1,iv w.init.gp.tx,r,t]=b0 at k0⊢;simp[eL,lb,Cz,aTn,bc7,bc6,bna,B,C];grind;have Z:∀{x:ae} {y:Int},aX bAv 1 x [(0, .a [iv y,bv U])]=V (.l [aB9.c ⟨y,U⟩] U U,x):=λ{x y}=>ua rfl rfl rfl (by decide) rfl (by decide);have X:∀{y:Int},bM bxE bmK [(0,iv y),(1,bv U)]=V (.a [iv y,bv U]):=λ{y}=>rfl;have k1:∀{x:List AV} {y:AV},aN J (y::x)=V y:=λ{x y}=>(by cases y<;>rfl);have k9:∀{a b c d e f g h i:AV},aN (V 9) [a,b,c,d,e,f,g,h,i]=V (.a [a,b,c,d,e,f,g,h,i]):=rfl;refine yV (L w.init.cells) (λk _ x=>∃a,StR x W w a1 r t u A/\box x (3,v3)=V ⟨103,9,U,U,[[a1,iv w.init.gp.tx,r,t,a, .l [] U U, .l [] U U, .m u<|L w.ac, .m A<|L w.ac]]⟩/\qc x 235 2 a (((w.init.cells.take k).map λv=>aB9.mk v U).map aB9.c)/\∀q∈aA a,q.1=37) ⟨_,S7,b7, .inl ⟨by simp,rfl⟩,by simp[aA]⟩ ?_;rintro k _ x hk ⟨a,S,K,H,pa⟩;simp only[qz 25,qy 16,au,aI,u0,u1,S.b1,K,rk,k1,ix,aj,dc,bh,nM,J3,X,Z];refine⟨λh=>?_,λh=>?_⟩;have j:=aL h;refine⟨dJ j,?_⟩;refine apQ H S.hl a8d (by simp[aB9.c]) (by simp) (by simp;omega) λa' s8 N F P8=>?_;have S8:=S.fx p1 O P B C F (by grind);have D:=F.keep _ _ (by grind) K;simp only[qz 18,u0,u1,D,aj];refine A0 D N.p.ce (by simp) λs9 G b9=>?_;simp only[qz 20];refine dT ?_ ?_;simp[eL,lb,Cz,aTn,bc7,a6H,bc6,bm9,ad,au];simp only[au,u0,u1];refine dR (mk:=λ(_:Unit) i=>[iv i]) (s:=()) (s':=()) (λ_ _=>rfl) j (by omega) ⟨a',S8.fx p1 O P B C G (by simp),b9,?_,λq hq=>(P8 q hq).2⟩;rw[iJ j,<-bT j,dg,dg];exact N.p.fx G (by grind);obtain rfl:k=L w.init.cells:=(by grind);rw[gV] at H;refine yV (L w.init.bU) (λk _ x=>∃b,StR x W w a1 r t u A/\box x (3,v3)=V ⟨103,9,U,U,[[a1,iv w.init.gp.tx,r,t,a,b, .l [] U U, .m u<|L w.ac, .m A<|L w.ac]]⟩/\qc x 235 2 a ((w.init.cells.map λv=>aB9.mk v U).map aB9.c)/\qc x 235 2 b (((w.init.bU.take k).map λv=>aB9.mk v U).map aB9.c)/\∀q∈aA b,q.1=57) ⟨_,S,K,H, .inl ⟨by simp,rfl⟩,by simp[aA]⟩ ?_;rintro k _ x hk ⟨b,S,K,H,gb,pb⟩;simp only[qz 61,qy 22,qy 28,au,aI,u0,u1,S.b1,K,rk,k1,k9,ix,aj,dc,bh,nM,J3,X,Z];refine⟨λh=>?_,λh=>?_⟩;have j:=aL h;refine⟨dJ j,?_⟩;refine apQ gb S.hl a8d (by simp[aB9.c]) (by simp) (by simp;omega) λb' s8 N F P8=>?_;have S8:=S.fx p1 O P B C F (by grind);have D:=F.keep _ _ (by grind) K;simp only[qz 24,u0,u1,D,aj];refine A0 D N.p.ce (by simp) λs9 G b9=>?_;simp only[qz 26];refine dT ?_ ?_;simp[eL,lb,Cz,aTn,bc7,a6H,bc6,bm9,ad,au];simp only[au,u0,u1];refine dR (mk:=λ(_:Unit) i=>[iv i]) (s:=()) (s':=()) (λ_ _=>rfl) j (by omega) ⟨b',S8.fx p1 O P B C G (by simp),b9,(H.fx F<|by grind).fx G (by grind),?_,λq hq=>(P8 q hq).2⟩;rw[iJ j,<-bT j,dg,dg];exact N.p.fx G (by grind);obtain rfl:k=L w.init.bU:=(by grind);rw[gV] at gb;refine stW S.b2 rfl rfl λz E bz=>?_;simp only[u0,u1,bz,k9];have nv:∀{q:Id},q.1≠2->q∉[((2,W):Id)]:=(by grind);refine aQ7 ?_ (by simp[iX,aNU.c,eN,sl]);simp only[fzT,ji,mU,aBr<|S.g1.fx E<|by grind,aBr<|S.g2.fx E<|by grind,aBr<|S.g3.fx E<|by grind,aBr<|H.fx E<|by grind,aBr<|gb.fx E<|by grind,aBr (S.gF.fx E<|by grind [aA]).p,aBr (S.gW.fx E<|by grind [aA]).p,aWt,bcz];rfl
def bi7:FT:=mT bjV
def boA{w Lw K}:=f110 bi7 bjV w Lw K (j:=by simp+contextual only[ij,aNX,ijv])
def bsD(w:gz)(r:Int):List Int->Int->Int|[],s=>s|x::l,s=>if x=r then s else bsD w r l (if aTG (gd w.ac x.toNat) (gd w.ac r.toNat)=U then x else s)
def byw(w:gz)(o:List Int)(r:Int)(p:(∀x∈o,aF (L w.ac) x)/\aF (L w.ac) r/\L o<1000):Ct 46 [.a w.c,sl ci o,iv r] (·=iv (bsD w r o<|-1)):=by obtain⟨l,q,u⟩:=p;refine bB4 rfl λz y n v=>?_;simp only[bzq,u0,u1];refine yh (λs:Int×Nat=>[iv s.1,iv s.2]) 1 (L o) (λs=>s.2<=L o/\bsD w r (o.drop s.2) s.1=bsD w r o (-1)) (-1,0) ⟨by simp,by simp⟩ ?_;rintro⟨s,i⟩ ⟨j,d⟩;simp only at j d;simp only[qz 25,au,aI,u0,u1];refine⟨λh=>?_,λh=>?_⟩;have f:=aL h;have t:=l _<|asq f;rw[aWc f,bsD] at d;refine bsp (λb=>∀s':Int,bsD w r (o.drop<|i+1) s'=bsD w r o (-1)->b [iv s']) ?_ λb k=>?_;intro s' m;simp only[qz 45,au,aI,u0,u1];refine wN (enc:=λs:Int×Nat=>[iv s.1,iv s.2]) (s:=(s,i)) (s':=(s',i+1)) (i:=i) ?_ rfl rfl f ⟨f,m⟩;rw[fX<|by omega];simp only[qz 47,au,u0,u1,ix,rk,bh,n,ar,byj,aj];refine⟨dJ f,λe=>?_,λe=>⟨t,q,λg=>k _ ?_,λg=>k _ ?_⟩⟩;rw[lC<|aNR e] at d;rw[d];rw[j5<|bpF e,lC g] at d;exact d;rw[j5<|bpF e,j5<|by rw[g];simp] at d;exact d;rw[bP j<|bw h,Gz] at d;rw[<-d];rfl
def by6:FT:=qe byw
def bAN{w o r Lw K}:=f310 by6 byw w o r Lw K (j:=by simp+contextual only[ij,aNX,ijv])
def bBf{Y:ae}{b:Id}{bs:List Bool}{is:List Int}{x:Int}(e:box Y b=V ⟨65,2,U,U,[[sl cb bs,sl ci is]]⟩)(f:L Y=4096)(g:(-1000000<=x/\x<=1000000)/\L bs<1000000):∃r c,(r=bv (bsd bs x)/\Fx Y c [])/\cZ aS GG 52 [iv x, .p b 0 0] Y r c:=by refine bB1 f ?_;have h:aN (V 2) [sl cb bs,sl ci is]=V (.a [sl cb bs,sl ci is]):=rfl;have d:∀{Y:ae},dG Y (.a [sl cb bs,sl ci is])= .a [sl cb bs,sl ci is]:=λ{Y}=>rfl;simp only[bzn,u0,u1,e,h,J3,jM,kU,jt,d,ar,byj,g,aOe];simp only[aNN,aoz];exact⟨trivial,Fx.refl _ _⟩
def bAF{Y:ae}{d:Nat}{K:be}{b:Id}{bs:List Bool}{is:List Int}{x:Int}(c:box Y b=V ⟨65,2,U,U,[[sl cb bs,sl ci is]]⟩)(e:L Y=4096)(g:(-1000000<=x/\x<=1000000)/\L bs<1000000)(a:K (bv<|bsd bs x) Y):cF (.f 52 [] [.p b 0 0]) [iv x] Y d K:=by simp only[cF,rn];rw[j5 (show¬GG.nw 52=U by decide),lC<|show GG.imp 52=U by decide];exact(aS2 rfl (bBf c e g) a:cB 52 [iv x, .p b 0 0] Y d K)
def bBd{Y:ae}{b:Id}{bs:List Bool}{is c:List Int}{t o:Bool}(z:box Y b=V ⟨65,2,U,U,[[sl cb bs,sl ci is]]⟩)(s:L Y=4096)(A:∀x∈c,(-1000000<=x/\x<=1000000)/\L bs<1000000)(hs:btt bs c)(C:L c<1000000):∃e g,((∃n:Nat,e=iv n)/\Fx Y g [])/\cZ aS GG 113 [.l (c.map ci) t o, .f 52 [] [.p b 0 0]] Y e g:=by refine aMB s ?_;have u:fS Y (.l (c.map ci) t o)=V (iv<|L c):=(by simp[fS]);have y:∀{Y:ae} {i:Int} {K:j4},rV (cz 1 Y (.l (c.map ci) t o)<|iv i) K=(aF (L c) i/\K (.q<|ci<|gd c i.toNat)):=λ{Y _ _}=>aBz (Y:=Y) λ_=>rfl;simp only[JQ,u,u0];refine yV (L c) (λk _ Y'=>Y'=Y/\∀j,j<k->bsd bs (gd c j)=I) ⟨rfl,by simp⟩ ?_;rintro k _ Y' B ⟨rfl,a⟩;simp only[qz 19,aI,au,u0,u1,y,bh,aC6,rk];refine⟨λh=>⟨u7 h,?_⟩,λh=>?_⟩;have d:=aL h;refine bAF z s (A _<|asq d) ?_;simp only[u0];refine⟨λm=>?_,λm=>yU d ⟨rfl,aRN a m⟩⟩;simp only[aNN,aoz];exact⟨⟨k,rfl⟩,Fx.refl _ _⟩;exfalso;obtain⟨x,v,w⟩:=hs;obtain⟨j,r,rfl⟩:=ou v;have:=a j<|bkb r<|bw h;rw[bT r,w] at this;cases this
def bw7:dO:=(109,bi7)::(46,by6)::buD
def byP:eJ bw7:=ve (pg bjV)<|ve (tE byw)<|bw5
def bwX:=ai @boA<|ai @bAN<|@byj
def bmR:=lA 24 [(12,([],[4,6,8,9,12,14])),(14,([],[4,6]))]
def bjn c b a d R:=(.mk _:NR bw7 bmR Tryz.f110 [.u, .u, .u] [c,b,a] d R).p
def bqc{c0:List AV}{b:List AV}{c:List AV}{R:j4}(l0:L c0=15)(l1:L b=9)(d:L c=2)(h:H3 43 15 3 c0 103 9 4 b 170 2 5 c λf g i e=>bjn f g i e R):Ct 110 [.a c0, .a b, .a c] R:=z3 bmR byP Tryz.func110 l0 l1 d h
def bzu a a1 s0 R:=(.mk _:NS bw7 at1 Tryz.f51 [a,a1] [] s0 R).p
def bB8{a a1:AV}{s0:ae}{R:be}(hs:L s0=4096)(h:bzu a a1 s0 R):EB 51 [a,a1] s0 R:=zB at1 byP Tryz.func51 h
end Go.Ab
