/- Part of the proof of EncodeNames, made short by a program. -/
import Derived.Test.YtmilgmjhdfijjaaGreatDoorF
set_option linter.all false
set_option maxRecDepth 100000
open And renaming intro->ai
open Bool renaming and_eq_false_iff->pk,and_eq_true->bN,false->I,not_eq_false'->fK,not_eq_true'->eH,not_false->kN,not_true->fh,or_eq_false_iff->cP,true->U
open Decidable renaming decide->Q,not_not->aNS
open Go.IntKind renaming i64->dq
open Go.Proofs.Tryz renaming prog->aS
open Int renaming ofNat_lt->RF,toNat_natCast->bh
open List renaming all_eq_true->dV,drop_zero->ip,getD_eq_getElem?_getD->eI,getElem?_drop->mf,getElem_of_mem->ou,length->L,length_append->P8,length_drop->oz,length_take->gC,map_append->dg,map_cons->ji,map_map->vA,map_nil->mU,mem_cons->eW,mem_of_mem_take->sA,not_mem_nil->ql,range->aH,replicate->er
open Nat renaming beq->pp,le_antisymm->bP,le_of_lt->aYB,le_trans->gl,lt_of_lt_of_le->C3,mul_le_mul->xn,zero_add->aj
open Option renaming none->J,some->V,some.inj->xu
namespace Go.Ab
open Go Go.RowKit Go.Proofs
def vq(w:br)(l:List aP):Nat->bW|0=>aH6 w|k+1=>nD w (vq w l k) (gd l k)
structure aN4(w:br)(l:List aP):Prop where
 wv:mQ w=U
 ln:L l<=400
 st:∀k,k<L l->C1 w (vq w l k) (gd l k)=U
 dp:∀k,k<L l->∀n∈(gd l k).dI,aOE l k (gd l k).aq n
 fr:∀k,k<L l->∀n∈(gd l k).ep,aOE l k (gd l k).aq n
def a6b{l:List aP}{t:Int}{i m:Nat}:VW l t (i+m)=VW l t i+VW (l.drop i) t m:=by simp only[VW,List.take_add,List.filter_append,P8]
def ba3{e:aP}{l:List aP}{t:Int}{j:Nat}:VW (e::l) t (j+1)=VW l t j+if e.aq=t then 1 else 0:=by simp only[VW,List.take_succ_cons,List.filter_cons];by_cases h:e.aq=t<;>simp[h]
def a6Y(t:Int):∀(l:List aP) (j i:Nat),j<L l->(gd l j).aq=t->pS t l (VW l t j) i=((i+j:Nat):Int)
 |[],j,i,h,_=>by simp at h
 |e::l,0,i,_,h=>by
  have d:e.aq=t:=h
  simp[pS,VW,d]
 |e::l,j+1,i,h,f=>by
  have b:(gd l j).aq=t:=by simpa[gd] using f
  have c:=a6Y t l j (i+1) (by simpa using h) b
  rw[ba3]
  simp only[pS]
  by_cases a:e.aq=t
  ·rw[bX a,bX a,cj (by omega)]
   have:((VW l t j+1:Nat):Int)-1=VW l t j:=by omega
   rw[this,c]
   omega
  ·rw[cj a,cj a,Nat.add_zero,c]
   omega
def aXY{α:Type}{n:Nat}{x y:α}(h:y∈er n x):y=x:=(List.mem_replicate.1 h).2
def aTg{α:Type}[Inhabited α]{n j:Nat}{x:α}(h:j<n):gd (er n x) j=x:=by rw[bT (by simpa using h)];simp
def bcG{n j:Nat}(h:j<n):gd (qZ n) j=⟨if j=0 then 1 else 0,0,I⟩:=by rw[bT (by simpa[qZ] using h)];simp[qZ]
def a7j:∀n:Nat,(er n (0:Int)).sum=0
 |0=>rfl
 |n+1=>by rw[List.replicate_succ,List.sum_cons,a7j n];rfl
def a7R{w:br}(h:mQ w=U):∀j,j<L w.bC->uh w j=I:=by simp only[mQ,bN] at h;obtain⟨_,h⟩:=h;split at h;(cases h);simp only[bN,lS] at h;exact h.2.1
def SI.start{w:br}(h:mQ w=U):SI w (aH6 w) 0:=by have k:=a7R h;refine⟨?_,?_,?_,?_,?_,?_,?_⟩;simp only[fN,lh,aH6,bN,lS];refine⟨⟨?_,by simp,by simp,by simp[qZ]⟩,by simp,by simp,by simp⟩;intro c f;obtain⟨j,b,rfl⟩:=ou f;have:=k j b;simp only[uh,bT b,cP,o8] at this;omega;intro c f;rw[aXY f];omega;exact a7j _;intro j b;have a:j<L w.ay:=(by simpa[aH6,qZ] using b);have e:gd (aH6 w).bm.ay j=⟨if j=0 then 1 else 0,0,I⟩:=bcG a;have g:gd (aH6 w).count j=0:=aTg a;by_cases d:j=0;subst d;simp only[vg] at e;exact⟨by rw[e];simp,by rw[e,g];simp,by rw[e];simp,by rw[e];simp,by rw[e];simp,by rw[e];simp⟩;rw[cj d] at e;exact⟨by rw[e];simp,by rw[e,g];simp,λm=>nl m d,by rw[e];simp,by rw[e];simp,by rw[e];simp⟩;intro j b;have a:j<L w.ak:=(by simpa[aH6] using b);have e:gd (aH6 w).bm.ak j=⟨-1,[]⟩:=aTg a;exact⟨by rw[e];intro h;exact nl rfl h,by rw[e];intro h;exact nl rfl h,by rw[e];intro x o;simp at o,by rw[e];intro i n;simp at n⟩;intro h;exact nl rfl h;intro j b _;have a:j<L w.bU:=(by simpa[aH6] using b);exact aTg a
section
variable{w:br}{l:List aP}
def aN4.si(h:aN4 w l):∀k,k<=L l->SI w (vq w l k) k
 |0,_=>SI.start h.wv
 |k+1,c=>by
  have b:=h.si k (by omega)
  have a:=h.st k c
  have e:vq w l (k+1)=oc w (vq w l k) (gd l k):=by simp only[vq,nD,a,aly]
  rw[e]
  exact b.step (a7R h.wv) (by have:=h.ln;omega) a
def aN4.thr(h:aN4 w l){k:Nat}(b:k<L l):aF (L w.ay) (gd l k).aq:=by have a:=h.st k b;simp only[C1,eH,cP,aOL,fK] at a;exact dX.1 a.1.1.1.1.2
def aN4.cnt(h:aN4 w l){t:Nat}(f:t<L w.ay):∀k,k<=L l->gd (vq w l k).count t=VW l t k
 |0,_=>by
  have:gd (aH6 w).count t=0:=aTg f
  simp[vq,this,VW]
 |k+1,b=>by
  have i:=h.cnt f k (by omega)
  have j:=h.st k b
  have g:=h.thr b
  have d:=h.si k (by omega)
  have m:L (vq w l k).count=L w.ay:=by
   have:=d.fit
   simp only[fN,bN,lS] at this;exact this.2.2.2
  have e:vq w l (k+1)=oc w (vq w l k) (gd l k):=by simp only[vq,nD,j,aly]
  rw[e,aV8 (by omega)]
  simp only[oc]
  rw[gdS]
  have o:=aWu d.c0
  have n:=h.ln
  by_cases c:(gd l k).aq=(t:Int)
  ·have a:(gd l k).aq.toNat=t:=by omega
   rw[bX ⟨a,by omega⟩,bX c,a,i]
   have:=@a6c l t k
   rw[eM (by omega) (by omega)];omega
  ·have a:¬(gd l k).aq.toNat=t:=by have:=g.1;omega
   rw[cj (λe=>a e.1),cj c,i];omega
def a7P(h:aN4 w l){i m:Nat}{st:Int}:∀k,k<=m->cY ⟨w,st,vq w l i,(l.drop i).take m⟩ k=vq w l (i+k)
 |0,_=>rfl
 |k+1,a=>by
  have b:=a7P h (i:=i) (m:=m) (st:=st) k (by omega)
  show nD w (cY _ k) (gd ((l.drop i).take m) k)=nD w (vq w l (i+k)) (gd l (i+k))
  rw[b]
  have:gd ((l.drop i).take m) k=gd l (i+k):=by
   simp only[gd,eI]
   rw[List.getElem?_take_of_lt a,mf]
  rw[this]
def aWv{i m k:Nat}(a:k<m):gd ((l.drop i).take m) k=gd l (i+k):=by simp only[gd,eI];rw[List.getElem?_take_of_lt a,mf]
def a63(h:aN4 w l){i m k:Nat}{st:Int}(v:i<=L l)(F:k<m)(A:i+k<L l){t n:Int}(o:aF (L w.ay) t)(y:aOE l (i+k) t n):qU ⟨w,st,vq w l i,(l.drop i).take m⟩ t n=U:=by obtain⟨j,C,e,b,D⟩:=y;obtain⟨a,rfl⟩:∃a:Nat,t=a:=⟨t.toNat,by have:=o.1;omega⟩;have p:a<L w.ay:=(by have:=o.2;omega);have E:=h.cnt p i v;unfold qU;simp only[bh];rcases Decidable.em (n<gd (vq w l i).count a) with g|g;simp[g];have z:i<=j:=(by rcases Nat.lt_or_ge j i with f|f;exfalso;have:VW l a (j+1)<=VW l a i:=(by obtain⟨d,rfl⟩:∃d,i=j+1+d:=⟨i-(j+1),by omega⟩;have:=@a6b l a (j+1) d;omega);rw[aV8 (by omega),bX e] at this;omega;exact f);obtain⟨d,rfl⟩:∃d,j=i+d:=⟨j-i,by omega⟩;have c:d<m:=(by omega);have r:VW ((l.drop i).take m) a d=VW (l.drop i) a d:=(by simp only[VW,List.take_take,Nat.min_eq_left (aYB c)]);have B:=@a6b l a i d;have s:=a6Y a ((l.drop i).take m) d 0 (by simp only[gC,oz];omega) (by rw[aWv c];exact e);have u:oV ⟨w,st,vq w l i,(l.drop i).take m⟩ a (n-gd (vq w l i).count a)=(d:Int):=(by unfold oV;simp only;rw[show n-gd (vq w l i).count a=((VW ((l.drop i).take m) a d:Nat):Int) by rw[r];omega,s];simp);have q:∀x:Int,x=d->(Q (n<gd (vq w l i).count a)||(Q (0<=x)&&(Q ((gd ((l.drop i).take m) x.toNat).kind=3)||Q ((gd ((l.drop i).take m) x.toNat).kind=23))))=U:=(by rintro x rfl;rw[bh,aWv c];have:0<=(d:Int):=(by omega);rcases b with b|b<;>simp[b,this]);exact q _ u
def bau{a:am}{t:Int}:bg a.init t->nO a t=U:=λh=>by
 simp only[nO,bN,lS]
 exact⟨dX.2 h.1,h.2⟩
def bhG(h:aN4 w l){i m:Nat}(y:i<=L l)(P:m<=16):Po ⟨w,i,vq w l i,(l.drop i).take m⟩=U:=by have f:=h.si i y;have M:=h.ln;have N:L ((l.drop i).take m)<=L l-i:=(by simp only[gC,oz];omega);have O:L ((l.drop i).take m)<=m:=(by simp only[gC];omega);generalize g:(⟨w,i,vq w l i,(l.drop i).take m⟩:am)=W;have q:W.aQ=w:=(by rw[<-g]);have b:W.init=vq w l i:=(by rw[<-g]);have K:W.start=i:=(by rw[<-g]);have v:W.ac=(l.drop i).take m:=(by rw[<-g]);have o:∀t,bg (vq w l i) t->nO W t=U:=λt H=>bau (by rw[b];exact H);simp only[Po,oh,bN,eH,cP,fK,lS,o8];refine⟨⟨⟨⟨⟨⟨?_,?_⟩,?_⟩,?_⟩,?_⟩,?_⟩,?_,?_⟩;rw[q];exact h.wv;rw[q,b];exact f.fit;rw[v];omega;simp only[rM,bN,lS];rw[b,K,v,f.sum];refine⟨λc C=>⟨f.c0 c C,?_⟩,rfl,by omega⟩;obtain⟨j,d,rfl⟩:=ou C;have:=(aWu f.c0 j).1;rw[bT d,f.sum] at this;omega;simp only[uZ,lS];rw[b];intro j d;have S:=f.st j d;obtain⟨R,T⟩:=S.r;simp only[aOK,Eu,zX,q,b,bN,eH,cP,o8,pk,fK,beq_iff_eq];refine⟨⟨⟨⟨by omega,by omega⟩,?_⟩,?_⟩,?_,?_⟩;have:=S.fr;rcases Decidable.em (gd (vq w l i).count j=0) with a|a;rcases this.2 a with p|p<;>simp[a,p];have p:¬((gd (vq w l i).bm.ay j).cQ=0\/(gd (vq w l i).bm.ay j).cQ=1):=λx=>a (this.1 x);simp only[not_or] at p;simp[a,p.1,p.2];rcases Nat.eq_zero_or_pos j with a|a;exact .inr (S.z a);exact .inl (by omega);rcases Decidable.em ((gd (vq w l i).bm.ay j).cQ=3\/(gd (vq w l i).bm.ay j).cQ=4) with a|a;exact .inr (dX.2 (S.wt a).1);simp only[not_or] at a;exact .inl a;rcases Decidable.em ((gd (vq w l i).bm.ay j).cQ=3\/(gd (vq w l i).bm.ay j).cQ=4) with a|a;left;rcases a with a|a<;>simp[a];right;simpa using S.nw a;simp only[ny,bN,lS,eH];refine⟨λj d=>?_,?_,λj d=>?_⟩;rw[b] at d;have u:=f.lk j d;refine⟨?_,λk A=>?_⟩;simp only[AM,q,b,cP,pk,o8,fK,aNS];refine⟨?_,?_⟩;rcases Decidable.em ((gd (vq w l i).bm.ak j).pw= -1) with a|a;exact .inl a;exact .inr (o _ (u.ow a));rcases Decidable.em ((gd (vq w l i).bm.ak j).bk=[]) with a|a;exact .inl (by simp[a]);exact .inr (u.rd a);rw[b] at A⊢;refine⟨o _ (u.rb _ (dB A)),λa=>?_⟩;have:=u.inc (k-1) (by omega);rwa [show k-1+1=k by omega] at this;simp only[yS,b,pk,o8,aNS,fK];rcases Decidable.em ((vq w l i).bm.tx= -1) with a|a;exact .inl a;exact .inr (o _ (f.tx a));rw[b] at d;have S:=f.st j d;simp only[pX,q,b,bN,eH,pk,fK,cP,o8];refine⟨?_,?_⟩;(cases F:(gd (vq w l i).bm.ay j).atomic);exact .inl rfl;exact .inr (o _ (S.at' F));rcases Decidable.em ((gd (vq w l i).bm.ay j).cQ=3\/(gd (vq w l i).bm.ay j).cQ=4) with a|a;exact .inr (S.wt a).2;simp only[not_or] at a;exact .inl a;rw[b];intro j d;have:=f.fu j d;simp only[Ae,b,pk,fK,o8,aNS];(cases G:gd (vq w l i).bm.done j);exact .inr (this G);exact .inl rfl;rw[v];intro k A;have s:k<m:=(by omega);have e:i+k<L l:=(by omega);have D:gd W.ac k=gd l (i+k):=(by rw[v];exact aWv s);have E:cY W k=vq w l (i+k):=(by rw[<-g];exact a7P h k (by omega));simp only[xH,D,E,q,cP,fK,lS];refine⟨⟨h.st _ e,λn B=>?_⟩,λn B=>?_⟩;rw[<-g];exact a63 h y s e (h.thr e) (h.dp _ e n B);rw[<-g];exact a63 h y s e (h.thr e) (h.fr _ e n B)
end
def aXL(s:bW):Lk s.c s.c:=⟨rfl,rfl⟩
def bfm{s:bW}(h:sz5 s):vH 0 s:=⟨⟨by rw[h.1];decide,by rw[h.2.1];decide,by rw[h.2.2.1];decide,λl b=>by have:=h.2.2.2.2.2.2.1 l b;omega⟩,by rw[h.2.2.2.1];decide,by rw[h.2.2.2.2.1];decide,by rw[h.2.2.2.2.2.1];decide,λc a=>by have:=h.2.2.2.2.2.2.2 c a;omega⟩
def w00:am:=⟨dE,0,aH6 dE,[]⟩
def bfG:Po w00=U:=by kernel_rfl
def bfF:hU w00:=⟨by decide,by decide,by intro e a;simp[w00] at a,by decide⟩
def aWb(w:am):iX (.a w.c)=U:=by simp[iX,eN,am.c,sl]
def aXE(l:List Int)(n:Int)(hp:(∀x∈l,0<=x/\x<256)/\L l<4611686018427387904):Ct 12 [sl cu l,iv n] (λr=>∃w:am,r= .a w.c/\Po w=U/\hU w):=by obtain⟨hb,aV⟩:=hp;generalize hQ:(λ(r:AV)=>∃w:am,r= .a w.c/\Po w=U/\hU w)=Qq;refine aDq (bhv λs0 hl h0=>?_);simp only[a4B];refine so hl λv1 s2 F2 N2 b1=>?_;have W:=F2.len.trans hl;suffices hj:∀l':List Int,(∀x∈l',0<=x/\x<256)->L l'<4611686018427387904->aVD s2 (iv n) (.p (4,v1) 0 0) (λr=>Qq (B1 r)) [sl cu l'] from(by rcases q:Q ((400:Int)<(L l:Int)) with _|_;simp only[aVE,u0,u1,q,bt,↓uL];exact hj l hb aV;simp only[aVE,u0,u1,q,bt,↓uL];rw[aIk (z:=1) (f:=cu) λ_=>rfl];have:=nt q;refine⟨⟨by omega,by omega⟩,hj _ (λx hx=>hb x (sA hx)) (by rw[gC];omega)⟩);intro l' aO an;have aQ:bM aTP O7 [(0,sl cu l')]=V (.a [sl cu l',iv 0]):=rfl;simp only[aVD,aI,au,aQ,aY];refine bxL rfl (by decide) (by rw[W];decide) λv5 s6 F6 N5 G=>?_;have T6:Tp s6 (16,v5) l' 0:=⟨G,by omega,aO,an⟩;have X:=F6.len.trans W;have aE:=F6.kq b1;have aP:bM aOQ aQ4 [(0, .a dE.c)]=V (.a (dE.c++(iv 0::(BF++[.l [] U U])))):=rfl;simp only[aWo,ar,u0,aP,↓uL];refine⟨by simp[lo,nA],?_⟩;refine so X λb bB aq N9 b9=>?_;refine qr b9 rfl rfl λa8 av c9=>?_;have d:Fx s6 a8 []:=(aq.trans av).mono λq u=>(by simp at u;subst u;exact .inr N9.no);have aA:=T6.fx d (by simp);have K:=d.len.trans X;have af:=d.kq aE;have a0:∀{xs:List AV},aN (V 6) (dE.c++xs)=V (.a dE.c):=λ{xs}=>rfl;simp only[a4I,u0,u1,c9,a0,aj,ip,↓uL];refine jH rfl (bdb K (.inr (.inr rfl)) aA) ?_;rintro _ bD ⟨s,a',rfl,i,aB,_,m⟩;refine⟨m.len,?_⟩;have ak:=m.len.trans K;have P:=m.kq c9;have aD:=m.kq af;have fb:∀{y:ae} {j:Nat} {r:List AV},box y (6,b)=V ⟨43,15,U,U,[r]⟩->iQ j y (.p (6,b) 0 7)=V (.p (6,b) 0 (7+j)):=λ{y j r} h=>(by rw[rR,h];simp);simp only[a4H,aNI P,aY,↓uL];refine cy (y:=7) (cs:=s.c) P rfl rfl (by decide) λac v aJ=>?_;have aC:=aB.fx v (by simp);have al:=v.len.trans ak;have aF:=v.kq aD;have o:box ac (6,b)=V ⟨43,15,U,U,[dE.c++(iv 0::(s.c++[.l [] U U]))]⟩:=aJ;have aZ:∀{y:ae} {st:Int} {e:AV},box y (6,b)=V ⟨43,15,U,U,[dE.c++(iv st::(s.c++[e]))]⟩->kb J y (.p (6,b) 0 13)=V (sl ci s.count):=λ{y st e} h=>(by rw[aC5,h];rfl);have l6:∀{y:ae} {st:Int} {e:AV},box y (6,b)=V ⟨43,15,U,U,[dE.c++(iv st::(s.c++[e]))]⟩->kb J y (.p (6,b) 0 6)=V (iv st):=λ{y st e} h=>(by rw[aC5,h];rfl);have l7:∀{y:ae} {st:Int} {e:AV},box y (6,b)=V ⟨43,15,U,U,[dE.c++(iv st::(s.c++[e]))]⟩->kb (V 7) y (.p (6,b) 0 7)=V (.a s.c):=λ{y st e} h=>(by rw[aC5,h];rfl);have l0:∀{y:ae} {r:List AV},box y (6,b)=V ⟨43,15,U,U,[dE.c++r]⟩->kb (V 6) y (.p (6,b) 0 0)=V (.a dE.c):=λ{y r} h=>(by rw[aC5,h];rfl);have N:∀{Y:ae} {l:List Int},fS Y (sl ci l)=V (iv (L l)):=cT;have bz:L s.count<1000:=(by rw[i.2.2.2.2.2.1];decide);simp only[a4G,aNI o,fb o,aZ o,N,aY,Nat.reduceAdd,↓uL];refine yV (L s.count) (λ_ _ y=>(∃st:Int,box y (6,b)=V ⟨43,15,U,U,[dE.c++(iv st::(s.c++[.l [] U U]))]⟩)/\Fx ac y [(6,b)]) ⟨⟨0,o⟩,Fx.refl _ _⟩ ?_;rintro k _ y hk ⟨⟨st,g⟩,M⟩;rcases q1:Q ((k:Int)<(L s.count:Int)) with _|_;simp only[aVF,aI,au,av4,aY,q1,↓iB,aNI g,l7 g,l0 g,aRW,aXT,↓uL];generalize aW:(if(16:Int)<(if(0:Int)>n then 0 else n) then(16:Int) else(if(0:Int)>n then 0 else n))=n';have ao:n'<=16:=(by rw[<-aW];split<;>omega);have aa:=M.len.trans al;have Ty:=aC.fx M (by simp);refine jH rfl (bdm aa rfl Ty (aXL s) (bfm i) i.2.2.2.1 i.2.2.2.2.1 i.2.2.2.2.2.1 ao) ?_;rintro _ y2 ⟨es,rfl,bm,T,K2⟩;refine⟨K2.len,?_⟩;have R:=K2.kq g;have aG:=K2.kq (M.kq aF);simp only[a4F,aNI R,aY,↓uL];refine A0 R rfl (by simp[br.c,bW.c]) λy3 F3 b3=>?_;have O:=F3.kq aG;have aU:L y3=4096:=F3.len.trans (K2.len.trans aa);have d3:box y3 (6,b)=V ⟨43,15,U,U,[am.c ⟨dE,st,s,es⟩]⟩:=b3;have ab:∀{w:am},aN (V 15) w.c=V (.a w.c):=λ{w}=>rfl;have H:hU ⟨dE,st,s,es⟩:=⟨by show L dE.bC<_;decide,λq u=>by have:=i.2.2.2.2.2.2.1 q u;omega,λe he=>⟨by have:=(T e he).1;omega,by have:=(T e he).2;omega⟩,by show L s.bU<_;rw[i.2.2.2.2.1];decide⟩;simp only[a4E,u0,u1,d3,ab,ip,aWo,ar,rr,↓uL];refine⟨H,λbA=>?_,λaX=>?_⟩;refine⟨by simp[lo,nA],by simp[lo,nA],?_⟩;refine jH rfl (aXI (w:=dE) aU (by decide) (by decide) (by decide) (by decide)) ?_;rintro _ y4 ⟨A,B,C,D,E,F,rfl,S,F4⟩;refine⟨F4.len,?_⟩;have ah:bM aOQ aQ4 [(0, .a dE.c),(2, .a [A,iv (-1),B,C,D,E,F])]=V (.a (dE.c++(iv 0::([A,iv (-1),B,C,D,E,F]++[.l [] U U])))):=rfl;have a7:aN (V 15) (dE.c++(iv 0::([A,iv (-1),B,C,D,E,F]++[.l [] U U])))=V (.a (dE.c++(iv 0::([A,iv (-1),B,C,D,E,F]++[.l [] U U])))):=rfl;simp only[a4D,ah,aY,↓uL];refine qr (F4.kq O) rfl rfl λy5 F5 G=>?_;have t:=S.keep F5 (by simp);simp only[u0,u1,G,a7,ip,↓uL];have hf:(dE.c++(iv 0::([A,iv (-1),B,C,D,E,F]++[.l [] U U]))).map (fz y5)=w00.c:=(by simp only[dg,ji,mU,aBr t.g1,aBr t.g2,aBr t.g3,aBr t.g4,aBr t.g5,aBr t.g6];rfl);refine aOv (v':= .a w00.c) (aC2 AV.a hf) (aWb _) ?_;rw[<-hQ];exact⟨w00,rfl,bfG,bfF⟩;refine qr O rfl rfl λy5 F5 G=>?_;simp only[u0,u1,G,ab,↓uL];refine aOv (v':= .a (am.c ⟨dE,st,s,es⟩)) rfl (aWb _) ?_;rw[<-hQ];exact⟨_,rfl,by simpa using aX,H⟩;have Z:k<L s.count:=RF.1 (nt q1);simp only[aVF,aI,au,av4,aY,q1,↓iC,amX,ci,qM,aNI g,l6 g,cS,↓uL];refine⟨dJ Z,?_⟩;refine A0 g rfl (by simp[br.c,bW.c]) λy2 F2 b2=>?_;simp only[a4C,au,cS,aY,↓uL];exact yU Z ⟨⟨_,b2⟩,(M.trans F2).mono λq u=> .inl (by simpa using u)⟩
def aSj:FT:=pn aXE
def bcl{l n Lw K}:=rQ aSj aXE l n Lw K (j:=by simp+contextual only[ij,aQZ])
def a7J:dO:=(12,aSj)::a7I
def aX7:eJ a7J:=it (aN0 aXE) (a7s)
def aQW:=ai @bcl<|@aWo
section
attribute[local irreducible] aX
def a9Q:=bi 20 [(10,([5],[1,4]))]
def a4m a(e:aG)(b:bu) f c:=aV (gt a 0) (iv 1) λd=>e [d] c/\b [d] c<b a f
def aVu l g e d R f h i j k a:=cf l λb=>bn b 6 a g λm=>ic b (gt e 0) λn=>bn b 0 a d λo=>bn b 5 a d λp=>aC b (fV aSi a [m,n,o,p]) λq=>aC b (cf q) λr=>aD b (bv U) r λc=>bn c 6 a g λs=>ic c (gt e 0) λt=>bn c 0 a d λu=>bn c 6 a d λv=>aC c (fV aSi a [s,t,u,v]) λw=>aC c (cf w) λx=>aD c (bv U) x λy=>ah y (aE R a [(gt e 0),(iv 12)]) (aw 7 a f λz=>sV (aK 7 a h z) (a4m e i j k))
def a4n f d c g R h i j b:=aB 0 b f λl=>aw 6 b l λm=>aw 7 b d λn=>aw 7 b c λo=>fV Cd b [m,n,o] λe=>rV (eO 0 e) λp=>rV (eO 1 e) λq=>eV (bs 40 BF b 7) λa k=>sV (aK 7 k a p) (aVu q f g c R a d h i j)
def aVv d e R f g b a:=∀_:Rg,ab 6 a d λi=>aJ a i λj=>aU (gt b 0) j λk=>ah k (ab 6 a d λl=>ao 7 a l (gt b 0) λm=>aw 7 a m λn=>eV (bs 64 y8 a 6) λc h=>sV (aK 7 h c n) (a4n d e c b R f g a)) (aE R a [(iv 0),(iv 0)])
def a4o f R e b:=eV (bs 40 BF b 4) λa c=>sV (aK 7 c a e) λd=>lV [(iv 0)] d (aVv f a R)
def aSG b a R:=ab 6 a b λt4=>aJ a t4 λf=>aO .gtr f (iv 400) λg=>ah g (aE R a [(iv 0),(iv 2)]) (aB 0 a b λh=>aw 6 a h λi=>fV FC a [i] λj=>cf j λc=>ah c (aE R a [(iv 0),(iv 1)]) (aB 0 a b λd=>aw 6 a d λe=>cB 29 [e] a 19 (a4o b R)))
def bhp{b:List AV}{R:d7}(l0:L b=7)(h:H1 56 7 1 b λc d=>aSG c d R):Ct 33 [.a b] R:=z1 a9Q aX7 Tryz.func33 l0 h
def a9U:=bi 9 [(4,([6],[1,2,4,5]))]
def a4v h k d n o a p l m q e r(i:aG)(b:bu) j c:=dH [(bo h),(bo k),(bo d),(bo h),(bo n),km,(lb U [o,(gt a 0)] []),(bo p),(Qh [(.f 64 [] []),l,m,q]),km,(bo e),(bo e),(lb I [d,r] [])] [(11,12)] (aV (gt a 0) (iv 1) λg=>i [g] c/\b [g] c<b a j)
def aVz t e c t3 R o p b a:=∀_:Rg,aU (gt b 0) t λq=>ah q (aB 0 a e λg=>aw 6 a g λh=>aw 7 a c λi=>aB 6 a e λj=>aM a j λk=>ao 7 a k (gt b 0) λl=>aw 7 a l λm=>fV Cd a [h,i,m] λd=>rV (eO 0 d) λn=>rV (eO 1 d) λu=>sV (aK 7 a c n) (a4v e g c j k b l h i m d n o p a)) (aw 7 a c λr=>sV (aK 7 a t3 r) λf=>aw 7 f t3 λs=>aE R f [s])
def a4w e d t3 R g f:=eV (bs 40 BF f 5) λa b=>sV (aK 7 b a g) λc=>lV [(iv 0)] c (aVz e d a t3 R)
def a4x a c R t3 b:=aB 0 b a λd=>aw 6 b d λe=>cB 29 [e] b 9 (a4w c a t3 R)
def aVy a b c R:=eV (bs 40 BF c 4) (a4x a b R)
def bhs{b:List AV}{c:AV}{R:d7}(l0:L b=7)(h:H1 56 7 2 b λd e=>aVy d c e R):Ct 34 [.a b,c] R:=z1 a9U aX7 Tryz.func34 l0 h
end
def a6N{Y:ae}{w:br}(h:L Y=4096)(d:L w.cells<=1000)(e:L w.ak<=100)(f:L w.bU<=100)(g:L w.ay<=100):∃r b,(r= .a (aH6 w).c/\Fx Y b [])/\cZ aS GG 29 [.a w.c] Y r b:=by refine aQR (aXI h d e f g) ?_;rintro _ b ⟨j,k,l,m,n,o,rfl,S,F⟩;refine⟨?_,(F.trans (aOp _ _)).mono λq i=> .inr (S.ids q i).1.no⟩;show AV.a (List.map gK (List.map (gi b) _))=_;rw[vA];exact aC2 AV.a S.lz
def bfk{w:br}(h:mQ w=U):vH 0 (aH6 w):=by obtain⟨d,e,f,g,i,j⟩:=aP4 h;refine⟨⟨by simp[aH6];omega,by simp[aH6];omega,by simp[aH6,qZ];omega,λl b=>?_⟩,by simp[aH6];omega,by simp[aH6];omega,by simp[aH6];omega,λc a=>?_⟩;rw[aXY b];simp;rw[aXY a];simp
def aTz{w:br}{l:List aP}(h:mQ w=U):∀k,k<=90000->vH k (vq w l k)|0,_=>bfk h|k+1,a=>(aTz h k (by omega)).step (by omega)
def bcA{ds:List AV}{s:bW}(h:Lk ds s.c)(Y:ae):fzT Y (.a ds)= .a s.c:=by have b:=h.fd Y;have d:ds.map (fz Y)=(ds.map (dQ Y)).map gK:=(by rw[vA];rfl);show AV.a (ds.map (fz Y))=_;rw[d,b,h.1]
def aR0{ds:List AV}{s:bW}(h:Lk ds s.c):aN (V 7) ds=V (.a ds):=Bi (oC h)
def ba9(s:bW):iX (.a s.c)=U:=by simp[iX,eN,bW.c,sl]
def aYr(w:br)(l:List aP)(k:Nat):Prop:=∀j,j<k->C1 w (vq w l j) (gd l j)=U/\(∀n∈(gd l j).dI,aOE l j (gd l j).aq n)/\∀n∈(gd l j).ep,aOE l j (gd l j).aq n
def aXx(t:O3)(hp:L t.ac<1000000/\∀e∈t.ac,EvL e):Ct 33 [.a t.c] (λr=>∃i e:Int,r= .t [iv i,iv e]/\(e=0->aN4 t.aQ t.ac)):=by obtain⟨S,aw⟩:=hp;generalize hQ:(λ(r:AV)=>∃i e:Int,r= .t [iv i,iv e]/\(e=0->aN4 t.aQ t.ac))=Qq;refine aDq (bhp rfl λs2 hl b h0=>?_);show aSG (.p (1,1) 0 0) s2 λr=>Qq (B1 r);have f:∀{i e:Int},(e=0->aN4 t.aQ t.ac)->Qq (B1 (.t [iv i,iv e])):=λ{i e} h=>(by rw[<-hQ];exact⟨i,e,rfl,h⟩);have C:∀{y:ae} {i e:Int},(e=0->aN4 t.aQ t.ac)->aE (λr=>Qq (B1 r)) y [iv i,iv e]:=λ{y i e} h=>aOH (vs':=[iv i,iv e]) rfl rfl (by rw[<-hQ];exact⟨i,e,rfl,h⟩);have s:∀{y:ae},box y (1,1)=V ⟨56,7,U,U,[t.c]⟩->kb J y (.p (1,1) 0 6)=V (sl aP.c t.ac):=λ{y} h=>(by rw[aC5,h];rfl);have lW:∀{y:ae},box y (1,1)=V ⟨56,7,U,U,[t.c]⟩->kb (V 6) y (.p (1,1) 0 0)=V (.a t.aQ.c):=λ{y} h=>(by rw[aC5,h];rfl);have q:∀{y:ae},fS y (sl aP.c t.ac)=V (iv (L t.ac)):=cT;rcases q0:Q ((400:Int)<(L t.ac:Int)) with _|_;rotate_left;simp only[aSG,aNI b,s b,q,av1,aY,q0,↓iC,↓uL];exact C (by simp);have az:L t.ac<=400:=(by have:=aNG q0;omega);simp only[aSG,aNI b,s b,lW b,q,av1,aY,q0,↓iB,aQW,ar,rr,aIN,↓uL];rcases hv:mQ t.aQ with _|_;simp only[kN,iC];exact f (by simp);obtain⟨z1,z2,z3,z4,z5,z6⟩:=aP4 hv;simp only[fh,iB];refine jH rfl (a6N hl (by omega) (by omega) (by omega) (by omega)) ?_;rintro _ bb ⟨rfl,u⟩;refine⟨u.len,?_⟩;have z:=u.len.trans hl;have Z:=u.kq b;simp only[a4o];refine so z λv4 bc N N4 b4=>?_;refine qr b4 rfl rfl λbd O c4=>?_;have aa:=O.kq (N.kq Z);have ad:=O.len.trans (N.len.trans z);refine yV (L t.ac) (λk _ y=>box y (1,1)=V ⟨56,7,U,U,[t.c]⟩/\(∃ds,box y (4,v4)=V ⟨40,7,U,U,[ds]⟩/\Lk ds (vq t.aQ t.ac k).c)/\L y=4096/\aYr t.aQ t.ac k) ⟨aa,⟨_,c4,aXL _⟩,ad,λj d=>nl d (Nat.not_lt_zero _)⟩ ?_;rintro k _ y hk ⟨v,⟨ds,d4,H⟩,T,G⟩;rcases K:Q ((k:Int)<(L t.ac:Int)) with _|_;simp only[aVv,aI,au,aNI v,s v,q,av4,aY,K,↓iB,↓uL];have ax:k=L t.ac:=bP hk (bw K);subst ax;exact C λ_=>⟨hv,az,λj d=>(G j d).1,λj d=>(G j d).2.1,λj d=>(G j d).2.2⟩;have A:k<L t.ac:=RF.1 (nt K);have W:∀{e:aP},aN (V 7) e.c=V (.a e.c):=rfl;simp only[aVv,aI,au,aNI v,s v,q,av4,aY,K,↓iC,aCh,aC6,W,bh,↓uL];refine⟨dJ A,?_⟩;have x:=aw _ (dB A);generalize he:gd t.ac k=e at x;refine so T λD y1 X N6 c6=>?_;refine qr c6 rfl rfl λy2 G2 P=>?_;have w:=G2.kq (X.kq v);have R:=G2.kq (X.kq d4);have B:=G2.len.trans (X.len.trans T);have al:∀{Y:ae},dG Y (.a ds)= .a (vq t.aQ t.ac k).c:=λ{Y}=>H.arg Y;obtain⟨p2,p3,p4,p5,p6,p7,p8⟩:=(aTz (l:=t.ac) hv k (by omega)).snB (by omega);simp only[a4n,aNI w,lW w,u0,u1,R,P,aR0 H,W,ip,aQW,ar,al,↓uL];refine⟨⟨by omega,p2,p3,p4,p5,p6,p7,p8,by have:=x.1;omega,by have:=x.2;omega⟩,?_⟩;rintro _ ⟨cs,rfl,o⟩;refine⟨.inl (by simp[nA,x9 H];simp[eB,iR,aP.c,br.c,sl]),?_⟩;simp only[oJ,pG,aY];refine so B λv7 y3 E N7 c7=>?_;refine qr c7 rfl (oC o) λM F am=>?_;have m:=F.kq (E.kq w);have an:=F.kq (E.kq R);have g:=F.kq (E.kq P);have af:=F.len.trans (E.len.trans B);have g0:∀{j:Nat},iQ j M (.p (6,D) 0 0)=V (.p (6,D) 0 j):=λ{j}=>(by rw[rR,g];simp);have g1:kb J M (.p (6,D) 0 0)=V (iv e.aq):=(by rw[aC5,g];rfl);have g5:kb J M (.p (6,D) 0 5)=V (sl ci e.dI):=(by rw[aC5,g];rfl);have g6:kb J M (.p (6,D) 0 6)=V (sl ci e.ep):=(by rw[aC5,g];rfl);rcases aA:C1 t.aQ (vq t.aQ t.ac k) e with _|_;simp only[aVu,au,aIN,u0,↓jN,ya,bt,↓uL];exact C (by simp);simp only[aVu,au,aIN,u0,↓jA,Aa,aNI m,s m,g0,g1,g5,aQW,ar,rr,↓uL];have ao:∀(b b2:Bool),(b=U->∀n∈e.dI,aOE t.ac k e.aq n)->(b2=U->∀n∈e.ep,aOE t.ac k e.aq n)->b=U->b2=U->aYr t.aQ t.ac (k+1):=λb b2 h1 h2 h3 h4 j d=>(by rcases Nat.lt_succ_iff_lt_or_eq.1 d with h|rfl;exact G j h;rw[he];exact⟨aA,h1 h3,h2 h4⟩);refine⟨⟨by omega,S,by have:=x.1;omega⟩,?_⟩;rintro _ ⟨r1,rfl,aB⟩;refine⟨.inl (by simp[nA,eB,iR,sl]),?_⟩;cases r1 with|false=>simp only[aIN,aY,aMZ,kN,fh,aBA,jN,ya,iC];exact f (by simp)|true=>simp only[aIN,aY,aMZ,kN,fh,aBA,jA,s m,g1,g6,aQW,ar];refine⟨⟨by omega,S,by have:=x.2;omega⟩,?_⟩;rintro _ ⟨r2,rfl,aC⟩;refine⟨.inl (by simp[nA,eB,iR,sl]),?_⟩;cases r2 with|false=>simp only[aIN,aY,kN,Aa,iC];exact f (by simp)|true=>simp only[aIN,aY,fh,Aa,iB,u1,am,aR0 o,ip];refine qr an (oC H) (oC o) λy5 G5 c5=>?_;simp only[a4m,au,cS,aY,↓uL];refine yU A ⟨G5.kq m,⟨cs,c5,?_⟩,G5.len.trans af,ao U U aB aC rfl rfl⟩;show Lk cs (nD t.aQ (vq t.aQ t.ac k) (gd t.ac k)).c;rw[he];exact o
def aUo:FT:=om aXx
def bcf{t Lw K}:=qz aUo aXx t Lw K (j:=by simp+contextual only[ij,Nb])
def aXA(t:O3)(n:Nat)(hp:aN4 t.aQ t.ac/\n<=L t.ac/\∀e∈t.ac,EvL e):Ct 34 [.a t.c,iv n] (·= .a (vq t.aQ t.ac n).c):=by obtain⟨D,hn,E⟩:=hp;have N:=D.wv;have aA:=D.ln;obtain⟨z1,z2,z3,z4,z5,z6⟩:=aP4 N;refine aDq (bhs rfl λs2 H W h0=>?_);show aVy (.p (2,1) 0 0) (iv n) s2 λr=>B1 r= .a (vq t.aQ t.ac n).c;have lE:∀{y:ae},box y (2,1)=V ⟨56,7,U,U,[t.c]⟩->kb J y (.p (2,1) 0 6)=V (sl aP.c t.ac):=λ{y} h=>(by rw[aC5,h];rfl);have O:∀{y:ae},box y (2,1)=V ⟨56,7,U,U,[t.c]⟩->kb (V 6) y (.p (2,1) 0 0)=V (.a t.aQ.c):=λ{y} h=>(by rw[aC5,h];rfl);simp only[aVy];refine so H λv4 S A N4 Z=>?_;have m:=A.len.trans H;have d:=A.kq W;simp only[a4x,aNI d,O d,aY,↓uL];refine jH rfl (a6N m (by omega) (by omega) (by omega) (by omega)) ?_;rintro _ s8 ⟨rfl,o⟩;refine⟨o.len,?_⟩;have K:=o.len.trans m;simp only[a4w];refine so K λi aB w N9 b9=>?_;refine qr b9 rfl rfl λR x c9=>?_;have B:Fx S R [(5,i)]:=(o.trans w).trans x;refine yV n (λk _ y=>Fx S y [(5,i)]/\∃ds,box y (5,i)=V ⟨40,7,U,U,[ds]⟩/\Lk ds (vq t.aQ t.ac k).c) ⟨B,_,c9,aXL _⟩ ?_;rintro k _ y hk ⟨F,ds,u,b⟩;have s:=F.kq d;have d4:=F.kq Z;have P:∀{e:aP},aN (V 7) e.c=V (.a e.c):=rfl;rcases g:Q ((k:Int)<(n:Int)) with _|_;have G:k=n:=bP hk (bw g);subst G;simp only[aVz,aI,au,av4,aY,g,↓iB,u1,u,aR0 b,aj,ip,↓uL];refine qr d4 rfl (oC b) λT z X=>?_;simp only[u0,u1,X,aR0 b,↓uL];exact aQ7 (bcA b T) (ba9 _);have M:k<n:=RF.1 (nt g);have f:k<L t.ac:=(by omega);have C:∀{Y:ae},dG Y (.a ds)= .a (vq t.aQ t.ac k).c:=λ{Y}=>b.arg Y;obtain⟨p2,p3,p4,p5,p6,p7,p8⟩:=(aTz (l:=t.ac) N k (by omega)).snB (by omega);have v:=E _ (dB f);have l9:kb (V 7) y (.p (5,i) 0 0)=V (.a ds):=(by rw[aC5,u];simp[aR0 b]);simp only[aVz,aI,au,av4,aY,g,↓iC,aNI s,O s,lE s,l9,aCh,aC6,P,bh,↓uL];refine⟨dJ f,?_⟩;generalize he:gd t.ac k=e at v;simp only[aQW,ar,C];refine⟨⟨by omega,p2,p3,p4,p5,p6,p7,p8,by have:=v.1;omega,by have:=v.2;omega⟩,?_⟩;rintro _ ⟨cs,rfl,j⟩;refine⟨.inl (by simp[nA,x9 b];simp[eB,iR,aP.c,br.c,sl]),?_⟩;simp only[oJ,pG,aY];refine qr u (oC b) (oC j) λT z c2=>?_;simp only[a4v,↓uL];refine dT (by simp[eL,lb,Qh,cD,dC,dK]) ?_;simp only[au,cS,aY];refine yU M ⟨(F.trans z).mono λq hq=> .inl (by simpa using hq),cs,c2,?_⟩;show Lk cs (nD t.aQ (vq t.aQ t.ac k) (gd t.ac k)).c;rw[he];exact j
def aUq:FT:=gz aXA
def bci{t n Lw K}:=gX aUq aXA t n Lw K (j:=by simp+contextual only[ij,Nb,Int.natCast_inj])
def a7K:dO:=(33,aUo)::(34,aUq)::a7J
def a7t:eJ a7K:=it (rj aXx) (it (aCb aXA) (aX7))
def aWp:=ai @bcf<|ai @bci<|@aQW
section
attribute[local irreducible] aX
def a9T:=bi 16 [(11,([8,9],[1,2]))]
def a4u b k m a o i r s q t p u l n v w x(h:aG)(c:bu) j e d:=dH [km,(bo b),(bo k),km,(bo b),km,(Qh [(.f 34 [] []),m,(gt a 1)]),(bo b),(bo o),km,km,km,(lb U [(gt a 1),i] []),(bo b),(bo r),(bo s),(lb U [q,t] []),(lb U [p,(gt a 1),u] []),(lb U [l,(gt a 1),n,v] []),(lb I [w] []),(lb I [(gt a 0),x] [51]),km] [(0,19)] (aV (gt a 1) i λg=>h [e,g] d/\c [e,g] d<c a j)
def aVx c s R r t b a:=∀_:Rg,ab 6 a c λv=>aJ a v λw=>aU (gt b 1) w λx=>ah x (aB 0 a c λd=>aw 6 a d λe=>aw 7 a c λf=>fV aUq a [f,(gt b 1)] λg=>aB 6 a c λh=>aM a h λi=>aV (gt b 1) s λj=>aB 6 a c λk=>aM a k λl=>aJ a l λm=>rV (AO .min j m) λn=>rV (fo 7 a i (V (gt b 1)) (V n) J) λo=>rV (bM aOQ aQ4 [(0,e),(1,(gt b 1)),(2,g),(3,o)]) λp=>eV (aX a72 1 a [(0,p)]) λq u=>eV (j5 43 aOQ 328 u 51 (gt b 0) q) (a4u c d f b h s k l j m i n e g o p q r t a)) (aE R a [(gt b 0),(iv 0)])
def aVw b c a R:=aw 7 a b λt3=>fV aUo a [t3] λt4=>rV (eO 0 t4) λj=>rV (eO 1 t4) λh=>aO .neq h (iv 0) λi=>ah i (aE R a [(.l [] U U),(iv 12)]) (aU c (iv 1) λd=>ic d c λe=>aC d (aO .gtr e (iv 16)) λf=>aD d (bv U) f λg=>ah g (aE R a [(.l [] U U),(iv 1)]) (lV [(.l [] U U),(iv 0)] a (aVx b c R)))
def bhr{b:List AV}{c:AV}{R:d7}(l0:L b=7)(h:H1 56 7 2 b λd e=>aVw d c e R):Ct 14 [.a b,c] R:=z1 a9T a7t Tryz.func14 l0 h
end
def aV1(l:List am):Prop:=∀w∈l,Po w=U/\hU w
def bhH{t:O3}(a:aN4 t.aQ t.ac)(d:∀e∈t.ac,EvL e){i j:Nat}(g:i<=L t.ac)(k:j<=i+16):Po ⟨t.aQ,i,vq t.aQ t.ac i,(t.ac.take j).drop i⟩=U/\hU ⟨t.aQ,i,vq t.aQ t.ac i,(t.ac.take j).drop i⟩:=by obtain⟨z1,z2,m,n,o,p⟩:=aP4 a.wv;have c:=aTz (l:=t.ac) a.wv i (by have:=a.ln;omega);rw[List.drop_take];refine⟨bhG a g (by omega),by show L t.aQ.bC<_;omega,λl h=>?_,λe f=>?_,?_⟩;have:=c.sy.rd l h;have:=a.ln;omega;have b:=d e (List.mem_of_mem_drop (sA f));exact⟨by have:=b.1;omega,by have:=b.2;omega⟩;have:=c.fu;show L (vq t.aQ t.ac i).bU<_;omega
def spM(vs:List AV)(y:ae):Nat:=(1000-(match gt vs 1 with| .s (.int _ n)=>n|_=>0)).toNat
def aXz(t:O3)(n:Int)(hp:L t.ac<1000000/\∀e∈t.ac,EvL e):Ct 14 [.a t.c,iv n] (λr=>∃(l:List am) (e:Int),r= .t [sl am.c l,iv e]/\aV1 l):=by obtain⟨P,v⟩:=hp;generalize K:(λ(r:AV)=>∃(l:List am) (e:Int),r= .t [sl am.c l,iv e]/\aV1 l)=Qq;refine aDq (bhr rfl λs2 hl G h0=>?_);show aVw (.p (2,1) 0 0) (iv n) s2 λr=>Qq (B1 r);have Z:∀{y:ae},box y (2,1)=V ⟨56,7,U,U,[t.c]⟩->kb (V 7) y (.p (2,1) 0 0)=V (.a t.c):=λ{y} h=>(by rw[aC5,h];rfl);have X:∀{y:ae},box y (2,1)=V ⟨56,7,U,U,[t.c]⟩->kb J y (.p (2,1) 0 6)=V (sl aP.c t.ac):=λ{y} h=>(by rw[aC5,h];rfl);have lW:∀{y:ae},box y (2,1)=V ⟨56,7,U,U,[t.c]⟩->kb (V 6) y (.p (2,1) 0 0)=V (.a t.aQ.c):=λ{y} h=>(by rw[aC5,h];rfl);have B:∀{y:ae},fS y (sl aP.c t.ac)=V (iv (L t.ac)):=cT;have f:∀{y:ae} {e:Int},aE (λr=>Qq (B1 r)) y [.l [] U U,iv e]:=λ{y e}=>aOH (vs':=[sl am.c [],iv e]) rfl rfl (by rw[<-K];exact⟨[],e,rfl,by intro w s;simp at s⟩);simp only[aVw,Z G,aY,aWp,ar,Fa,↓uL];refine⟨⟨P,v⟩,?_⟩;rintro _ ⟨i0,e0,rfl,u⟩;refine⟨.inl (by simp[nA,eB,iR,O3.c,br.c,sl]),?_⟩;simp only[oJ,pG,aY,av6];rcases q0:Q (e0≠0) with _|_;rotate_left;simp only[iC];exact f;have u:=u (by simpa using q0);have aw:=u.ln;simp only[iB];rcases x:Q (n<1) with _|_;rotate_left;simp only[u0,u1,x,↓jN,ya,bt,↓uL];exact f;rcases D:Q (16<n) with _|_;rotate_left;simp only[u0,u1,x,D,↓jA,bt,↓uL];exact f;have h1:1<=n:=(by have:=aNG x;omega);have ap:n<=16:=(by have:=aNG D;omega);simp only[u0,u1,x,D,↓jA,bt,↓uL];let b:aG:=λvs y=>∃(o:AV) (k:List am) (i:Nat),vs=[o,iv i]/\i<=500/\L k<=i/\aV1 k/\gm y 43 15 o (k.map am.c)/\(∀q∈aA o,q.1=51)/\box y (2,1)=V ⟨56,7,U,U,[t.c]⟩/\L y=4096;refine⟨b,spM,⟨_,[],0,rfl,by omega,by simp,by intro w s;simp at s, .inl ⟨rfl,rfl⟩,by simp[aA],G,hl⟩,?_⟩;rintro _ y ⟨o,k,i,rfl,hi,ax,M,g,po,d,A⟩;generalize hI:b=I';rcases E:Q ((i:Int)<(L t.ac:Int)) with _|_;simp only[aVx,aI,au,ck,aNI d,X d,B,av4,aY,E,↓iB,↓uL];refine aOH (vs':=[sl am.c k,iv 0]) (by simp only[ji,mU,aWs g];rfl) (by simp[iX,eN,sl]) ?_;rw[<-K];exact⟨k,0,rfl,M⟩;have z:i<L t.ac:=RF.1 (nt E);have H:dq.wrap ((i:Int)+n)=(i:Int)+n:=eM (by omega) (by omega);obtain⟨m,rfl⟩:∃m:Nat,n=m:=⟨n.toNat,by omega⟩;obtain⟨j,R,S,av⟩:∃j:Nat,(if(L t.ac:Int)<(i:Int)+m then(L t.ac:Int) else(i:Int)+m)=j/\j<=i+16/\i<=j/\j<=L t.ac:=(by split;exact⟨L t.ac,rfl,by omega,by omega,by omega⟩;exact⟨i+m,by omega,by omega,by omega,by omega⟩);have s:=bhH u v (aYB z) S;have N:bM aOQ aQ4 [(0, .a t.aQ.c),(1,iv i),(2, .a (vq t.aQ t.ac i).c),(3,sl aP.c ((t.ac.take j).drop i))]=V (.a (am.c ⟨t.aQ,i,vq t.aQ t.ac i,(t.ac.take j).drop i⟩)):=rfl;simp only[aVx,aI,au,ck,aNI d,X d,lW d,Z d,B,av4,cS,aY,E,↓iC,aWp,ar,Fa,H,aXT,R,slE,↓uL];refine⟨⟨u,aYB z,v⟩, .inl (by simp[nA,eB,iR,O3.c,br.c,sl]),⟨by omega,by omega,by omega⟩,?_⟩;simp only[bh,N,aY];generalize aq:(am.mk t.aQ i (vq t.aQ t.ac i) ((t.ac.take j).drop i))=W at s;have O:aX a72 1 y [(0, .a W.c)]=V (.l ([W].map am.c) U U,y):=ua rfl rfl rfl (by decide) (by simp[am.c,eN,sl]) (by decide);have aEx:∀{l:List am},∀r∈l.map am.c,L r=15:=qW (by intro _;rfl);simp only[O,bQ];refine apQ g A aEx aEx (by simp) (by simp;omega) λC y2 g2 F p2=>?_;simp only[a4u,↓uL];refine dT (by simp[eL,lb]) ?_;simp only[ck,cS,aY,H,↓uL];rw[<-hI];refine⟨⟨C,k++[W],i+m,by simp,by omega,by simp;omega,λw T=>?_,by rw[dg];exact g2.p,λq hq=>(p2 q hq).2,F.keep _ _ (λh=>by have:=po _ h;simp at this) d,F.len.trans A⟩,?_⟩;rcases List.mem_append.1 T with h|h;exact M w h;simp at h;subst h;exact s;show(1000-((i:Int)+m)).toNat<(1000-(i:Int)).toNat;omega
def aUp:FT:=pn aXz
def bch{t n Lw K}:=rQ aUp aXz t n Lw K (j:=by simp+contextual only[ij,Nb])
def a7L:dO:=(14,aUp)::a7K
def a7u:eJ a7L:=it (aN0 aXz) (a7t)
def aWq:=ai @bch<|@aWp
section
attribute[local irreducible] aX
def a8K:=bi 3 []
def aZe e t1 R a:=aw 7 a e λc=>sV (aK 7 a t1 c) λb=>aw 7 b t1 λd=>aE R b [d]
def aZf a e f t1 R d b:=sV (aK 7 b a e) λc=>sV (aK 7 c d f) (aZe a t1 R)
def aZg d e R t1 a:=fV aTU a [d] λt3=>fV aTT a [e] λt4=>fV aUi a [t3,t4] λb=>rV (eO 0 b) λg=>rV (eO 1 b) λh=>eV (bs 56 aPb a 5) λc f=>eV (bs 87 NY f 6) (aZf c g h t1 R)
def aZd a b s0 R:=eV (bs 56 aPb s0 4) (aZg a b R)
def bgh{a:AV}{b:AV}{R:d7}(h:H0 λs0=>aZd a b s0 R):Ct 13 [a,b] R:=z0 a8K a7u Tryz.func13 h
end
def aWK(p:List Int)(s:List Int)(D:(∀x∈p,0<=x/\x<256)/\L p<4611686018427387904/\L s<=100):Ct 13 [sl cu p,sl cu s] (λr=>∃t:O3,r= .a t.c/\L t.ac<=100/\∀e∈t.ac,EvL e):=by obtain⟨z,A,W⟩:=D;generalize B:(λ(r:AV)=>∃t:O3,r= .a t.c/\L t.ac<=100/\∀e∈t.ac,EvL e)=Qq;refine aDq (bgh λs0 k T=>?_);simp only[aZd];refine so k λv1 X o R q=>?_;have g:=o.len.trans k;simp only[aZg,aWq,ar];refine⟨⟨z,A⟩,?_⟩;rintro _ ⟨c,rfl,C⟩;refine⟨.inl (by simp[nA,eB,iR,sl]),?_⟩;simp only[Fa];refine⟨by omega,?_⟩;rintro _ ⟨cs,rfl,H⟩;refine⟨.inl (by simp[nA,eB,iR,sl]),?_⟩;simp only[aWq,ar];refine⟨⟨C,by omega⟩,?_⟩;rintro _ ⟨t,st,rfl,l,m⟩;refine⟨.inl (by simp[nA,eB,iR,sl,qt.c,br.c]),?_⟩;simp only[oJ,pG,aY];refine so g λv8 Z h S u=>?_;refine so (h.len.trans g) λP K b F i=>?_;simp only[aZf];refine qr (b.kq u) rfl rfl λM d v=>?_;refine qr (d.kq i) rfl rfl λN f G=>?_;have j:=f.kq v;have w:=f.kq (d.kq (b.kq (h.kq q)));have n:aN (V 7) t.c=V (.a t.c):=rfl;simp only[aZe,u0,u1,j,n,ip,↓uL];refine qr w rfl rfl λO E y=>?_;simp only[u0,u1,y,n,↓uL];refine aOv (v':= .a t.c) rfl (by simp[iX,eN,O3.c,br.c,sl]) ?_;rw[<-B];exact⟨t,rfl,l,m⟩
def aTW:FT:=pn aWK
def bbs{p s Lw K}:=rQ aTW aWK p s Lw K (j:=by simp+contextual only[ij,aQZ])
def a7M:dO:=(13,aTW)::a7L
def a7v:eJ a7M:=it (aN0 aWK) (a7u)
def aRP:=ai @bbs<|@aWq
section
attribute[local irreducible] aX
def a9W:=bi 10 []
def a4A b i k n o p m q j r d s M t3 R a:=dH [(bo b),(bo i),(bo b),(bo k),(bo b),(bo n),(bo o),(lb U [p,(iv 80)] []),(lb U [m,q] []),(Qh [(.f 13 [] []),j,r]),(lb I [] [5]),(lb I [d,s] [])] [(0,10),(1,10),(2,10),(3,10),(4,10),(5,10),(6,10),(7,10),(8,10),(9,10)] (aw 7 a d λt=>ab 3 a b λu=>rV (sO (V .i64) u) λv=>aO .rem v M λw=>aV (iv 1) w λx=>fV aUp a [t,x] λh=>rV (eO 0 h) λc=>rV (eO 1 h) λN=>aJ a c λy=>bf y (iv 0) λz=>ah z (fV aSj a [(.l [] U U),(iv 0)] λA=>sV (aK 15 a t3 A) λe=>aw 15 e t3 λB=>aE R e [B]) (ab 4 a b λC=>rV (sO (V .i64) C) λD=>aJ a c λE=>aO .rem D E λF=>ao 15 a c F λG=>aw 15 a G λH=>sV (aK 15 a t3 H) λg=>aw 15 g t3 λK=>aE R g [K]))
def aVC b o R t3 a:=ab 2 a b λx=>aJ a x λy=>aO .gtr y (iv 0) λz=>ah z (ab 2 a b λq=>ab 3 a b λr=>rV (sO (V .i64) r) λs=>aO .rem s o λt=>aV (iv 1) t λu=>fV aSj a [q,u] λv=>sV (aK 15 a t3 v) λd=>aw 15 d t3 λw=>aE R d [w]) (aB 0 a b λe=>aM a e λf=>aB 1 a b λg=>aM a g λh=>aB 1 a b λi=>aM a i λj=>aJ a j λk=>rV (AO .min k (iv 80)) λl=>rV (fo 1 a h J (V l) J) λm=>fV aTW a [f,m] λn=>eV (bs 56 aPb a 5) λc p=>sV (aK 7 p c n) (a4A b e g i j k h l f m c n o t3 R))
def aVB a b c R:=eV (bs 43 aOQ c 4) (aVC a b R)
def bhu{b:List AV}{c:AV}{R:d7}(l0:L b=5)(h:H1 24 5 2 b λd e=>aVB d c e R):Ct 5 [.a b,c] R:=z1 a9W a7v Tryz.func5 l0 h
end
structure aOA where
 p:List Int
 s:List Int
 c:List Int
 z:Int
 w:Int
 deriving Inhabited
def aOA.cs(v:aOA):List AV:=[sl cu v.p,sl cu v.s,sl cu v.c, .s (.int .u8 v.z), .s (.int .u8 v.w)]
def ByL(l:List Int):Prop:=(∀x∈l,0<=x/\x<256)/\L l<4611686018427387904
structure aSr(v:aOA):Prop where
 p:ByL v.p
 s:ByL v.s
 c:ByL v.c
 z:0<=v.z/\v.z<256
 w:0<=v.w/\v.w<256
def bcQ{v v':aOA}:(v.cs=v'.cs)=(v=v'):=by(cases v;cases v');simp only[aOA.cs,List.cons.injEq,aQZ,AV.s.injEq,Value.int.injEq,aOA.mk.injEq,mn,vm]
def aYl{w:am}:aN (V 15) w.c=V (.a w.c):=rfl
def aXD(v:aOA)(n:Int)(hp:aSr v/\1<=n/\n<=16):Ct 5 [.a v.cs,iv n] (λr=>∃w:am,r= .a w.c/\Po w=U/\hU w):=by obtain⟨B,aN,ay⟩:=hp;generalize hQ:(λ(r:AV)=>∃w:am,r= .a w.c/\Po w=U/\hU w)=Qq;refine aDq (bhu rfl λs2 Z b1 h0=>?_);show aVB (.p (2,1) 0 0) (iv n) s2 λr=>Qq (B1 r);simp only[aVB];refine so Z λH s4 M N4 P=>?_;have aa:=M.len.trans Z;have d:=M.kq b1;have l0:∀{y:ae},box y (2,1)=V ⟨24,5,U,U,[v.cs]⟩->kb J y (.p (2,1) 0 0)=V (sl cu v.p):=λ{y} h=>(by rw[aC5,h];rfl);have l1:∀{y:ae},box y (2,1)=V ⟨24,5,U,U,[v.cs]⟩->kb J y (.p (2,1) 0 1)=V (sl cu v.s):=λ{y} h=>(by rw[aC5,h];rfl);have l2:∀{y:ae},box y (2,1)=V ⟨24,5,U,U,[v.cs]⟩->kb J y (.p (2,1) 0 2)=V (sl cu v.c):=λ{y} h=>(by rw[aC5,h];rfl);have G:∀{y:ae},box y (2,1)=V ⟨24,5,U,U,[v.cs]⟩->kb J y (.p (2,1) 0 3)=V (.s (.int .u8 v.z)):=λ{y} h=>(by rw[aC5,h];rfl);have l4:∀{y:ae},box y (2,1)=V ⟨24,5,U,U,[v.cs]⟩->kb J y (.p (2,1) 0 4)=V (.s (.int .u8 v.w)):=λ{y} h=>(by rw[aC5,h];rfl);have hz:=B.z;have hw:=B.w;have W:dq.wrap v.z=v.z:=eM (by omega) (by omega);have T:dq.wrap v.w=v.w:=eM (by omega) (by omega);have aL:=Int.tmod_nonneg n hz.1;have aM:=Int.tmod_lt_of_pos v.z (show 0<n by omega);have S:dq.wrap (1+v.z.tmod n)=1+v.z.tmod n:=eM (by omega) (by omega);have N:∀{Y:ae},dG Y (.l [] U U)=sl cu []:=rfl;have o:∀{y:ae} {w:am},Po w=U->hU w->box y (4,H)=V ⟨43,15,U,U,[aOQ]⟩->sV (aK 15 y (.p (4,H) 0 0) (.a w.c)) λE=>rV (kb (V 15) E (.p (4,H) 0 0)) λal=>aE (λr=>Qq (B1 r)) E [al]:=λ{y w} u A hb=>(by refine qr hb rfl rfl λz F b=>?_;simp only[u0,u1,b,aYl,ip];refine aOv (v':= .a w.c) rfl (aWb _) ?_;rw[<-hQ];exact⟨w,rfl,u,A⟩);rcases q0:Q ((0:Int)<(L v.c:Int)) with _|_;rotate_left;simp only[aVC,aNI d,l2 d,G d,a6S,av1,aY,q0,↓iC,aS6,W,aPR,aP1,cS,S,aRP,ar,↓uL];refine⟨by omega,B.c,?_⟩;rintro _ ⟨w,rfl,u,A⟩;exact⟨.inl (by simp[nA,eB,iR,sl]),o u A P⟩;simp only[aVC,aNI d,l0 d,l1 d,l2 d,G d,a6S,av1,aY,q0,↓iB,aXT,↓uL];rw[aIk (z:=1) (f:=cu) λ_=>rfl];refine⟨⟨by split<;>omega,by split<;>omega⟩,?_⟩;generalize hk:(if(80:Int)<(L v.s:Int) then(80:Int) else(L v.s:Int))=k;have ax:k<=80:=(by rw[<-hk];split<;>omega);simp only[aRP,ar];refine⟨⟨B.p.1,B.p.2,by rw[gC];omega⟩,?_⟩;rintro _ ⟨t,rfl,aO,ad⟩;refine⟨.inl (by simp[nA,eB,iR,sl]),?_⟩;refine so aa λan aP C aJ O=>?_;refine qr O rfl rfl λak D R=>?_;have i:=D.kq (C.kq d);have m:=D.kq (C.kq P);have lt:kb (V 7) ak (.p (5,an) 0 0)=V (.a t.c):=(by rw[aC5,R];rfl);simp only[a4A,↓uL];refine dT (by simp[eL,lb,Qh,cD,dC,dK,sl]) ?_;simp only[aNI i,G i,l4 i,lt,aY,aS6,W,T,aPR,aP1,cS,S,aRP,ar,Fa,↓uL];refine⟨by omega,⟨by omega,ad⟩,?_⟩;rintro _ ⟨g,e,rfl,hW⟩;refine⟨.inl (by simp[nA,eB,iR,O3.c,br.c,sl]),?_⟩;have ag:∀{y:ae},fS y (sl am.c g)=V (iv (L g)):=cT;simp only[oJ,pG,aY,ag,iM];rcases q1:Q ((L g:Int)=0) with _|_;rotate_left;simp only[iC,aRP,N];refine⟨⟨by simp,by simp⟩,?_⟩;rintro _ ⟨w,rfl,u,A⟩;exact⟨.inl (by simp[nA,eB,iR]),o u A m⟩;have h0:0<L g:=(by have:=aNG q1;omega);have ab:=Int.tmod_nonneg (L g:Int) hw.1;have ac:=Int.tmod_lt_of_pos v.w (show(0:Int)<L g by omega);have X:∀{x:ae} {j:Int} {K:d7},rV (cz 15 x (sl am.c g) (iv j)) K=(aF (L g) j/\K (.q (am.c (gd g j.toNat)))):=aBz λ_=>rfl;simp only[iB,aPR,aP1,X,aC6,aYl,aY];have h:=hW _ (dB (show(v.w.tmod (L g:Int)).toNat<L g by omega));exact⟨by omega,⟨ab,ac⟩,o h.1 h.2 m⟩
def aUs:FT:=pn aXD
def bck{v n Lw K}:=rQ aUs aXD v n Lw K (j:=by simp+contextual only[ij,bcQ])
def a7N:dO:=(5,aUs)::a7M
def aX8:eJ a7N:=it (aN0 aXD) (a7v)
def a6u:=ai @bck<|@aRP
def asD:=bi 5 []
def aYM b a R:=aw 15 a b λt3=>fV xc a [t3] λt4=>cf t4 λc=>ah c (aE R a [(.l [] U U)]) (aw 15 a b λd=>fV BQ a [d] λe=>aE R a [e])
def aJ4{b:List AV}{R:d7}(l0:L b=15)(h:H1 43 15 1 b λc d=>aYM c d R):Ct 7 [.a b] R:=z1 asD aX8 Tryz.func7 l0 h
def a95:=bi 11 [(3,([8],[0,3,7]))]
def a5B t3 b e g R(f:cG)(d:fD) a:=∀_:Rg,aU (gt a 0) t3 λh=>ah h (aw 3 b e λi=>ao 3 b g (gt a 0) λj=>aw 3 b j λk=>rV (wl .eql 2 [(0,0),(1,0),(2,0)] i k) λl=>ah l (aE R b [(gt a 0)]) (aV (gt a 0) (iv 1) λc=>f [c]/\d [c]<d a)) (aE R b [(iv (-1))])
def a5A a c b R:=aJ b a λt3=>lR [(iv 0)] (a5B t3 b c a R)
def bhF{c:AV}{b:List AV}{R:d7}(l1:L b=3)(h:H1 51 3 3 b λd e=>a5A c d e R):Ct 25 [c, .a b] R:=z1 a95 aX8 Tryz.func25 l1 h
def anE{w:am}(a:L w.ac<=16)(g:L w.init.bm.ay<=4):L (cw w)<2000/\L (jp w (L w.ac))<=320:=by have b:=AS (L w.ac) (L w.ac);have c:=AT (L w.ac);have d:=AU w.ac (L w.ac);have e:=AW w (L w.ac);have f:=Qv w (L w.ac);have m1:L w.ac*L w.ac<=16*16:=xn a a;have h:L w.ac*(1+L w.ac)<=16*17:=xn a (by omega);have i:L w.ac*(L w.init.bm.ay+L w.ac)<=16*20:=xn a (by omega);simp only[cw,P8];omega
def aQy(l:List ap)(n:ap):Int:=match l.findIdx? (λx=>Q (x=n)) with|some i=>i|none=> -1
def a6Z{l:List ap}{n:ap}{k:Nat}(a:k<L l)(h:∀j,j<k->gd l j≠n)(b:gd l k=n):aQy l n=k:=by have:l.findIdx? (λx=>Q (x=n))=V k:=(by rw[List.findIdx?_eq_some_iff_getElem];refine⟨a,by rw[<-bT a,b];simp,λj c=>?_⟩;have:=h j c;rw[bT (by omega)] at this;simpa using this);rw[aQy,this]
def a60{l:List ap}{n:ap}(h:∀j,j<L l->gd l j≠n):aQy l n= -1:=by have:l.findIdx? (λx=>Q (x=n))=J:=(by rw[List.findIdx?_eq_none_iff];intro x a;have:=(px (p:=λx=>x≠n)).1 h x a;simpa using this);rw[aQy,this]
def a6i{x y:ap}:wl .eql 2 [(0,0),(1,0),(2,0)] (.a x.c) (.a y.c)=V (bv (Q (x=y))):=by obtain⟨a,b,c⟩:=x;obtain⟨d,e,f⟩:=y;have h:∀p q:Int,sS 0 (.int .i64 p) (.int .i64 q)=V (Q (p=q)):=λp q=>rfl;simp[wl,ap.c,nW,h];by_cases g:a=d<;>by_cases i:b=e<;>by_cases j:c=f<;>simp[g,i,j]
def NP(w:am)(k:Po w=U/\hU w):Ct 7 [.a w.c] (λr=>∃t,r= .l ((cw w).map ap.c) t U):=by refine aJ4 rfl λu q h p=>?_;obtain⟨b,d⟩:=k;have f:aN (V 15) w.c=V (.a w.c):=rfl;obtain⟨i,s⟩:=aQA b;obtain⟨g,o,m,n,e⟩:=tC i;have j:kB w/\L w.init.bm.ay<=4/\fN w.aQ w.init=U/\Po w=U/\hU w:=⟨Rr d b,g.sy.th,e,b,d⟩;simp+contextual only[aYM,u0,u1,h,f,ar,a6u,b,d,j,y6,Bool.false_eq_true,Ca,O9,↓uL];intro t;exact⟨.inl rfl,rfl,t,rfl⟩
def aSc:FT:=om NP
def ax3{w Lw K}:=qz aSc NP w Lw K
def aXH(l:List ap)(n:ap)(i:L l<4611686018427387904):Ct 25 [sl ap.c l, .a n.c] (·=iv (aQy l n)):=by refine bhF rfl λr q f o=>?_;have m:∀{x:ap},aN (V 3) x.c=V (.a x.c):=λ{x}=>rfl;simp only[a5A,cT,aY,↓uL];refine C7 (L l) (λk=>∀j,j<k->gd l j≠n) (by simp) λk p d=>?_;simp+contextual only[a5B,u0,u1,aCm,aC6,f,m,bh,a6i,↓uL];refine⟨λh=>⟨bA h,λb=>?_,λb=>gS (aL h) i (jf d (by simp at b;exactλe=>b e.symm))⟩,λh=>?_⟩;rw[a6Z (aL h) d (by simp at b;exact b.symm)];rw[a60 λj g=>d j (C3 g (bw h))]
def aUu:FT:=gz aXH
def bco{l n Lw K}:=gX aUu aXH l n Lw K
def a7O:dO:=(7,aSc)::(25,aUu)::a7N
def aX9:eJ a7O:=it (rj NP) (it (aCb aXH) (aX8))
def aWr:=ai @ax3<|ai @bco<|@a6u
def a8F:=bi 2 []
def aYL c b a R:=aw 15 a c λd=>fV aSc a [d] λe=>aw 3 a b λf=>fV aUu a [e,f] λg=>aE R a [g]
def bgb{b:List AV}{c:List AV}{R:d7}(l0:L b=15)(l1:L c=3)(h:H2 43 15 2 b 51 3 3 c λd e f=>aYL d e f R):Ct 10 [.a b, .a c] R:=z2 a8F aX9 Tryz.func10 l0 l1 h
def a9V:=bi 11 [(3,([10],[3,8,9]))]
def a4z d f R b(j:aG)(e:bu) k a:=aw 3 a d λg=>aw 3 a f λh=>rV (wl .eql 2 [(0,0),(1,0),(2,0)] g h) λi=>ah i (aE R a [(gt b 0)]) (aV (gt b 0) (iv 1) λc=>j [c] a/\e [c] a<e b k)
def aVA l k d R i j b a:=∀_:Rg,aU (gt b 0) l λf=>ah f (ao 3 a k (gt b 0) λg=>aw 3 a g λh=>eV (bs 51 aBH a 6) λc e=>sV (aK 3 e c h) (a4z c d R b i j a)) (aE R a [(iv (-1))])
def a4y d b a R:=aw 15 a d λe=>fV Cp a [e] λc=>aJ a c λf=>lV [(iv 0)] a (aVA f c b R)
def bht{b:List AV}{c:List AV}{R:d7}(l0:L b=15)(l1:L c=3)(h:H2 43 15 2 b 51 3 3 c λd e f=>a4y d e f R):Ct 11 [.a b, .a c] R:=z2 a9V aX9 Tryz.func11 l0 l1 h
def aN6{α:Type}(f:α->α->Bool):List α->List α->Bool|[],[]=>U|a::l,b::m=>f a b&&aN6 f l m|_,_=>I
def aOC{α:Type}{f:α->α->Bool}(c:∀a b,f a b=U->a=b):∀{l m:List α},aN6 f l m=U->l=m
 |[],[],_=>rfl
 |a::l,b::m,h=>by
  simp only[aN6,bN] at h
  rw[c a b h.1,aOC c h.2]
 |[],_::_,h=>by cases h
 |_::_,[],h=>by cases h
def xqV:Nat->Value->Value->Bool
 |0,_,_=>I
 |n+1,x,y=>
  match x,y with
  | .int k a, .int c b=>Q (k=c)&&Q (a=b)
  | .bool a, .bool b=>a==b
  | .string a, .string b=>Q (a.data.toList=b.data.toList)
  | .agg a, .agg b=>aN6 (xqV n) a.toList b.toList
  | .pointer none, .pointer none=>U
  | .nilFunc, .nilFunc=>U
  | .nilIface, .nilIface=>U
  | .map none, .map none=>U
  |_,_=>I
def bhK:∀{n:Nat} {a b:Value},xqV n a b=U->a=b:=by intro n;induction n with|zero=>intro a b h;cases h|succ n c=>intro a b h;simp only[xqV] at h;(split at h<;>first|rfl|(cases h;done)|skip);simp only[bN,lS] at h;rw[h.1,h.2];rw[beq_iff_eq] at h;rw[h];rename_i a b;have h:=nt h;obtain⟨⟨a⟩⟩:=a;obtain⟨⟨b⟩⟩:=b;exact aC2 (λl=>Value.string ⟨⟨l⟩⟩) h;rename_i a b;have h:=aOC (λa b=>c) h;obtain⟨a⟩:=a;obtain⟨b⟩:=b;exact aC2 (λl=>Value.agg ⟨l⟩) h
def xqA:Nat->AV->AV->Bool
 |0,_,_=>I
 |n+1,x,y=>
  match x,y with
  | .s v, .s w=>xqV 4 v w
  | .u, .u=>U
  | .l r t o, .l D E o'=>(t==E&&o==o')&&aN6 (aN6 (xqA n)) r D
  | .a c, .a e=>aN6 (xqA n) c e
  | .t c, .t e=>aN6 (xqA n) c e
  | .q c, .q e=>aN6 (xqA n) c e
  | .p b i j, .p h z A=>Q (b=h/\i=z/\j=A)
  | .m b i, .m h z=>Q (b=h/\i=z)
  | .g k b i j, .g B h z A=>Q (k=B/\b=h/\i=z/\j=A)
  | .f k c d, .f B e C=>Q (k=B)&&(aN6 (xqA n) c e&&aN6 (xqA n) d C)
  |_,_=>I
def aYn:∀{n:Nat} {a b:AV},xqA n a b=U->a=b:=by intro n;induction n with|zero=>intro a b h;cases h|succ n c=>intro a b h;simp only[xqA] at h;split at h;rw[bhK h];rfl;simp only[bN,beq_iff_eq] at h;rw[h.1.1,h.1.2,aOC (λa b=>aOC (λa b=>c)) h.2];rw[aOC (λa b=>c) h];rw[aOC (λa b=>c) h];rw[aOC (λa b=>c) h];obtain⟨d,e,f⟩:=nt h;rw[d,e,f];obtain⟨d,e⟩:=nt h;rw[d,e];obtain⟨d,e,f,g⟩:=nt h;rw[d,e,f,g];simp only[bN] at h;rw[nt h.1,aOC (λa b=>c) h.2.1,aOC (λa b=>c) h.2.2];cases h
def eqB(x y:bY):Bool:=Q (x.elem=y.elem/\x.size=y.size/\x.own=y.own/\x.var=y.var)&&aN6 (aN6 (xqA 9)) x.aa y.aa
def bbh{x y:bY}(h:eqB x y=U):x=y:=by unfold eqB at h;rw[bN] at h;obtain⟨c,d,e,f⟩:=nt h.1;have g:=aOC (λa b=>aOC (λa b=>aYn)) h.2;(cases x;cases y);simp only at c d e f g;subst c d e f g;rfl
def kpS(a b:vG):Bool:=Nat.ble a.lB b.lB&&(aH (a.lB+1)).all λv=>match a.val v with|none=>U|some x=>match b.val v with|some y=>eqB x y|none=>I
def kpB:ae->ae->Bool:=eqLs' kpS
where eqLs' (f:vG->vG->Bool):ae->ae->Bool
 |[],[]=>U
 |a::l,b::m=>f a b&&eqLs' f l m
 |_,_=>I
def a6R:∀{Y Y':ae},kpB Y Y'=U->L Y'=L Y/\∀k,kpS (aZ Y k) (aZ Y' k)=U
 |[],[],_=>⟨rfl,λk=>by simp only[aZ,List.getD_nil];rfl⟩
 |a::l,b::m,h=>by
  have h:(kpS a b&&kpB.eqLs' kpS l m)=U:=h
  rw[bN] at h
  have c:=a6R (Y:=l) (Y':=m) h.2
  refine⟨by simp[c.1],λk=>?_⟩
  cases k with
  |zero=>exact h.1
  |succ k=>exact c.2 k
 |[],_::_,h=>by cases h
 |_::_,[],h=>by cases h
def bdG{Y Y':ae}(h:kpB Y Y'=U):Kp Y Y':=by obtain⟨e,d⟩:=a6R h;refine⟨e,λk=>?_,λb x c=>?_⟩;have:=d k;unfold kpS at this;rw[bN] at this;exact Nat.le_of_ble_eq_true this.1;have h:=d b.1;unfold kpS at h;rw[bN,dV] at h;unfold box at c⊢;split at c;rename_i f;rw[bX (gl f (Nat.le_of_ble_eq_true h.1))];have a:=h.2 b.2 (List.mem_range.2 (by omega));rw[c] at a;simp only at a;split at a;rename_i y g;rw[g,bbh a];(cases a);cases c
section
variable(P:Program)(G:nn)
abbrev aPc:=FuncId->List AV->ae->Nat->Option (AV×ae)
abbrev aQb:=Code->List AV->ae->Option (Exit×List AV×ae)
def aWf(a:aPc)(b:List AV)(Y:ae)(o:Oper):Option (AV×ae):=
 match dz P (du G b) Y o.op with
 |some d=>V (d,Y)
 |none=>
  match eA P (du G b) Y (o.dst.getD 0) o.op with
  |some p=>V p
  |none=>
   match o.op with
   | .call c=>
    match c.callee with
    | .value f=>
     match du G b f with
     | .f fn first cap=>a fn (first++c.args.toList.map (du G b)++cap) Y (o.dst.getD 0)
     |_=>J
    |_=>J
   |_=>J
def aS9(b:aPc)(ops:Array Oper)(a:List AV)(Y:ae)(o:Oper):Option (List AV×ae):=
 match rh ops a o with
 |some true=>match aWf P G b a Y o with|some p=>V (ge a o.dst p.1,p.2)|none=>J
 |some false=>V (ge a o.dst (.t []),Y)
 |none=>J
def aRK(a:aPc)(ops:Array Oper):List Oper->List AV->ae->Option (List AV×ae)
 |[],b,Y=>V (b,Y)
 |o::l,b,Y=>match aS9 P G a ops b Y o with|some p=>aRK a ops l p.1 p.2|none=>J
def aS8(b:aPc)(ops:Array Oper):List Oper->List fY->List AV->ae->Option (List fY×List AV×ae)
 |[],a,c,Y=>V (a,c,Y)
 |o::l,a,c,Y=>match aS9 P G b ops c Y o with|some p=>aS8 b ops l (a++[C4 P G ops c Y o]) p.1 p.2|none=>J
def aQ0:Exit->Bool| .normal| .ret=>U|_=>I
def a6k(Y:ae)(d:Nat)(c:ae)(r:AV):Option (AV×ae):=
 match r with
 | .l [] true true=>V (.l [] U U,Y)
 | .m b n=>match box c b with|some x=>if qA x=U then V (.m (lA Y d) n,put Y d x) else J|none=>J
 | .a cs=>if(wn cs).Nodup then(match gU c d Y cs with|some p=>V (.a p.1,p.2)|none=>J) else J
 |_=>J
abbrev aSo:=List (FuncId×List AV×AV)
structure aPP where
 l:aSo
 cl:List (FuncId×TypeId×Nat)
def aTq(fn:FuncId)(ys:List AV):aSo->Option AV|[]=>J|p::T=>bif pp fn p.1&&aN6 (xqA 9) ys p.2.1 then V p.2.2 else aTq fn ys T
def aRG(fn:FuncId):List (FuncId×TypeId×Nat)->Option (TypeId×Nat)|[]=>J|p::T=>bif pp fn p.1 then V p.2 else aRG fn T
def aWe(Y:ae)(d:Nat)(p:TypeId×Nat)(ys:List AV):Option (AV×ae):=
 match ys with
 |[.l [] false false]=>V (.l [] U U,Y)
 |[.l (r::aa) false false]=>
  if((r::aa).all λr=>pp (L r) p.2&&r.all gY)=U/\L (r::aa)<1000000 then V (.m (lA Y d) (L (r::aa)),put Y d ⟨p.1,p.2,U,I,r::aa⟩) else J
 |_=>J
def aRJ(T:aPP)(E:aQb):aPc:=λfn xs Y d=>
 match P.funcs[fn]? with
 |none=>J
 |some f=>
  match f.body with
  |none=>J
  |some c=>
   if(f.name== "runtime.NumGoroutine")=U then J
   else if G.nw fn=U then
    if(xs.map (dG Y)).all iX=U/\y7 Y d=U then
     match aRG fn T.cl with
     |some p=>aWe Y d p (xs.map (dG Y))
     |none=>
     match E c (start f (xs.map (dG Y))) eK with
     |some (e,b,a)=>if aQ0 e=U then(match wG P f b a with|some r=>a6k Y d a r|none=>J) else J
     |none=>J
    else J
   else if G.imp fn=U then
    match E c (start f xs) Y with
    |some (e,b,a)=>
     if aQ0 e=U then
      match wG P f b a with
      |some r=>
       if L a=L Y then
        if G.rd fn=U then(if kpB Y (kills a (eB r))=U/\kG (eR a r)=U then V (eR a r,Y) else J)
        else V (r,a)
       else J
      |none=>J
     else J
    |none=>J
   else if(xs.map (dG Y)).all iX=U/\L (xs.map (dG Y))<=f.ntmps then
    match aTq fn (xs.map (dG Y)) T.l with
    |some r=>if kG r=U/\(nA Y xs=I\/uN r=U) then V (r,Y) else J
    |none=>
    match E c (start f (xs.map (dG Y))) (ly f) with
    |some (e,b,a)=>
     if aQ0 e=U then
      match yB P f b a with
      |some r=>if kG r=U/\(nA Y xs=I\/uN r=U) then V (r,Y) else J
      |none=>J
     else J
    |none=>J
   else J
def aRL(T:aPP)(E:aQb):aQb:=λc a Y=>
 match c with
 | .skip=>V (.normal,a,Y)
 | .label _=>V (.normal,a,Y)
 | .region _ ops false=>match aRK P G (aRJ P G T E) ops ops.toList a Y with|some p=>V (.normal,p.1,p.2)|none=>J
 | .region _ ops true=>
  if rG G ops.toList=U then match aRK P G (aRJ P G T E) ops ops.toList a Y with|some p=>V (.normal,p.1,p.2)|none=>J
  else match aS8 P G (aRJ P G T E) ops ops.toList [] a Y with|some p=>if xG ops p.1=U then V (.normal,p.2.1,p.2.2) else J|none=>J
 | .seq x y=>match E x a Y with|some (.normal,τ',Y')=>E y τ' Y'|r=>r
 | .cond c x y=>match du G a c with| .s (.bool t)=>if t=U then E x a Y else E y a Y|_=>J
 | .block b c=>match E c a Y with|some (.exit j,τ',Y')=>if j=b then V (.normal,τ',Y') else V (.exit j,τ',Y')|r=>r
 | .loop c=>match E c a Y with|some (.normal,τ',Y')=>E (.loop c) τ' Y'|r=>r
 | .exit b=>V (.exit b,a,Y)
 | .ret=>V (.ret,a,Y)
 |_=>J
def ev(T:aPP):Nat->aQb|0=>λ_ _ _=>J|n+1=>aRL P G T (ev T n)
end
section
variable{P:Program}{G:nn}
def Xcl(P:Program)(G:nn)(fn:FuncId)(xs:List AV)(Y:ae)(d:Nat)(K:be):Prop:=
 if G.nw fn=U then tS P G fn xs Y d K else if G.imp fn=U then tR P G fn xs Y d K else Kh P G fn xs Y λr=>K r Y
def aRe(P:Program)(G:nn)(a:aPc):Prop:=∀fn xs Y d r Y',a fn xs Y d=V (r,Y')->∀K:be,K r Y'->Xcl P G fn xs Y d K
def aUx(P:Program)(G:nn)(E:aQb):Prop:=∀c a Y e τ' Y',E c a Y=V (e,τ',Y')->∀Q:QX,Q e τ' Y'->iq P G c Q a Y
def bbm{a:aPc}(j:aRe P G a){g:List AV}{Y Y':ae}{o:Oper}{r:AV}(h:aWf P G a g Y o=V (r,Y')){K:be}(b:K r Y'):j0 P G g Y o K:=by unfold aWf at h;unfold j0;split at h;rename_i m e;cases h;rw[e];exact b;rename_i e;rw[e];simp only;split at h;rename_i p d;cases h;rw[d];exact b;rename_i d;rw[d];simp only;split at h;rename_i c l;rw[l];simp only;split at h;rename_i f k;rw[k];simp only;split at h;rename_i fn first cap i;rw[i];exact j _ _ _ _ _ _ h K b;(cases h);(cases h);cases h
def a6l{a:aPc}(e:aRe P G a){ops:Array Oper}{d τ':List AV}{Y Y':ae}{o:Oper}(h:aS9 P G a ops d Y o=V (τ',Y')){K:aG}(c:K τ' Y'):kS P G ops o K d Y:=by unfold aS9 at h;unfold kS;split at h;rename_i b;rw[b];simp only;split at h;rename_i p f;cases h;exact bbm e f c;(cases h);rename_i b;rw[b];cases h;exact c;cases h
def a6m{a:aPc}(d:aRe P G a){ops:Array Oper}{K:aG}:∀{l:List Oper} {b τ':List AV} {Y Y':ae},aRK P G a ops l b Y=V (τ',Y')->K τ' Y'->rE P G ops l K b Y:=by intro l;induction l with|nil=>intro b τ' Y Y' h c;cases h;exact c|cons o l f=>intro b τ' Y Y' h c;simp only[aRK] at h;split at h;rename_i p e;exact a6l d (τ':=p.1) (Y':=p.2) e (f h c);cases h
def bbk{b:aPc}(e:aRe P G b){ops:Array Oper}{K:List fY->aG}:∀{l:List Oper} {a ls:List fY} {c τ':List AV} {Y Y':ae},aS8 P G b ops l a c Y=V (ls,τ',Y')->K ls τ' Y'->qq P G ops l a K c Y:=by intro l;induction l with|nil=>intro a ls c τ' Y Y' h d;cases h;exact d|cons o l g=>intro a ls c τ' Y Y' h d;simp only[aS8] at h;split at h;rename_i p f;exact a6l e (τ':=p.1) (Y':=p.2) f (g h d);cases h
def aWD{e:Exit}(h:aQ0 e=U):e= .normal\/e= .ret:=by cases e<;>first|exact .inl rfl|exact .inr rfl|cases h
def a6j(p:tQ P){E:aQb}(j:aUx P G E){fn:FuncId}{f:Func}{c:Code}(n:P.funcs[fn]?=V f)(l:f.body=V c)(o:¬(f.name== "runtime.NumGoroutine")=U){xs g:List AV}{Y d:ae}{e:Exit}{r:AV}(h:E c (start f xs) Y=V (e,g,d))(m:aQ0 e=U)(i:wG P f g d=V r):cZ P G fn xs Y r d:=by obtain⟨q,Y',⟨rfl,rfl⟩,k⟩:=aBf (R:=λa b=>a=r/\b=d) p n l (by simpa using o) (j _ _ _ _ _ _ h (QB P f λa b=>a=r/\b=d) (by rcases aWD m with rfl|rfl<;>exact⟨r,i,rfl,rfl⟩));exact k
def aYw(P:Program)(G:nn)(T:aSo):Prop:=∀p∈T,zm P G p.1 p.2.1 (·=p.2.2)
def a78(P:Program)(G:nn)(T:List (FuncId×TypeId×Nat)):Prop:=∀p∈T,∀aa:List (List AV),(∀r∈aa,L r=p.2.2)->L aa<1000000->∃r a,cZ P G p.1 [.l aa I I] eK r a/\(aa=[]->r= .l [] U U)/\(aa≠[]->∃b,r= .m b (L aa)/\box a b=V ⟨p.2.1,p.2.2,U,I,aa⟩)
structure aSn(P:Program)(G:nn)(T:aPP):Prop where
 fp:∀fn,G.fp fn=J
 l:aYw P G T.l
 cl:a78 P G T.cl
def a6Q{fn:FuncId}{ys:List AV}{r:AV}:∀{T:aSo},aYw P G T->aTq fn ys T=V r->zm P G fn ys (·=r)
 |[],_,h=>by cases h
 |p::T,d,h=>by
  simp only[aTq] at h
  cases c:(pp fn p.1&&aN6 (xqA 9) ys p.2.1) with
  |true=>
   rw[c] at h
   rw[bN] at c
   have e:=Nat.eq_of_beq_eq_true c.1
   have f:=aOC (λa b=>aYn) c.2
   obtain rfl:=xu h
   subst e f
   exact d p (by simp)
  |false=>
   rw[c] at h
   exact a6Q (λq g=>d q (by simp[g])) h
def a6a{fn:FuncId}{p:TypeId×Nat}:∀{T:List (FuncId×TypeId×Nat)},aRG fn T=V p->(fn,p)∈T
 |[],h=>by cases h
 |q::T,h=>by
  simp only[aRG] at h
  cases a:pp fn q.1 with
  |true=>
   rw[a] at h
   have b:=Nat.eq_of_beq_eq_true a
   obtain rfl:=xu h
   rw[b];simp
  |false=>rw[a] at h;exact List.mem_cons_of_mem _ (a6a h)
def bbj{T:aPP}(m:aSn P G T){fn:FuncId}{p:TypeId×Nat}{xs:List AV}{Y Y':ae}{d:Nat}{r:AV}(q:aRG fn T.cl=V p)(j:(xs.map (dG Y)).all iX=U/\y7 Y d=U)(h:aWe Y d p (xs.map (dG Y))=V (r,Y')){K:be}(i:K r Y'):zI P G fn xs Y d K:=by have g:=m.cl _ (a6a q);refine⟨j.1,j.2,?_⟩;generalize xs.map (dG Y)=ys at*;unfold aWe at h;split at h;(cases h);obtain⟨r,c,e,k,_⟩:=g [] (by simp) (by decide);exact⟨r,c,e, .inl ⟨k rfl,i⟩⟩;rename_i s aa;split at h;rename_i a;cases h;obtain⟨a,o⟩:=a;rw[dV] at a;obtain⟨r,c,e,_,l⟩:=g (s::aa) (λr f=>Nat.eq_of_beq_eq_true (bN _ _▸a r f).1) o;obtain⟨b,rfl,n⟩:=l (by simp);refine⟨_,c,e, .inr ⟨b,_,_,rfl,n,?_,i⟩⟩;simp only[qA,kN,Bool.true_and,dV];intro r f;have:=a r f;rw[bN,dV] at this;exact this.2;(cases h);cases h
def bbi(C:tQ P){T:aPP}(t:aSn P G T){E:aQb}(v:aUx P G E):aRe P G (aRJ P G T E):=by intro fn xs Y d r Y' h K j;unfold aRJ at h;unfold Xcl;split at h;(cases h);rename_i f y;split at h;(cases h);rename_i c w;split at h;(cases h);rename_i A;split at h;rename_i D;rw[bX D];split at h;rename_i a;split at h;rename_i p B;exact .inl (bbj t B a h j);split at h;rename_i e O s q;split at h;rename_i m;split at h;rename_i u g;have k:=a6j C v y w A q m g;unfold a6k at h;split at h;(cases h);exact .inl ⟨a.1,a.2,_,_,k, .inl ⟨rfl,j⟩⟩;rename_i b n;split at h;rename_i x N;split at h;rename_i F;cases h;exact .inl ⟨a.1,a.2,_,_,k, .inr ⟨b,n,x,rfl,N,F,j⟩⟩;(cases h);(cases h);rename_i cs;split at h;rename_i M;split at h;rename_i p B;cases h;exact .inr (.inr ⟨a.1,a.2,cs,s,p.1,p.2,k,M,B,j⟩);(cases h);(cases h);(cases h);(cases h);(cases h);(cases h);(cases h);rename_i D;rw[cj D];split at h;rename_i z;rw[bX z];split at h;rename_i e O s q;split at h;rename_i m;split at h;rename_i u g;have k:=a6j C v y w A q m g;split at h;rename_i H;split at h;rename_i o;split at h;rename_i i;cases h;unfold tR aPf;rw[t.fp fn];exact⟨u,s,k,H,by rw[bX o];exact⟨bdG i.1,i.2,j⟩⟩;(cases h);rename_i o;cases h;unfold tR aPf;rw[t.fp fn];exact⟨_,_,k,H,by rw[cj o];exact j⟩;(cases h);(cases h);(cases h);(cases h);rename_i z;rw[cj z];split at h;rename_i a;split at h;rename_i u g;split at h;rename_i i;cases h;exact⟨_,a6Q t.l g,a.1,i.1,i.2,j⟩;(cases h);split at h;rename_i e O s q;split at h;rename_i m;split at h;rename_i u g;split at h;rename_i i;cases h;refine⟨_,aBh C y w (by simpa using A) a.2 (v _ _ _ _ _ _ q (QR P f (·=_)) ?_),a.1,i.1,i.2,j⟩;rcases aWD m with rfl|rfl<;>exact⟨_,g,i.1,rfl⟩;(cases h);(cases h);(cases h);(cases h);cases h
def bdK{p:Nat->Prop}:∀{n:Nat},p n->∃m,p m/\∀k,p k->m<=k:=by intro n;induction n using Nat.strongRecOn with|_ n e=>intro h;by_cases b:∃k,k<n/\p k;obtain⟨k,a,d⟩:=b;exact e k a d;exact⟨n,h,λk a=>Nat.le_of_not_lt λc=>b ⟨k,c,a⟩⟩
def bbl(R:tQ P){T:aPP}(M:aSn P G T):∀n,aUx P G (ev P G T n):=by intro n;induction n using Nat.strongRecOn with|_ n F=>cases n with|zero=>intro c b Y e τ' Y' h;cases h|succ n=>have i:=F n (Nat.lt_succ_self n);have A:=bbi (G:=G) R M i;intro c b Y e τ' Y' h Q f;have H:=h;change aRL P G T (ev P G T n) c b Y=_ at h;unfold aRL at h;split at h;(cases h;exact f);(cases h;exact f);split at h;rename_i p r;cases h;exact a6m A r f;(cases h);show sF P G _ _ _ _;unfold sF;split at h;rename_i B;rw[bX B];split at h;rename_i p r;cases h;exact a6m A r f;(cases h);rename_i B;rw[cj B];split at h;rename_i p r;split at h;rename_i N;cases h;exact bbk A r ⟨N,f⟩;(cases h);(cases h);rename_i x y;show iq P G x _ _ _;split at h;rename_i o q d;exact i _ _ _ _ _ _ d _ (i _ _ _ _ _ _ h _ f);rename_i l;refine i _ _ _ _ _ _ h _ ?_;(cases e<;>first|exact f|exact nl h (l _ _));rename_i cc x y;show(match du G b cc with| .s (.bool t)=>if t=U then iq P G x Q b Y else iq P G y Q b Y|_=>False);split at h;rename_i t X;split at h;rename_i d;rw[bX d];exact i _ _ _ _ _ _ h _ f;rename_i d;rw[cj d];exact i _ _ _ _ _ _ h _ f;(cases h);rename_i S c;show iq P G c _ _ _;split at h;rename_i j o q d;refine i _ _ _ _ _ _ d _ ?_;show(if j=S then Q .normal _ _ else Q (.exit j) _ _);split at h;rename_i C;cases h;rw[bX C];exact f;rename_i C;cases h;rw[cj C];exact f;rename_i l;refine i _ _ _ _ _ _ h _ ?_;(cases e<;>first|exact f|exact nl h (l _ _ _));rename_i c;clear h;let z:List AV->ae->Nat->Prop:=λb Y m=>ev P G T m (.loop c) b Y=V (e,τ',Y');let a:aG:=λb Y=>∃m,m<=n+1/\z b Y m;have g:∀b Y,∃m,a b Y->z b Y m/\(∀k,z b Y k->m<=k):=(by intro b Y;by_cases hI:a b Y;obtain⟨m,_,D⟩:=hI;obtain⟨k,d,u⟩:=bdK D;exact⟨k,λ_=>⟨d,u⟩⟩;exact⟨0,λh=>nl h hI⟩);refine⟨a,λb Y=>Classical.choose (g b Y),⟨n+1,Nat.le_refl _,H⟩,?_⟩;intro b Y hI;obtain⟨d,u⟩:=Classical.choose_spec (g b Y) hI;generalize D:Classical.choose (g b Y)=m at d u;have W:m<=n+1:=(by obtain⟨k,O,E⟩:=hI;exact gl (u k E) O);(cases m with|zero=>(cases d)|succ k=>have v:=F k (by omega);change aRL P G T (ev P G T k) (.loop c) b Y=_ at d;unfold aRL at d;simp only at d;split at d;rename_i o q K;refine v _ _ _ _ _ _ K _ ?_;have w:a o q:=⟨k,by omega,d⟩;refine⟨w,?_⟩;have:=(Classical.choose_spec (g o q) w).2 k d;show Classical.choose (g o q)<Classical.choose (g b Y);rw[D];omega;rename_i l;refine v _ _ _ _ _ _ d _ ?_;cases e<;>first|exact f|exact nl d (l _ _));(cases h;exact f);(cases h;exact f);cases h
end
def aYk{w:am}(d:Po w=U)(f:hU w):(kB w/\L w.init.bm.ay<=4/\fN w.aQ w.init=U)/\L (cw w)<2000:=by obtain⟨e,i⟩:=aQA d;obtain⟨a,b,g,h,c⟩:=tC e;exact⟨⟨Rr f d,a.sy.th,c⟩,(anE b a.sy.th).1⟩
def aWG(w:am)(n:ap)(h:Po w=U/\hU w):Ct 10 [.a w.c, .a n.c] (·=iv (aQy (cw w) n)):=by obtain⟨d,b⟩:=h;obtain⟨l,j⟩:=aYk d b;refine bgb rfl rfl λo m f g k=>?_;have e:aN (V 15) w.c=V (.a w.c):=rfl;have i:aN (V 3) n.c=V (.a n.c):=rfl;simp only[aYL,u0,u1,f,g,e,i,ip,ar,aWr,d,b,y6,↓uL];intro t;exact⟨.inl rfl,by omega,trivial⟩
def aYs:FT:=gz aWG
def bbo{w n Lw K}:=gX aYs aWG w n Lw K
def aXB(w:am)(n:ap)(S:Po w=U/\hU w):Ct 11 [.a w.c, .a n.c] (·=iv (aQy (cw w) n)):=by obtain⟨T,P⟩:=S;obtain⟨O,X⟩:=aYk T P;refine bht rfl rfl λh R D E Z=>?_;have A:aN (V 15) w.c=V (.a w.c):=rfl;have B:∀{n:ap},aN (V 3) n.c=V (.a n.c):=rfl;simp only[a4y,u0,u1,D,A,ip,ar,aWr,O,y6,↓uL];intro t;refine⟨.inl rfl,?_⟩;have p:box h (3,1)=V ⟨51,3,U,U,[n.c]⟩:=E;refine yV (L (cw w)) (λk _ y=>Fx h y []/\∀j,j<k->gd (cw w) j≠n) ⟨Fx.refl _ _,λj g=>nl g (Nat.not_lt_zero _)⟩ ?_;rintro k _ y hk ⟨F,e⟩;have M:=F.kq p;have s:=F.len.trans R;have r:∀{x:ae} {j:Int} {K:d7},rV (cz 3 x (.l ((cw w).map ap.c) t U) (iv j)) K=(aF (L (cw w)) j/\K (.q (ap.c (gd (cw w) j.toNat)))):=aBz (f:=ap.c) (Y:=y) λ_=>rfl;rcases d:Q ((k:Int)<(L (cw w):Int)) with _|_;simp only[aVA,aI,au,av4,aY,d,↓iB,↓uL];rw[a60 λj g=>e j (C3 g (bw d))];exact⟨rfl,rfl⟩;have b:k<L (cw w):=RF.1 (nt d);simp only[aVA,aI,au,av4,aY,d,↓iC,r,aC6,B,bh,↓uL];refine⟨dJ b,?_⟩;refine so s λv y1 m C G=>?_;refine qr G rfl rfl λW o H=>?_;have i:Fx h W []:=((F.trans m).trans o).mono λq u=>(by simp at u;subst u;exact .inr (C.old F).no);have N:=o.kq (m.kq M);simp only[a4z,au,u1,H,N,B,aY,ip,a6i,↓uL];rcases z:Q (gd (cw w) k=n) with _|_;simp only[iB];exact yU b ⟨i,jf e (by simpa using z)⟩;simp only[iC];rw[a6Z b e (by simpa using z)]
def aYt:FT:=gz aXB
def bcj{w n Lw K}:=gX aYt aXB w n Lw K
def yL(k:Nat):List Int:=(aH 4).map λi=>if i<k then 1 else 0
def uY(k:Nat):List bF:=(aH 4).map λi=>⟨if i<k then 2 else if i=0 then 1 else 0,0,I⟩
def ku:am:=⟨dE,4,⟨⟨er 3 ⟨-1,[]⟩,-1,[I],uY 4⟩,[0,1,0,0,0],[0],yL 4⟩,[⟨0,4,0,1,0,[],[]⟩,⟨1,4,0,2,6,[],[]⟩]⟩
def aoM:Po ku=U:=by kernel_rfl
def aoL:hU ku:=by refine⟨by decide,?_,?_,by decide⟩;intro l b;have:l=⟨-1,[]⟩:=List.eq_of_mem_replicate b;subst this;decide;intro e a;have:e=⟨0,4,0,1,0,[],[]⟩\/e=⟨1,4,0,2,6,[],[]⟩:=(by simpa[ku] using a);rcases this with rfl|rfl<;>exact⟨by decide,by decide⟩
def a6e{fn:Nat}{ys:List AV}{r:AV}(h:Ct fn ys (·=r)):zm aS GG fn ys (·=r):=by obtain⟨a,rfl,_,h⟩:=h;exact h
def aS5{fn:Nat}{e:TypeId}{z:Nat}(h:∀aa:List (List AV),(∀r∈aa,L r=z)->L aa<1000000->∃r a,bc a e z r aa/\cZ aS GG fn [.l aa I I] eK r a/\(aa=[]->r= .l [] U U))(aa:List (List AV))(f:∀r∈aa,L r=z)(i:L aa<1000000):∃r a,cZ aS GG fn [.l aa I I] eK r a/\(aa=[]->r= .l [] U U)/\(aa≠[]->∃b,r= .m b (L aa)/\box a b=V ⟨e,z,U,I,aa⟩):=by obtain⟨r,a,g,j,d⟩:=h aa f i;refine⟨r,a,j,d,λc=>?_⟩;rcases g with⟨e,_⟩|g;exact nl e c;exact g
def knT:aPP:=⟨[(15,[.a ku.c],bv U),(23,[.a ku.c],bv U)],[(98,3,1),(218,4,1),(219,105,3),(136,2,1)]⟩
def bdF:aSn aS GG knT:=by refine⟨λ_=>rfl,λp c=>?_,λp c=>?_⟩;simp only[knT,eW,ql,C8] at c;rcases c with rfl|rfl;exact a6e (PW ku ⟨aoM,aoL⟩);have h:=O8 ku aoL;rw[aoM] at h;exact a6e h;simp only[knT,eW,ql,C8] at c;rcases c with rfl|rfl|rfl|rfl;exact aS5 λaa a b=>aCM a b;exact aS5 λaa a b=>aCL a b;exact aS5 λaa a b=>aCK a b;exact aS5 λaa a b=>aCN a b
noncomputable def aX0(f:Func)(x:AV):Bool:=match f.body with
 |some c=>match ev aS GG knT 3000 c (start f []) (ly f) with
  |some p=>aQ0 p.1&&(match yB aS f p.2.1 p.2.2 with|some r=>xqA 9 r x|none=>I)
  |none=>I
 |none=>I
def be9{fn:Nat}{f:Func}{x:AV}(j:aS.funcs[fn]?=V f)(k:(f.name== "runtime.NumGoroutine")=I)(d:kG x=U)(h:aX0 f x=U):Ct fn [] (·=x):=by unfold aX0 at h;split at h;rename_i c i;split at h;rename_i p l;obtain⟨e,m,Y⟩:=p;simp only[bN] at h;obtain⟨g,a⟩:=h;split at a;rename_i r b;obtain rfl:=aYn a;refine aBg ready j i k (Nat.zero_le _) (bbl ready bdF 3000 c _ _ e m Y l _ ?_);rcases aWD g with rfl|rfl;exact⟨_,b,d,rfl⟩;exact⟨_,b,d,rfl⟩;(cases a);(cases h);cases h
set_option maxRecDepth 100000 in
def bal:aX0 Tryz.f9 (bv U)=U:=by kernel_rfl
def Oj:Ct 9 [] (·=bv U):=by exact be9 Tryz.func9 (by kernel_rfl) rfl bal
def BS:FT:=BJ Oj
def ayk{Lw K}:=al2 BS Oj Lw K
def bfB:dO:=(10,aYs)::(11,aYt)::(9,BS)::a7O
def bfz:eJ bfB:=it (aCb aWG) (it (aCb aXB) (it (apM Oj) (aX9)))
def a6v:=ai @bbo<|ai @bcj<|ai @ayk<|@aWr
def a8G:=bi 3 []
def aYO c R a:=aw 15 a c λh=>fV aSc a [h] λi=>aw 15 a c λd=>fV Cp a [d] λe=>fV Fi a [i,e] λb=>az b (fV BS a []) λf=>aD b f (bv I) λg=>aE R a [g]
def aYN c b R:=aw 5 b c λt3=>fV aUs b [t3,(iv 16)] λt4=>eV (bs 43 aOQ b 3) λa d=>sV (aK 15 d a t4) (aYO a R)
def bgc{b:List AV}{R:d7}(l0:L b=5)(h:H1 24 5 1 b λc d=>aYN c d R):Ct 3 [.a b] R:=z1 a8G bfz Tryz.func3 l0 h
def baj{v:aOA}{Y:ae}:dG Y (.a v.cs)= .a v.cs:=rfl
def bdj(v:aOA)(i:aSr v):Ct 3 [.a v.cs] (·=bv U):=by refine bgc rfl λp h d o=>?_;have j:aN (V 5) v.cs=V (.a v.cs):=rfl;simp only[aYN,u0,u1,d,j,ip,jM,kU,jt,baj,ar,a6v,↓uL];refine⟨⟨i,by decide,by decide⟩,?_⟩;rintro _ ⟨w,rfl,c,b⟩;refine⟨.inl (by simp[nA,eB,iR,aOA.cs,sl]),?_⟩;refine so h λu q l n e=>?_;refine qr e rfl rfl λr m f=>?_;obtain⟨g,k⟩:=aYk c b;simp only[aYO,u0,u1,f,aYl,ip,jM,kU,jt,sH,ar,a6v,c,b,g,y6,↓uL];exactλt=>⟨.inl rfl,λs=>⟨.inl rfl,by omega,rfl⟩⟩
end Go.Ab
