/- Part of the proof of EncodeGoals. -/
import Derived.Test.YtcceijpmabdflaaGreatDoorD
set_option linter.all false
set_option maxRecDepth 100000
open And renaming intro->ai
open Bool renaming and_eq_false_iff->bik,and_eq_true->bN,and_false->qc,and_true->ru,eq_false_or_eq_true->sq,false->I,false_eq_true->eE,not_eq_false'->fK,not_eq_true'->eH,not_false->kN,not_true->fh,or_eq_false_iff->cP,or_eq_true->fH,true->U,true_eq_false->sr
open Decidable renaming decide->Q,not_not->aNS
open Go.IntKind renaming i64->dq
open Go.Proofs.Tryz renaming prog->aS
open Go.Value renaming bool.injEq->mV,int.injEq->mW,string.injEq->mX
open Int renaming toNat_natCast->bh,toNat_of_nonneg->kA,toNat_zero->Gx
open List renaming Pairwise->Cr,all_cons->Cs,all_eq_true->dV,all_nil->aqG,append_assoc->bje,append_nil->cL,cons.injEq->kO,cons_append->zn,drop->aOz,drop_length->Gz,drop_zero->ip,filter_append->me,filter_congr->aqJ,filter_eq_nil_iff->RK,filter_eq_self->GA,flatMap_cons->Cz,flatMap_nil->RN,foldl_nil->aRl,getElem?_append_right->xf,getElem?_map->bkb,getElem_of_mem->ou,length->L,length_append->a6G,length_cons->bZ,length_drop->oz,length_filter_le->fZ,length_map->bJ,length_nil->aO6,length_range->bnJ,length_take->gC,map_append->dg,map_congr_left->ja,map_cons->ji,map_flatMap->RT,map_id->brw,map_map->vA,map_nil->mU,map_set->vB,mem_append->dF,mem_cons->eW,mem_filter->jW,mem_flatMap->iI,mem_iff_getElem->RU,mem_map->dN,mem_range->fq,mem_singleton->cE,nil_append->dW,nodup_append->xl,nodup_range->GM,range->aH,set_append_right->CD,set_cons_zero->RY,set_eq_take_append_cons_drop->GP,take_length->gV,take_succ_eq_append_getElem->iJ,take_zero->CE
open Nat renaming eq_zero_or_pos->oD,le_antisymm->bP,le_of_lt->aYB,le_refl->dA,le_trans->gl,lt_of_lt_of_le->biN,lt_or_ge->jj,min_eq_left->rD,mul_le_mul->xn,mul_le_mul_right->qo,reduceAdd->dc,sub_self->tM,succ_mul->tN,zero_add->aj,zero_le->mh
open Option renaming bind_some->aPy,map_some->df,none->J,some->V,some.injEq->bE
open Prod renaming mk.injEq->iK
namespace Go.Ab
open Go Go.RowKit Go.Proofs Go.Proofs.Tryz
structure jb(w:am)(ns:List aH8):Prop where
 ln:L ns<100000
 bf:∀x y:Int,aF (L w.ac) x->aF (L w.ac) y->x≠y->(⟨1,x,y⟩:aH8)∈ns
 ex:∀x:Int,aF (L w.ac) x->(⟨2,x,0⟩:aH8)∈ns
 fx:∀x:Int,aF (L w.ac) x->fR (gd w.ac x.toNat)=U->(⟨3,x,0⟩:aH8)∈ns
def anX{l t}:∀{k},qT l t k<k
 |0=>by simp[qT]
 |k+1=>by
  rw[qT]
  split
  ·omega
  ·have:=anX (l:=l) (t:=t) (k:=k);omega
def anW{w:am}{j:Nat}:lw w.ac j<j:=by simp_all [anX,lw]
def azY{p}:∀{n},0<=uo p n->uo p n<n/\p (uo p n).toNat=U:=by intro n h;by_cases m:∃i,i<n/\p i=U;obtain⟨i,o,q⟩:=m;have c:∃k,k<n/\p k=U/\∀j,j<k->p j=I:=(by induction i using Nat.strongRecOn with|_ i r=>grind);obtain⟨k,l,g,e⟩:=c;rw[KW l g e];simp_all;grind [KX]
def aIp{w}{j:Nat}(h:0<=kr w j):aF (L w.ac) (kr w j)/\kr w j≠j:=by obtain⟨c,g⟩:=azY h;refine⟨⟨h,c⟩,λe=>?_⟩;grind [pV,kr]
section
variable{Y:ae}{b:Id}{w:am}{ns:List aH8}{out:List (d0)}{n wk a:AV}{bm bo:Id}{f:Nat->AV}{d:Nat}{K:be}
def mS(Y:ae)(b:Id)(w:am)(ns:List aH8)(out cl:List<|d0)(n wk a:AV)(bm bo:Id)(f:Nat->AV):be:=λr c=>∃a1,r= .t []/\bD c b w ns (out++cl) n wk a1 bm bo f/\Ad Y c b a a1
def brT{fn xs cl}(k:uQ.elem fn=I)(h:∃r c,mS Y b w ns out cl n wk a bm bo f r c/\cZ aS GG fn xs Y r c)(j:∀e c,bD c b w ns (out++cl) n wk e bm bo f->Ad Y c b a e->K (.t []) c):cB fn xs Y d K:=by refine jH k h ?_;rintro r c ⟨e,rfl,i,g⟩;exact⟨g.fx.len,j e c i g⟩
theorem aDI(C:bD Y b w ns out n wk a bm bo f)(M:jb w ns)(o:∀k,k<L w.ac->aF (L w.aQ.ay) (gd w.ac k).aq)(D:L w.ac<=16)(B:L out<100000000){x:Int}(c:aF (L w.ac) x):∃r g,mS Y b w ns out (jc ns w x) n wk a bm bo f r g/\cZ aS GG 34 [.p b 0 0,iv x] Y r g:=by have i:=M.ln;have q:=c.1;have y:=c.2;have s:=kA q;refine aKm C.le ?_;refine gq C i (M.ex _ c) ?_;simp only[qz 2,qy 4,de i,aY,a5Y,bQ];refine bid C (by omega) [_] (by simp) λa1 g e l=>?_;simp only[qz 6];refine anA e (by omega) c (o _<|by omega) ?_;simp only[qz 8,eQ];refine⟨λh=>?_,λh=>?_⟩;have v:=aNQ h;have m:=anW (w:=w) (j:=x.toNat);rw[s] at m;refine gq e i (M.ex _ ⟨v,by omega⟩) ?_;simp only[qz 10,qy 12,qy 14,a5Y,bQ];refine bid e (by simp;omega) [_] (by simp) λu A z t=>?_;simp only[aNR,aoz];refine⟨u,rfl,?_,l.trans t⟩;grind [jc];simp only[aNR,aoz];refine⟨a1,rfl,?_,l⟩;grind [jc]
def anz(C:bD Y b w ns out n wk a bm bo f)(M:jb w ns)(g:∀k,k<L w.ac->aF (L w.aQ.ay) (gd w.ac k).aq)(j:L w.ac<=16)(i:L out<100000000){x:Int}(l:aF (L w.ac) x)(h:∀e c,bD c b w ns (out++jc ns w x) n wk e bm bo f->Ad Y c b a e->K (.t []) c):cB 34 [.p b 0 0,iv x] Y d K:=brT rfl (aDI C M g j i l) h
theorem aDK(C:bD Y b w ns out n wk a bm bo f)(M:jb w ns)(ak:∀k,k<L w.ac->aF (L w.aQ.ay) (gd w.ac k).aq)(hw:L w.ac<=16)(ho:L out+L (bqI ns w)<1000000000):∃r E,mS Y b w ns out (bqI ns w) n wk a bm bo f r E/\cZ aS GG 83 [.p b 0 0] Y r E:=by have e:=M.ln;refine aKo C.le ?_;have bx:=C.bx;simp only[bqI,a6G] at ho;simp only[aOe bx,eS,bx,rkC];refine yV (L w.ac) (λk _ Y'=>∃g,bD Y' b w ns (out++(aH k).flatMap (jy ns<|L w.ac)) n wk g bm bo f/\Ad Y Y' b a g) (by grind [Ad.refl]) ?_;rintro k _ E v ⟨a1,C1,A1⟩;have l1:=fU (f:=jy ns<|L w.ac) v;simp only[qz 19,au,eQ];refine⟨λh=>?_,λh=>?_⟩;have O:=aL h;rw[fX<|by omega];have S:=fU (f:=jy ns<|L w.ac) (show k+1<=L w.ac by omega);rw[amt,a6G] at S;have al:L ((aH<|L w.ac).flatMap<|my ns k)=L (jy ns (L w.ac) k):=rfl;refine AI (α:=Unit) (λ_ i=>[iv i]) 0 (L w.ac) (k+1) (by omega) (λj _ Y'=>∃g,bD Y' b w ns (out++(aH k).flatMap (jy ns<|L w.ac)++(aH j).flatMap (my ns k)) n wk g bm bo f/\Ad Y Y' b a g/\k<j) (s0:=()) (by grind [aol,my]) ?_;rintro j _ W hj ⟨F,s,t,ag⟩;have l2:=fU (f:=my ns k) hj;simp only[qz 55,au,eQ];refine⟨λm=>?_,λm=>?_⟩;have N:=aL m;refine kg s e (M.bf _ _ ⟨by omega,by omega⟩ ⟨by omega,by omega⟩<|by omega) ?_;simp only[qz 2,au];refine kg s e (M.bf _ _ ⟨by omega,by omega⟩ ⟨by omega,by omega⟩<|by omega) ?_;simp only[qz 4,fi,bQ,qz 6];refine bid s (by grind) [_,_] (by simp) λu G l q=>?_;simp only[qz 8,au,eQ];refine yU N ⟨u,?_,t.trans q,by omega⟩;grind [amt,my];refine yU O ⟨F,?_,t⟩;grind [amt,jy];have o:k=L w.ac:=(by grind);subst o;refine yV (L w.ac) (λk _ Y'=>∃g,bD Y' b w ns (out++(aH<|L w.ac).flatMap (jy ns<|L w.ac)++(aH k).flatMap (kY ns w)) n wk g bm bo f/\Ad Y Y' b a g) (by grind) ?_;rintro k _ W v ⟨F,s,t⟩;have l2:=fU (f:=kY ns w) v;simp only[qz 91,au,eQ,qz 113];refine⟨λh=>?_,λh=>?_⟩;have c:=aL h;refine anA s (by omega) (dJ c) (by simp_all) ?_;have ah:=anW (w:=w) (j:=k);simp only[qz 10,eQ];refine⟨λm=>?_,λm=>?_⟩;have x:=aNQ m;have A:=fU (f:=kY ns w)<|show k+1<=L w.ac from c;have e2:kY ns w k=[[lB ns (lw w.ac k) k],[-lE ns k,lE ns<|lw w.ac k]]:=(by rw[kY,sz x]);rw[amt,e2,a6G] at A;simp only[bZ,aO6] at A;have P:aF (L w.ac) (lw w.ac k):=⟨x,by omega⟩;refine kg s e (by grind [jb.bf,dJ]) ?_;simp only[qz 12,a5Y,bQ,qz 14];refine bid s (by grind) [_] (by simp) λu G l q=>?_;simp only[qz 16,au];refine gq l e (M.ex _<|dJ c) ?_;simp only[qz 18,de e,aY];refine gq l e (M.ex _ P) ?_;simp only[qz 20,qy 22,qy 24,fi,bQ];refine bid l (by grind) [_,_] (by simp) λH X y D=>?_;simp only[qz 111,au,eQ];refine yU c ⟨H,?_,(t.trans q).trans D⟩;grind [amt];simp only[qz 111,au,eQ];refine yU c ⟨F,?_,t⟩;grind [amt,kY];have o:k=L w.ac:=(by grind);subst o;refine yV (L w.ac) (λk _ Y'=>∃g,bD Y' b w ns (out++(aH<|L w.ac).flatMap (jy ns<|L w.ac)++(aH<|L w.ac).flatMap (kY ns w)++(aH k).flatMap (mA ns w)) n wk g bm bo f/\Ad Y Y' b a g) (by grind) ?_;rintro k _ G v ⟨u,l,q⟩;have l3:=fU (f:=mA ns w) v;simp only[qz 145,au,eQ,qz 167];refine⟨λh=>?_,λh=>?_⟩;have c:=aL h;refine aEi l (by omega) (dJ c) ?_;simp only[qz 26,eQ];refine⟨λm=>?_,λm=>?_⟩;have x:=aNQ m;obtain⟨z,R⟩:=aIp x;have B:=fU (f:=mA ns w)<|show k+1<=L w.ac from c;have e3:mA ns w k=[[-lE ns k,lE ns<|kr w k],[-lE ns k,lB ns (kr w k) k]]:=(by rw[mA,sz x]);rw[amt,e3,a6G] at B;simp only[bZ,aO6] at B;refine gq l e (M.ex _<|dJ c) ?_;simp only[qz 28,de e,aY];refine gq l e (M.ex _ z) ?_;simp only[qz 30,fi,bQ,qz 32];refine bid l (by grind) [_,_] (by simp) λH X y D=>?_;simp only[qz 34,au];refine gq y e (M.ex _<|dJ c) ?_;simp only[qz 36,de e,aY,au];refine kg y e (M.bf _ _ z (dJ c) R) ?_;simp only[qz 38,qy 40,qy 42,fi,bQ];refine bid y (by grind) [_,_] (by simp) λZ Y5 C5 T=>?_;simp only[qz 165,au,eQ];refine yU c ⟨Z,?_,(q.trans D).trans T⟩;grind [amt];simp only[qz 165,au,eQ];refine yU c ⟨u,?_,q⟩;grind [amt,mA];have o:k=L w.ac:=(by grind);subst o;exact⟨u,rfl,by grind [bqI],q⟩
def aEh(C:bD Y b w ns out n wk a bm bo f)(M:jb w ns)(g:∀k,k<L w.ac->aF (L w.aQ.ay) (gd w.ac k).aq)(j:L w.ac<=16)(i:L out+L (bqI ns w)<1000000000)(h:∀e c,bD c b w ns (out++bqI ns w) n wk e bm bo f->Ad Y c b a e->K (.t []) c):cB 83 [.p b 0 0] Y d K:=brT rfl (aDK C M g j i) h
structure tP(w:am):Prop where
 ct:L w.init.count=L w.aQ.ay
 c0:∀u:Int,aF (L w.aQ.ay) u->0<=gd w.init.count u.toNat/\gd w.init.count u.toNat<=400
 dl:∀k,k<L w.ac->L (gd w.ac k).dI<100000/\∀x∈(gd w.ac k).dI,-1000<=x/\x<=1000
 fl:∀k,k<L w.ac->L (gd w.ac k).ep<100000/\∀x∈(gd w.ac k).ep,-1000<=x/\x<=1000
 dp:∀k,k<L w.ac->∀q∈fg w (gd w.ac k).aq (gd w.ac k).dI,aF (L w.ac) q/\fR (gd w.ac q.toNat)=U
 fr:∀k,k<L w.ac->∀q∈fg w (gd w.ac k).aq (gd w.ac k).ep,aF (L w.ac) q/\fR (gd w.ac q.toNat)=U
theorem aDy(C:bD Y b w ns out n wk a bm bo f)(M:jb w ns)(D:tP w)(q:∀k,k<L w.ac->aF (L w.aQ.ay) (gd w.ac k).aq)(hw:L w.ac<=16)(ho:L out+L ((aH<|L w.ac).flatMap<|kX ns w)<1000000000):∃r l,mS Y b w ns out ((aH<|L w.ac).flatMap<|kX ns w) n wk a bm bo f r l/\cZ aS GG 90 [.p b 0 0] Y r l:=by have z:=M.ln;refine aKa C.le ?_;have bx:=C.bx;simp only[aOe bx,eS,bx,rkC];refine yV (L w.ac) (λk _ Y'=>∃g,bD Y' b w ns (out++(aH k).flatMap (kX ns w)) n wk g bm bo f/\Ad Y Y' b a g) (by grind [Ad.refl]) ?_;rintro k _ l hk ⟨a1,s,N⟩;simp only[qz 7,qy 2,au,eQ,ix,rk,bh];refine⟨λh=>⟨vp h,?_⟩,λh=>?_⟩;have e:=aL h;refine I7 s.le λv Y2 S N2 Z=>?_;refine cy (y:=7) (cs:=aP.c<|gd w.ac k) Z rfl rfl (by decide) λF T b3=>?_;have G:box F (3,v)=V ⟨62,7,U,U,[aP.c<|gd w.ac k]⟩:=b3;have E:Fx l F []:=(S.trans T).mono (by grind [bK.no]);have P:=s.fx E;simp only[qz 4,eT,G];refine Qp P hw (D.dl k e).1 (q k e) D.ct (D.c0 _<|q k e) (D.dl k e).2 λt=>?_;have l1:=fU (f:=kX ns w)<|show k+1<=L w.ac from e;rw[amt,a6G] at l1;have A:=D.dp k e;have i:kX ns w k=(aH<|L<|fg w (gd w.ac k).aq (gd w.ac k).dI).flatMap (qv ns k<|fg w (gd w.ac k).aq (gd w.ac k).dI):=rfl;rw[i] at l1;generalize hL:fg w (gd w.ac k).aq (gd w.ac k).dI=Lw at A i l1;have ak:L Lw<4000000000:=(by have:L Lw=L ((aH<|L Lw).flatMap<|qv ns k Lw):=(by clear hL i l1 A;generalize L Lw=m;induction m with|zero=>rfl|succ m ih=>rw[amt,a6G,<-ih];rfl);omega);simp only[qz 6,gT,u0];refine yV (L Lw) (λj _ Y'=>∃g,bD Y' b w ns (out++(aH k).flatMap (kX ns w)++(aH j).flatMap (qv ns k Lw)) n wk g bm bo f/\Ad Y Y' b a g) (by grind [Ad.fxn]) ?_;rintro j _ Y4 hj ⟨W,u,B⟩;have l4:=fU (f:=qv ns k Lw) hj;simp only[qz 43,au,eQ,tf,rk,bh];refine⟨λx=>⟨vp x,?_⟩,λx=>?_⟩;have o:=aL x;obtain⟨q1,q2⟩:=A _<|dB o;refine gq u z (M.ex _<|dJ e) ?_;simp only[qz 8,de z,aY];refine AQ u z (M.fx _ q1 q2) ?_;simp only[qz 10,fi,bQ,qz 12];refine bid u (by grind) [_,_] (by simp) λX Y5 R O=>?_;simp only[qz 14,au,cS,aY];refine yU o ⟨X,?_,B.trans O⟩;rw[amt,<-bje];exact R;refine yU e ⟨W,?_,B⟩;grind [amt];have H:k=L w.ac:=(by grind);subst H;exact⟨a1,rfl,s,N⟩
def aEd(C:bD Y b w ns out n wk a bm bo f)(M:jb w ns)(D:tP w)(g:∀k,k<L w.ac->aF (L w.aQ.ay) (gd w.ac k).aq)(j:L w.ac<=16)(i:L out+L ((aH<|L w.ac).flatMap<|kX ns w)<1000000000)(h:∀e c,bD c b w ns (out++(aH<|L w.ac).flatMap (kX ns w)) n wk e bm bo f->Ad Y c b a e->K (.t []) c):cB 90 [.p b 0 0] Y d K:=brT rfl (aDy C M D g j i) h
def uf(ns:List aH8)(e c:Int):List (d0):=if c<0\/e<0 then[] else[[-lE ns c,lE ns e],[-lE ns c,lB ns e c]]
theorem aDC(C:bD Y b w ns out n wk a bm bo f)(M:jb w ns)(ho:L out<999999990){R O g W c T:Int}{P S}(H:0<=g->aF (L w.ac) g)(N:0<=c->aF (L w.ac) c)(ad:g≠c\/c<0):∃r x,mS Y b w ns out (uf ns g c) n wk a bm bo f r x/\cZ aS GG 159 [.p b 0 0, .a [iv R,iv O,iv g,bv P], .a [iv W,iv c,iv T,bv S]] Y r x:=by have i:=M.ln;refine aKf C.le rfl rfl λs4 v4 v5 D ae _ _ m F=>?_;have v:=D.fx [];have l:=C.fx v;have X:∀{p q s t:AV},aN J ([p,q,s,t].drop 1)=V q:=rfl;have y:∀{p q s t:AV},aN J ([p,q,s,t].drop 2)=V s:=rfl;simp+contextual only[eS,m,F,X,y];refine⟨λh=>?_,λh=>?_⟩;simp only[aNR,aoz];simp only[fH,aBY] at h;refine⟨a,rfl,?_,⟨v.mono (by simp),λk G=> .inl G⟩⟩;grind [uf];simp only[cP,aNK] at h;have j:=N (by omega);have o:=H (by omega);have ab:uf ns g c=[[-lE ns c,lE ns g],[-lE ns c,lB ns g c]]:=(by grind [uf]);refine gq l i (M.ex _ j) ?_;simp only[qz 6,de i,aY,u1,m,y,aj];refine gq l i (M.ex _ o) ?_;simp only[qz 8,fi,bQ,qz 10];refine bid l (by omega) [_,_] (by simp) λa1 x u z=>?_;have A:=z.keep m (by intro e;have:=C.sb;rw[<-e] at this;simp at this)<|l.ne m<|.inl rfl;simp only[qz 12];refine dT ?_ ?_;simp_all [eL,lb,cq,zt,dC,dK];refine gq u i (M.ex _ j) ?_;simp only[qz 14,de i,aY,u1,A,y,aj];refine kg u i (M.bf _ _ o j<|by omega) ?_;simp only[qz 16,fi,bQ,qz 18];refine bid u (by simp;omega) [_,_] (by simp) λE Y2 C2 B=>?_;simp only[qz 20];refine dT ?_ ⟨E,rfl,?_,Ad.pre v<|z.trans B⟩;obtain⟨Z,aa⟩:=b;have:=C.sb;simp only at this;subst this;simp[eL,lb,cq,zt,dC,dK];simp_all
theorem aDz(C:bD Y b w ns out n wk a bm bo f)(M:jb w ns)(ho:L out<999999990){W y l yt o Z:Int}{T X}(k:aF (L w.ac) y)(i:aF (L w.ac) o)(R:0<=l->aF (L w.ac) l)(m:y≠o)(G:0<=l->l≠o):∃r v,mS Y b w ns out (jI ns y l o) n wk a bm bo f r v/\cZ aS GG 160 [.p b 0 0, .a [iv W,iv y,iv l,bv T], .a [iv yt,iv o,iv Z,bv X]] Y r v:=by have c:=M.ln;refine aKb C.le rfl rfl λs4 v4 v5 N ab _ _ x P=>?_;have A:=N.fx [];have g:=C.fx A;have S:∀{p q s t:AV},aN J ([p,q,s,t].drop 1)=V q:=rfl;have B:∀{p q s t:AV},aN J ([p,q,s,t].drop 2)=V s:=rfl;simp+contextual only[eS,x,P,S,B];refine⟨λh=>?_,λh=>?_⟩;refine gq g c (M.ex _ k) ?_;simp only[qz 6,de c,aY];refine gq g c (M.ex _ i) ?_;simp only[qz 8,de c,aY];refine kg g c (M.bf _ _ k i m) ?_;simp only[qz 10,qy 12,qy 14,de c,aY,xA,bQ];refine bid g (by omega) [_,_,_] (by simp) λa1 v j u=>⟨a1,rfl,?_,Ad.pre A u⟩;grind [jI];have h':=bqL h;have z:=R (by omega);refine gq g c (M.ex _ k) ?_;simp only[qz 16,de c,aY];refine gq g c (M.ex _ i) ?_;simp only[qz 18,de c,aY];refine kg g c (M.bf _ _ k i m) ?_;simp only[qz 20,de c,aY,u1,x,B,aj];refine gq g c (M.ex _ z) ?_;simp only[qz 22,vR,bQ,qz 24];refine bid g (by omega) [_,_,_,_] (by simp) λa1 v j u=>?_;have F:=u.keep x (by intro e;have:=C.sb;rw[<-e] at this;simp at this)<|g.ne x<|.inl rfl;simp only[qz 26];refine dT ?_ ?_;obtain⟨D,E⟩:=b;have:=C.sb;simp only at this;subst this;simp[eL,lb,cq,zt,dC,dK];refine gq j c (M.ex _ k) ?_;simp only[qz 28,de c,aY];refine gq j c (M.ex _ i) ?_;simp only[qz 30,de c,aY];refine kg j c (M.bf _ _ k i m) ?_;simp only[qz 32,de c,aY,u1,F,B,aj];refine kg j c (M.bf _ _ z i<|G<|by omega) ?_;simp only[qz 34,vR,bQ,qz 36];refine bid j (by simp;omega) [_,_,_,_] (by simp) λO Y2 C2 H=>?_;simp only[qz 38];refine dT ?_ ⟨O,rfl,?_,Ad.pre A<|u.trans H⟩;obtain⟨D,E⟩:=b;have:=C.sb;simp only at this;subst this;simp[eL,lb,cq,zt,dC,dK];grind [jI]
def aEe(C:bD Y b w ns out n wk a bm bo f)(M:jb w ns)(k:L out<999999990){r o e v c u:Int}{q s}(l:0<=e->aF (L w.ac) e)(m:0<=c->aF (L w.ac) c)(i:e≠c\/c<0)(j:∀h g,bD g b w ns (out++uf ns e c) n wk h bm bo f->Ad Y g b a h->K (.t []) g):cB 159 [.p b 0 0, .a [iv r,iv o,iv e,bv q], .a [iv v,iv c,iv u,bv s]] Y d K:=brT rfl (aDC C M k l m i) j
def anx(C:bD Y b w ns out n wk a bm bo f)(M:jb w ns)(m:L out<999999990){u g c y e x:Int}{s v}(q:aF (L w.ac) g)(r:aF (L w.ac) e)(o:0<=c->aF (L w.ac) c)(j:g≠e)(k:0<=c->c≠e)(l:∀i h,bD h b w ns (out++jI ns g c e) n wk i bm bo f->Ad Y h b a i->K (.t []) h):cB 160 [.p b 0 0, .a [iv u,iv g,iv c,bv s], .a [iv y,iv e,iv x,bv v]] Y d K:=brT rfl (aDz C M m q r o j k) l
theorem aDR(C:bD Y b w ns out n wk a bm bo f)(M:jb w ns)(D:tP w)(al:∀k,k<L w.ac->aF (L w.aQ.ay) (gd w.ac k).aq)(hw:L w.ac<=16){r:Nat}{s:Int}(hr:r<L w.ac)(bC:fR (gd w.ac r)=U)(hm:(⟨4,(r:Int),s⟩:aH8)∈ns)(hs:0<=s->aF (L w.ac) s/\s≠(r:Int))(ho:L out+L (iP ns w r s)<999999900):∃r1 W,mS Y b w ns out (iP ns w r s) n wk a bm bo f r1 W/\cZ aS GG 168 [.p b 0 0, .a<|aH8.c ⟨4,r,s⟩] Y r1 W:=by have i:=M.ln;refine aKu C.le rfl λs2 v3 K2 bO _ b3=>?_;have F2:=K2.fx [];have C0:=C.fx F2;have aV:aN (V 3) (aH8.c ⟨4,(r:Int),s⟩)=V (.a<|aH8.c ⟨4,r,s⟩):=rfl;simp only[iP,a6G] at ho;simp only[eT,b3,aV];refine lq C0 i hm ?_;simp only[qz 4];refine dT rfl ?_;refine brS (λvs Y'=>vs=[]/\∃q,bD Y' b w ns (out++kD ns w r s) n wk q bm bo f/\Ad Y Y' b a q) (λg hJ=>?_) ?_;simp only[qz 17,eQ];refine⟨λh=>?_,λh=>hJ _ _ ⟨rfl,a,by grind [kD],⟨F2.mono (by simp),λk hk=> .inl hk⟩⟩⟩;have N:=aNQ h;obtain⟨E,aT⟩:=hs N;have bH:=kA N;have F:s.toNat<L w.ac:=(by have:=E.1;have:=E.2;omega);have l:kD ns w r s=[[-lS ns r s,lE ns s],[-lS ns r s,lB ns s r]]++(aH<|L<|fg w (gd w.ac s.toNat).aq (gd w.ac s.toNat).ep).flatMap (pD ns r s<|fg w (gd w.ac s.toNat).aq (gd w.ac s.toNat).ep):=(by grind [kD]);rw[l,a6G] at ho;simp only[de i,aY];refine gq C0 i (M.ex _ E) ?_;simp only[qz 6,fi,bQ,qz 8];refine bid C0 (by omega) [_,_] (by simp) λa1 W H A1=>?_;simp only[qz 10,de i,aY];refine kg H i (M.bf _ _ E (dJ hr) aT) ?_;simp only[qz 12,fi,bQ,qz 14];refine bid H (by simp;omega) [_,_] (by simp) λa2 Y2 C2 A2=>?_;have ag:=C2.bx;simp only[qz 16,qy 18,aOe ag,eT,ag,rkC,ix];refine⟨E,?_⟩;refine I7 C2.le λv Y3 F3 N3 d3=>?_;refine cy (y:=7) (cs:=aP.c<|gd w.ac s.toNat) d3 rfl rfl (by decide) λX F4 d4=>?_;have Z:box X (7,v)=V ⟨62,7,U,U,[aP.c<|gd w.ac s.toNat]⟩:=d4;have S:Fx Y2 X []:=(F3.trans F4).mono (by grind [bK.no]);have C4:=C2.fx S;simp only[qz 20,eT,Z];refine Qp C4 hw (D.fl _ F).1 (al _ F) D.ct (D.c0 _<|al _ F) (D.fl _ F).2 λt=>?_;have hq:=D.fr _ F;generalize hL:fg w (gd w.ac s.toNat).aq (gd w.ac s.toNat).ep=Lw at hq l ho;have bz:L Lw<4000000000:=(by have:L Lw=L ((aH<|L Lw).flatMap<|pD ns r s Lw):=(by clear hL l ho hq;generalize L Lw=m;induction m with|zero=>rfl|succ m ih=>rw[amt,a6G,<-ih];rfl);omega);simp only[qz 22,gT,u0];refine yV (L Lw) (λj _ Y'=>∃q,bD Y' b w ns (out++[[-lS ns r s,lE ns s],[-lS ns r s,lB ns s r]]++(aH j).flatMap (pD ns r s Lw)) n wk q bm bo f/\Ad Y Y' b a q) (by grind [Ad.fxn,Ad.pre,Ad.trans]) ?_;rintro j _ Y5 hj ⟨a5,R,A5⟩;have O:=fU (f:=pD ns r s Lw) hj;simp only[qz 49,au,eQ,tf,rk,bh,de i];refine⟨λh2=>⟨vp h2,?_⟩,λh2=>?_⟩;have ak:=aL h2;obtain⟨q1,q2⟩:=hq _<|dB ak;refine AQ R i (M.fx _ q1 q2) ?_;simp only[qz 24,fi,bQ,qz 26];refine bid R (by grind) [_,_] (by simp) λa6 Y6 C6 A6=>?_;simp only[qz 28,au,cS,aY];refine yU ak ⟨a6,?_,A5.trans A6⟩;rw[amt,<-bje];exact C6;grind;rintro vs W ⟨rfl,a1,H,A1⟩;have af:=H.bx;simp only[qz 15,qy 30,aOe af,eT,af,rkC,ix,bh];refine⟨dJ hr,?_⟩;refine I7 H.le λv Y3 F3 N3 d3=>?_;refine cy (y:=7) (cs:=aP.c<|gd w.ac r) d3 rfl rfl (by decide) λX F4 d4=>?_;have Z:box X (10,v)=V ⟨62,7,U,U,[aP.c<|gd w.ac r]⟩:=d4;have S:Fx W X []:=(F3.trans F4).mono (by grind [bK.no]);have C4:=H.fx S;have ah:=C4.bx;simp only[qz 32,u1];refine bsf (λg=>∀kd:Int,kd=(if(gd w.ac r).kind=23 then 22 else 4)->g [iv kd]) ?_ λg hj=>?_;intro kd bA;simp only[qz 93,aOe ah,eS,ah,rkC];have bL:∀x:aP,aTG x (gd w.ac r)=(Q (x.kind=kd)&&Q (x.bF=(gd w.ac r).bF)):=(by grind [fR,aTG]);refine yV (L w.ac) (λk _ Y'=>∃q,bD Y' b w ns (out++kD ns w r s++(aH k).flatMap (bpL ns w r s)) n wk q bm bo f/\Ad Y Y' b a q/\box Y' (10,v)=V ⟨62,7,U,U,[aP.c<|gd w.ac r]⟩) (by grind [Ad.fxn]) ?_;rintro z _ Y5 hz ⟨a5,R,A5,e5⟩;simp only[qz 109,au,eQ];refine⟨λh=>?_,λh=>?_⟩;have B:=aL h;refine biR (λg=>∀o u,bD o b w ns (out++kD ns w r s++(aH z).flatMap (bpL ns w r s)++bpL ns w r s z) n wk u bm bo f->Ad Y o b a u->box o (10,v)=V ⟨62,7,U,U,[aP.c<|gd w.ac r]⟩->g [] o) ?_ λg A=>?_;intro o u C8 P e8;simp only[qz 129,aI,au,cS,aY];refine yU B ⟨u,?_,P,e8⟩;grind [amt];simp only[qz 131,qy 34,au,u0,ix,rk,bh];refine⟨dJ B,?_⟩;have O:=fU (f:=bpL ns w r s)<|show z+1<=L w.ac from B;rw[amt,a6G] at O;refine I7 R.le λv6 Y6 F6 N6 d6=>?_;refine cy (y:=7) (cs:=aP.c<|gd w.ac z) d6 rfl rfl (by decide) λY7 F7 d7=>?_;have aG:box Y7 (13,v6)=V ⟨62,7,U,U,[aP.c<|gd w.ac z]⟩:=d7;have T:Fx Y5 Y7 []:=(F6.trans F7).mono (by grind [bK.no]);have G:=R.fx T;have A7:=A5.fxn T;have e7:=T.kq e5;have bn:((10,v):Id)≠b:=(by grind);simp+contextual only[qz 36,eT,aG,e7,de i];refine⟨λhc=>?_,λhc=>?_⟩;refine A Y7 a5 ?_ A7 e7;grind [bpL];simp only[cP,aNK,aNS] at hc;have bM:(z:Int)≠s:=(by omega);have bI:aTG (gd w.ac z) (gd w.ac r)=U:=(by simp_all);have bG:(r:Int)≠z:=(by intro e;have br:r=z:=(by omega);grind [aTG]);have bB:¬((z:Int)=s\/aTG (gd w.ac z) (gd w.ac r)=I):=(by simp_all);refine⟨λN=>?_,λN=>?_⟩;have aK:=aNQ N;have l:bpL ns w r s z=[[-lS ns r s,-lE ns z,lB ns z s,lB ns r z]]:=(by grind [bpL]);rw[l] at O A;simp only[bZ,aO6] at O;refine gq G i (M.ex _<|dJ B) ?_;simp only[qz 38,de i,aY,au];refine kg G i (by grind [jb.bf,dJ]) ?_;simp only[qz 40,au];refine kg G i (by grind [jb.bf,dJ]) ?_;simp only[qz 42,qy 44,qy 46,vR,bQ];refine bid G (by grind) [_,_,_,_] (by simp) λu o C8 P=>?_;exact A o u C8 (A7.trans P) (by grind [Ad.keep,bD.ne]);have aK:=bqL N;have l:bpL ns w r s z=[[-lS ns r s,-lE ns z,lB ns r z]]:=(by grind [bpL]);rw[l] at O A;simp only[bZ,aO6] at O;refine gq G i (M.ex _<|dJ B) ?_;simp only[qz 48,de i,aY,au];refine kg G i (by grind [jb.bf,dJ]) ?_;simp only[qz 50,qy 52,qy 54,xA,bQ];refine bid G (by grind) [_,_,_] (by simp) λu o C8 P=>?_;exact A o u C8 (A7.trans P) (by grind [Ad.keep,bD.ne]);have aO:z=L w.ac:=(by grind);subst aO;refine⟨a5,rfl,?_,A5⟩;grind [iP];simp only[qz 95,eT,Z];refine⟨λh=>hj 22 (by simp_all),λh=>hj 4<|by simp_all⟩
def aEj(C:bD Y b w ns out n wk a bm bo f)(M:jb w ns)(D:tP w)(i:∀k,k<L w.ac->aF (L w.aQ.ay) (gd w.ac k).aq)(q:L w.ac<=16){r:Nat}{s:Int}(o:r<L w.ac)(h:fR (gd w.ac r)=U)(l:(⟨4,(r:Int),s⟩:aH8)∈ns)(hs:0<=s->aF (L w.ac) s/\s≠(r:Int))(m:L out+L (iP ns w r s)<999999900)(j:∀g e,bD e b w ns (out++iP ns w r s) n wk g bm bo f->Ad Y e b a g->K (.t []) e):cB 168 [.p b 0 0, .a<|aH8.c ⟨4,r,s⟩] Y d K:=brT rfl (aDR C M D i q o h l hs m) j
structure sE(w:am)(ns:List aH8):Prop where
 ok:∀x∈aR ns 5,aF (L w.ac) x.a/\pN (gd w.ac x.a.toNat)=U/\(0<=x.b->aF (L w.ac) x.b/\x.b≠x.a)
 ln:L (aR ns 5)<=1000
def iO(ns:List aH8)(k:Nat)(c:Int)(l:List aH8)(j:Nat):List (d0):=if(gd l j).b=c then[[-lE ns k,-dP ns (gd l j),lB ns (gd l j).a k]] else[]
def brQ(ns:List aH8)(w:am)(k:Nat):List (d0):=
 if(gd w.ac k).kind=17/\(be7 w k).2=U then(-lE ns k::gO ns (aR ns 5) (be7 w k).1)::(aH<|L<|aR ns 5).flatMap (iO ns k (be7 w k).1<|aR ns 5) else[]
theorem bsk{Y e}{z d by':Nat}{zs a bA new t o K}(v:gA Y e z a bA)(B:L zs=z)(p:0<z)(i:d<L Y)(A:∀r∈bA,L r=z)(y:∀r∈new,L r=z)(x:(L bA+L new)*(by'+1)<=1099511627776)(j:∀c Y',gA Y' e z c (bA++new)->Fx Y Y' (aA a)->(∀b∈aA c,b∈aA a\/(bK Y b/\b.1=d))->K c Y'):eV (apA e zs by' Y d a<|.l new t o) K:=by rcases v with⟨o',rfl⟩|⟨b,rfl,u⟩;unfold apA;simp only[gL];by_cases k:L new=0;rw[sz k];have m:new=[]:=(by simp_all);subst m;exact j _ _ (.inl ⟨o',by simp⟩) (Fx.refl _ _) (by simp[aA]);rw[r9 k,sz ⟨by omega,by simp[aPF,i],by simp_all⟩];rw[sz ⟨by simp_all,by grind [lx]⟩];refine j _ _ (.inr ⟨I8 Y d,by simp,?_⟩) ((kH i).mono<|by simp) (by simp[aA];exact⟨qQ Y d,rfl⟩);grind [iy];refine gD (.inr ⟨b,rfl,u⟩) B p i A y x λc Y' g F C D=>j c Y' ?_ F λq E=>?_;rcases g with⟨s,rfl⟩|h;exact .inl ⟨U,by rw[s]⟩;exact .inr h;grind
theorem Ea(C:bD Y b w ns out n wk a bm bo f)(l:L out<1000000000){x}(c)(h:gA Y 3 1 x<|c.map ci)(j:L c<1000000)(m:∀k∈aA x,k.1≠18)(i:∀g e,bD e b w ns (out++[c]) n wk g bm bo f->Ad Y e b a g->K (.t []) e):cB 36 [.p b 0 0,x] Y d K:=by refine anw C l (ali h) j ?_ i;rcases h with⟨o,rfl⟩|⟨k,rfl,_⟩;simp;grind [aA]
theorem aDv(C:bD Y b w ns out n wk a bm bo f)(M:jb w ns)(Wk:sE w ns)(bg:∀k,k<L w.ac->aF (L w.aQ.ay) (gd w.ac k).aq)(bd:L w.init.bW.ay=L w.aQ.ay)(be:L w.aQ.ay<=4)(hw:L w.ac<=16)(ho:L out+L ((aH<|L w.ac).flatMap<|brQ ns w)<999999900):∃r N,mS Y b w ns out ((aH<|L w.ac).flatMap<|brQ ns w) n wk a bm bo f r N/\cZ aS GG 88 [.p b 0 0] Y r N:=by have q:=M.ln;have bi:=Wk.ln;refine aJ7 C.le ?_;have bx:=C.bx;simp only[aOe bx,eS,bx,rkC];refine yV (L w.ac) (λk _ Y'=>∃E,bD Y' b w ns (out++(aH k).flatMap (brQ ns w)) n wk E bm bo f/\Ad Y Y' b a E) (by grind [Ad.refl]) ?_;rintro k _ N hk ⟨a1,C1,A1⟩;simp only[qz 7,au,eQ];refine⟨λh=>?_,λh=>?_⟩;have l:=aL h;refine biR (λg=>∀m O,bD m b w ns (out++(aH k).flatMap (brQ ns w)++brQ ns w k) n wk O bm bo f->Ad Y m b a O->g [] m) ?_ λg u=>?_;intro m O B H;simp only[qz 27,aI,au,cS,aY];refine yU l ⟨O,?_,H⟩;grind [amt];simp only[qz 29,qy 2,au,u0,ix,rk,bh];refine⟨dJ l,?_⟩;have l1:=fU (f:=brQ ns w)<|show k+1<=L w.ac from l;rw[amt,a6G] at l1;refine I7 C1.le λv Y2 F2 N2 b2=>?_;refine cy (y:=7) (cs:=aP.c<|gd w.ac k) b2 rfl rfl (by decide) λD F3 b3=>?_;have al:box D (3,v)=V ⟨62,7,U,U,[aP.c<|gd w.ac k]⟩:=b3;have P:Fx N D []:=(F2.trans F3).mono (by grind [bK.no]);have A:=C1.fx P;have X:=A1.fxn P;simp only[qz 4,eT,al];refine⟨λh1=>?_,λh1=>?_⟩;refine u D a1 ?_ X;grind [brQ];have ba:(gd w.ac k).kind=17:=(by simp_all);refine anB A (by omega) (dJ l) (by simp_all) (by omega) λv' az=>?_;simp only[qz 6,oJ,pG,aY,eQ];refine⟨λh2=>?_,λh2=>?_⟩;refine u D a1 ?_ X;grind [brQ];have an:(be7 w k).2=U:=(by grind);obtain rfl:=az an;generalize bk:(be7 w (k:Int)).1=i at*;have W:brQ ns w k=(-lE ns k::gO ns (aR ns 5) i)::(aH<|L<|aR ns 5).flatMap (iO ns k i<|aR ns 5):=(by grind [brQ]);rw[W,bZ] at l1;rw[W] at u;refine gq A q (M.ex _<|dJ l) ?_;simp only[qz 8,de q,aY,a5Y,bQ];refine anC (d:=0) A q _ λt=>?_;simp only[qz 12];have bj:L (gO ns (aR ns 5) i)<=1000:=(by grind [gO]);refine bsk (bA:=[-lE ns k].map ci) (.inl ⟨U,rfl⟩) rfl (by decide) (by rw[A.le];decide) fF fF (by grind) λx4 Y4 g4 F4 bc=>?_;rw[<-dg] at g4;have R:Fx D Y4 []:=F4.mono (by simp[aA]);have C4:=A.fx R;simp only[qz 14];refine Ea C4 (by grind) _ g4 (by simp;omega) (by grind [aA]) λa5 Y5 C5 A5=>?_;have T:=C5.bx;simp only[qz 16,aOe T,eS,T,rkC,lnI C5.gw,bJ];have a3:=(X.fxn R).trans A5;rw[show[-lE ns k]++gO ns (aR ns 5) i= -lE ns k::gO ns (aR ns 5) i from rfl] at C5;refine yV (L<|aR ns 5) (λj _ Y'=>∃E,bD Y' b w ns (out++(aH k).flatMap (brQ ns w)++[-lE ns k::gO ns (aR ns 5) i]++(aH j).flatMap (iO ns k i<|aR ns 5)) n wk E bm bo f/\Ad Y Y' b a E) (by grind) ?_;rintro j _ Y6 hj ⟨a6,C6,A6⟩;have l6:=fU (f:=iO ns k i<|aR ns 5) hj;simp only[qz 79,au,eQ];refine⟨λh3=>?_,λh3=>?_⟩;have o:=aL h3;refine biR (λg=>∀x z,bD x b w ns (out++(aH k).flatMap (brQ ns w)++[-lE ns k::gO ns (aR ns 5) i]++(aH j).flatMap (iO ns k i<|aR ns 5)++iO ns k i (aR ns 5) j) n wk z bm bo f->Ad Y x b a z->g [] x) ?_ λg s=>?_;intro x z C9 Z;simp only[qz 99,aI,au,cS,aY];refine yU o ⟨z,?_,Z⟩;grind [amt];simp only[qz 101,qy 18,au];have G:=fU (f:=iO ns k i<|aR ns 5)<|show j+1<=L (aR ns 5) from o;rw[amt,a6G] at G;obtain⟨o1,o2,o3⟩:=Wk.ok _<|dB o;have aw:gd (aR ns 5) j∈ns:=(jW.1<|dB o).1;rw[qB C6.gw o];refine I7 C6.le λv7 Y7 F7 N7 d7=>?_;refine cy (cs:=aH8.c<|gd (aR ns 5) j) d7 rfl rfl (by decide) λm F8 d8=>?_;have F:box m (7,v7)=V ⟨107,3,U,U,[aH8.c<|gd (aR ns 5) j]⟩:=d8;have S:Fx Y6 m []:=(F7.trans F8).mono (by grind [bK.no]);have B:=C6.fx S;have H:=A6.fxn S;have aB:aN (V 3) (aH8.c<|gd (aR ns 5) j)=V (.a<|aH8.c<|gd (aR ns 5) j):=rfl;simp only[qz 20,eT,F];refine⟨λh4=>?_,λh4=>?_⟩;have bb:=aNQ h4;have av:iO ns k i (aR ns 5) j=[[-lE ns k,-dP ns (gd (aR ns 5) j),lB ns (gd (aR ns 5) j).a k]]:=(by grind [iO]);rw[av] at G s;simp only[bZ,aO6] at G;have ar:(gd (aR ns 5) j).a≠(k:Int):=(by intro e;simp_all [pN]);refine gq B q (M.ex _<|dJ l) ?_;simp only[qz 22,de q,aY,u1,F,aB];refine lq B q aw ?_;simp only[qz 24,de q,aY,u1,F,rk,aj];refine kg B q (M.bf _ _ o1 (dJ l) ar) ?_;simp only[qz 26,xA,bQ,qz 28];refine bid B (by grind) [_,_,_] (by simp) λz x C9 Z=>?_;simp only[qz 30];refine dT ?_<|s x z C9<|H.trans Z;obtain⟨a4,a7⟩:=b;have:=C.sb;simp only at this;subst this;simp[eL,lb,cq,zt,dC,dK];refine s m a6 ?_ H;grind [iO];refine u Y6 a6 ?_ A6;grind;have ax:k=L w.ac:=(by grind);subst ax;exact⟨a1,rfl,C1,A1⟩
def alf{e z by' d zs s x c bA}(h:gA Y c z x bA):apA e zs by' Y d s x=apA e zs by' Y d s (.l bA U U):=by have:gL Y x=gL Y (.l bA U U):=(by rcases h with⟨o,rfl⟩|⟨k,rfl,g⟩;rfl;simp[gL,g]);unfold apA;rw[this]
def alV{x y}:aTH .eql 2 [(0,0),(1,0),(2,0)] (.a<|aH8.c x) (.a<|aH8.c y)=V (bv<|Q<|x=y):=by obtain⟨a,b,c⟩:=x;obtain⟨e,g,h⟩:=y;by_cases i:a=e<;>by_cases j:b=g<;>by_cases k:c=h<;>simp[aTH,nW,sS,aH8.c,i,j,k]
def j8(w:am)(x y:aH8):Bool:=Q (y=x)||(Q (y.a=x.a)&&Q ((gd w.ac x.a.toNat).kind=18))
def eZ(x y:aH8):Bool:=Q (y.b=x.b)&&Q (y.a≠x.a)
def jd(ns:List aH8)(x:aH8):d0:= -lE ns x.a::(if 0<=x.b then[-lE ns x.b,-lB ns x.b x.a] else[])
def kZ(ns:List aH8)(w:am)(l:List aH8)(x:aH8):d0:=jd ns x++(l.filter<|j8 w x).map (dP ns)
def bse(ns:List aH8)(w:am)(l:List aH8)(x:aH8)(j:Nat):List (d0):=[kZ ns w l x++[-dP ns (gd (l.filter<|eZ x) j),lB ns (gd (l.filter<|eZ x) j).a x.a]]
def qw(ns:List aH8)(w:am)(x:aH8):List (d0):=(kZ ns w (aR ns 5) x++((aR ns 5).filter<|eZ x).map (dP ns))::(aH<|L<|(aR ns 5).filter<|eZ x).flatMap (bse ns w (aR ns 5) x)
def bc.t{e z x bA}(h:bc Y e z x bA):gA Y e z x bA:=by rcases h with⟨rfl,rfl⟩|h;exact .inl ⟨U,rfl⟩;exact .inr h
theorem pH{α}[Inhabited α]{p}{l:List α}{k:Nat}(h:k<L l):(l.take<|k+1).filter p=(l.take k).filter p++if p (gd l k)=U then[gd l k] else[]:=by grind [iJ,bT]
theorem aDx(C:bD Y b w ns out n wk a bm bo f)(M:jb w ns)(Wk:sE w ns)(hw:L w.ac<=16){x}(hx:x∈aR ns 5)(ho:L out+L (qw ns w x)<999999900):∃r1 Y1,mS Y b w ns out (qw ns w x) n wk a bm bo f r1 Y1/\cZ aS GG 166 [.p b 0 0, .a<|aH8.c x] Y r1 Y1:=by
 have A:=M.ln
 have dD:=Wk.ln
 obtain⟨x1,x2,x3⟩:=Wk.ok x hx
 refine aJ9 C.le rfl λT v3 K2 dG nf b3=>?_
 have F2:=K2.fx []
 have F:=C.fx F2
 simp only[eT,b3]
 refine gq F A (M.ex _ x1) ?_
 simp only[qz 4,de A,aY,a5Y,bQ,qz 6]
 refine brS (λvs Y'=>∃y0,vs=[y0]/\gA Y' 3 1 y0 ((jd ns x).map ci)/\Fx T Y' []/\∀q∈aA y0,bK T q/\q.1=37) (λe hJ=>?_) ?_
 ·simp only[qz 17,eT,b3]
  refine⟨λh=>?_,λh=>hJ _ _ ⟨_,rfl, .inl ⟨U,by grind [jd]⟩,Fx.refl _ _,by simp[aA]⟩⟩
  have h0:=aNQ h
  obtain⟨bl,cp⟩:=x3 h0
  refine gq F A (M.ex _ bl) ?_
  simp only[qz 8,de A,aY,u1,b3,rk,aj]
  refine kg F A (M.bf _ _ bl x1 cp) ?_
  simp only[qz 10,qy 12,de A,aY,fi,bQ]
  refine bsk (bA:=[-lE ns x.a].map ci) (.inl ⟨U,rfl⟩) rfl (by decide) (by rw[F.le];decide) fF fF (by simp) λy4 Y4 g4 F4 dt=>?_
  rw[<-dg] at g4
  simp only[qz 14]
  refine dT rfl (hJ _ _ ⟨y4,rfl,?_,F4.mono (by simp[aA]),λq m=>?_⟩)
  ·grind [jd]
  grind [aA]
 ·rintro vs Y1 ⟨y0,rfl,g0,F1,P0⟩
  have C1:=F.fx F1
  have a8:=C1.bx
  have dm:=F1.kq b3
  have cu:=C1.gw
  have aT:∀y∈aR ns 5,y∈ns:=λy hy=>(jW.1 hy).1
  simp only[qz 15,au,aOe a8,eS,a8,rkC,lnI cu,bJ]
  refine jD (α:=AV×AV) (λa i=>[a.1,a.2,iv i]) 2 (L<|aR ns 5) (λk a Y'=>gA Y' 3 1 a.1 ((jd ns x++(((aR ns 5).take k).filter<|j8 w x).map (dP ns)).map ci)/\bc Y' 107 3 a.2 ((((aR ns 5).take k).filter<|eZ x).map aH8.c)/\Fx T Y' []/\(∀q∈aA a.1,bK T q/\(q.1=37\/q.1=75))/\∀q∈aA a.2,bK T q/\q.1=91) (s0:=(y0, .l [] U U)) (by grind [bc.nil,aA]) ?_
  rintro k ⟨y,o⟩ Y2 hk ⟨gy,go,aw,Py,Po⟩
  simp only at gy go Py Po
  have C2:=F.fx aw
  simp only[qz 43,qy 30,au,eQ,qz 65,qy 16]
  refine⟨λh=>?_,λh=>?_⟩
  ·have H:=aL h
   rw[qB C2.gw H]
   refine I7 C2.le λv7 Y3 F3 N3 d3=>?_
   refine cy (cs:=aH8.c<|gd (aR ns 5) k) d3 rfl rfl (by decide) λY4 F4 d4=>?_
   have bd:box Y4 (7,v7)=V ⟨107,3,U,U,[aH8.c<|gd (aR ns 5) k]⟩:=d4
   have ax:Fx Y2 Y4 []:=(F3.trans F4).mono (by grind [bK.no])
   have ay:=aw.trans ax
   have C4:=F.fx ay
   have ba:=C4.bx
   have a6:=ay.kq b3
   have cA:aN (V 3) (aH8.c x)=V (.a<|aH8.c x):=rfl
   have bq:aN (V 3) (aH8.c<|gd (aR ns 5) k)=V (.a<|aH8.c<|gd (aR ns 5) k):=rfl
   have bj:=gy.fx ax (by simp)
   have ch:=go.fx ax (by simp)
   have dy:L (jd ns x++(((aR ns 5).take k).filter<|j8 w x).map (dP ns))<=3+k:=by
    grind [jd]
   have dx:L (((aR ns 5).take k).filter<|eZ x)<=k:=by
    grind
   simp only[qz 18,di]
   refine brS (λvs Y'=>∃y',vs=[y']/\gA Y' 3 1 y' ((jd ns x++(((aR ns 5).take<|k+1).filter<|j8 w x).map (dP ns)).map ci)/\Fx Y4 Y' (aA y)/\∀q∈aA y',bK T q/\(q.1=37\/q.1=75)) (λe hJ=>?_) ?_
   ·simp+contextual only[qz 77,eT,bd,a6,cA,bq,ix,alV,aOe ba,ba,rkC]
    refine⟨λ_ _=>x1,λhb=>?_,λhb=>?_⟩
    ·refine lq C4 A (aT _<|dB H) ?_
     simp only[qz 20,qy 22,qy 24,a5Y,bQ,au]
     refine bsk bj rfl (by decide) (by rw[C4.le];decide) fF fF (by grind) λy5 Y5 g5 F5 du=>hJ _ _ ⟨y5,rfl,?_,F5,λq m=>?_⟩
     ·grind [pH,j8]
     grind [bK.old]
    ·refine hJ _ _ ⟨y,rfl,?_,Fx.refl _ _,Py⟩
     rw[pH H,r9 (by grind [j8]),cL]
     exact bj
   ·rintro vs Y5 ⟨y',rfl,bk,F5,aD⟩
    have aV:∀{q:Id},q.1≠37->q.1≠75->q∉aA y:=(by grind)
    have d5:=F5.keep _ _ (aV (by simp)<|by simp) bd
    have cb:=F5.keep _ _ (aV (by simp)<|by simp) a6
    have cj:=ch.fx F5 (λq m=>aV (by rw[(Po q m).2];decide)<|by rw[(Po q m).2];decide)
    have az:Fx T Y5 []:=(ay.trans F5).mono (by grind [bK.no])
    simp+contextual only[qz 75,qy 26,qy 28,eT,d5,cb,bq,Db]
    have ds:(Q ((gd (aR ns 5) k).b=x.b)&&Q ((gd (aR ns 5) k).a≠x.a))=eZ x (gd (aR ns 5) k):=rfl
    refine⟨λhb=>?_,λhb=>?_⟩
    ·refine gD cj rfl (by decide) (by rw[az.len,F.le];decide) uT uT (by grind) λo6 Y6 g6 F6 dv dz=>?_
     simp only[qz 63,aI,au,ck,nr,cS,aY]
     refine dR (p:=2) (mk:=λ(a:AV×AV) i=>[a.1,a.2,iv i]) (s:=(y,o)) (s':=(y',o6)) (λ_ _=>rfl) H (by omega) ⟨bk.fx F6 λq m N=>?_,?_,(az.trans F6).mono (by grind [bK.no]),aD,λq m=>?_⟩
     ·have h1:=(Po q N).2
      rcases(aD q m).2 with h2|h2<;>(omega)
     ·grind [pH]
     grind [bK.old]
    ·simp only[qz 63,aI,au,ck,nr,cS,aY]
     refine dR (p:=2) (mk:=λ(a:AV×AV) i=>[a.1,a.2,iv i]) (s:=(y,o)) (s':=(y',o)) (λ_ _=>rfl) H (by omega) ⟨bk,?_,az,aD,Po⟩
     grind [pH]
  ·have cw:k=L (aR ns 5):=(by grind)
   subst cw
   rw[gV] at gy go
   rw[show jd ns x++((aR ns 5).filter<|j8 w x).map (dP ns)=kZ ns w (aR ns 5) x from rfl] at gy
   have bI:∀v∈(aR ns 5).filter (eZ x),v∈aR ns 5/\eZ x v=U:=(by simp)
   have dp:L (kZ ns w (aR ns 5) x)<=1003:=by
    grind [jd,kZ]
   have dr:L ((aR ns 5).filter<|eZ x)<=1000:=by
    grind
   have ct:qw ns w x=(kZ ns w (aR ns 5) x++((aR ns 5).filter<|eZ x).map (dP ns))::(aH<|L<|(aR ns 5).filter<|eZ x).flatMap (bse ns w (aR ns 5) x):=rfl
   have cr:∀j,bse ns w (aR ns 5) x j=[kZ ns w (aR ns 5) x++[-dP ns (gd ((aR ns 5).filter<|eZ x) j),lB ns (gd ((aR ns 5).filter<|eZ x) j).a x.a]]:=λ_=>rfl
   rw[ct,bZ] at ho
   generalize hL:kZ ns w (aR ns 5) x=Lw at*
   generalize hO:(aR ns 5).filter (eZ x)=O at*
   simp only[nS,bQ]
   rw[alf gy]
   refine bsk (bA:=[]) (.inl ⟨U,rfl⟩) rfl (by decide) (by rw[C2.le];decide) (by simp) fF (by simp;omega) λz7 Y7 g7 F7 dw=>?_
   rw[dW] at g7
   have a5:Fx Y2 Y7 []:=F7.mono (by simp[aA])
   simp only[qz 32,ck,u0,lnI<|go.fx a5<|by simp,bJ]
   refine jD (α:=AV) (λa i=>[a,iv i]) 1 (L O) (λj z Y'=>gA Y' 3 1 z ((Lw++(O.take j).map (dP ns)).map ci)/\Fx Y2 Y' []/\∀q∈aA z,bK Y2 q/\(q.1=95\/q.1=107)) (s0:=z7) ⟨by simpa using g7,a5,by grind [aA]⟩ ?_
   rintro j z Y8 hj ⟨g8,F8,P8⟩
   have C8:=C2.fx F8
   have cl:=go.fx F8 (by simp)
   simp only[qz 109,qy 34,au,eQ]
   refine⟨λh2=>?_,λh2=>?_⟩
   ·have bp:=aL h2
    rw[qB cl bp]
    refine I7 C8.le λcB Y9 F9 N9 d9=>?_
    refine cy (cs:=aH8.c<|gd O j) d9 rfl rfl (by decide) λad bU cd=>?_
    have bz:box ad (10,cB)=V ⟨107,3,U,U,[aH8.c<|gd O j]⟩:=cd
    have aB:Fx Y8 ad []:=(F9.trans bU).mono (by grind [bK.no])
    have P:=F8.trans aB
    have aX:aN (V 3) (aH8.c<|gd O j)=V (.a<|aH8.c<|gd O j):=rfl
    simp only[qz 36,eQ,bz,aX]
    refine lq (C2.fx P) A (by grind [dB]) ?_
    simp only[qz 38,qy 40,a5Y,bQ,au]
    refine bsk (g8.fx aB<|by simp) rfl (by decide) (by rw[P.len,C2.le];decide) fF fF (by simp;omega) λcF b1 dn av bG=>?_
    simp only[qz 42,ck,cS,aY]
    refine dR (p:=1) (mk:=λa i=>[a,iv i]) (s:=z) (s':=cF) (λ_ _=>rfl) bp (by omega) ⟨?_,(P.trans av).mono (by grind [bK.no]),λq m=>?_⟩
    ·grind [iJ,bT]
    ·rcases bG q m with h|h
     ·exact P8 q h
     grind [bK.old]
   ·have aQ:j=L O:=(by grind)
    subst aQ
    rw[gV] at g8
    have cm:=gy.fx F8 (by simp)
    refine Ea C8 (by omega) _ g8 (by simp;omega) (by grind) λa9 Y9 C9 A9=>?_
    have bL:∀q∈aA y,q.1≠18:=(by grind)
    have bn:∀{r:ae},gA r 3 1 y (Lw.map ci)->∀q∈aA y,∃bx,box r q=V bx/\bx.elem≠38:=by
     intro r g q m
     rcases g with⟨o',rfl⟩|⟨k',rfl,hb⟩
     ·simp[aA] at m
     grind [aA]
    have E:∀{r R:ae} {S ab:AV} {oo:List (d0)},bD r b w ns oo n wk S bm bo f->Ad r R b S ab->gA r 3 1 y (Lw.map ci)->gA R 3 1 y (Lw.map ci):=by
     intro r R S ab oo Ca Aa g
     refine g.fx Aa.fx λq m N=>?_
     rcases eW.1 N with h|h
     ·grind [bD.sb]
     ·obtain⟨bx,h1,h2⟩:=bn g q m
      grind [bD.ne]
    have D:∀{r R:ae} {S ab:AV} {oo:List (d0)},bD r b w ns oo n wk S bm bo f->Ad r R b S ab->bc r 107 3 o (O.map aH8.c)->bc R 107 3 o (O.map aH8.c):=by
     intro r R S ab oo Ca Aa g
     refine g.fx Aa.fx λq m N=>?_
     rcases eW.1 N with h|h
     ·grind [bD.sb]
     ·exact Ca.ne (g.ids q m) (.inr<|by simp) h
    have aP:((3,v3):Id)≠b:=by grind
    have a7:=F8.kq<|aw.kq b3
    have cc:=A9.keep a7 aP<|C8.ne a7<|.inl rfl
    have bM:Ad Y Y9 b a a9:=(by grind [Ad.pre])
    have bi:=D C8 A9 (go.fx F8<|by simp)
    have cn:=E C8 A9 cm
    simp only[qz 44,ck,u0,lnI bi,bJ]
    refine yV (L O) (λj _ Y'=>∃a',bD Y' b w ns (out++[Lw++O.map (dP ns)]++(aH j).flatMap (bse ns w (aR ns 5) x)) n wk a' bm bo f/\Ad Y Y' b a a'/\gA Y' 3 1 y (Lw.map ci)/\bc Y' 107 3 o (O.map aH8.c)/\box Y' (3,v3)=V ⟨107,3,U,U,[aH8.c x]⟩) ⟨a9,by simpa using C9,bM,cn,bi,cc⟩ ?_
    rintro j _ ad hj ⟨b8,a4,a3,aK,aJ,aF⟩
    have dE:=fU (f:=bse ns w (aR ns 5) x) hj
    simp only[qz 151,qy 46,au,eQ]
    refine⟨λh3=>?_,λh3=>?_⟩
    ·have af:=aL h3
     obtain⟨m1,m2⟩:=bI _<|dB af
     obtain⟨o1,o2,o3⟩:=Wk.ok _ m1
     have cx:(gd O j).a≠x.a:=by
      grind [eZ]
     have aU:=fU (f:=bse ns w (aR ns 5) x)<|show j+1<=L O from af
     rw[amt,a6G,cr] at aU
     simp only[bZ,aO6] at aU
     rw[qB aJ af]
     refine I7 a4.le λcC b1 av dd ce=>?_
     refine cy (cs:=aH8.c<|gd O j) ce rfl rfl (by decide) λG bV cf=>?_
     have bB:box G (12,cC)=V ⟨107,3,U,U,[aH8.c<|gd O j]⟩:=cf
     have t:Fx ad G []:=(av.trans bV).mono (by grind [bK.no])
     have ap:=a4.fx t
     have bF:=aK.fx t (by simp)
     have aX:aN (V 3) (aH8.c<|gd O j)=V (.a<|aH8.c<|gd O j):=rfl
     simp only[qz 48,qy 50,nS,bQ,au]
     rw[alf bF]
     refine bsk (bA:=[]) (.inl ⟨U,rfl⟩) rfl (by decide) (by rw[ap.le];decide) (by simp) fF (by simp;omega) λcG b2 be bW c1=>?_
     rw[dW] at be
     have B:Fx G b2 []:=bW.mono (by simp[aA])
     have aq:=ap.fx B
     have bb:=B.kq bB
     have bw:=B.kq<|t.kq aF
     simp only[qz 52,eQ,bb,aX]
     refine lq aq A (aT _ m1) ?_
     simp only[qz 54,de A,aY,u1,bb,bw,rk,aj]
     refine kg aq A (M.bf _ _ o1 x1 cx) ?_
     simp only[qz 56,qy 58,fi,bQ]
     refine bsk be rfl (by decide) (by rw[aq.le];decide) fF fF (by simp;omega) λdH b4 bg bX bH=>?_
     rw[<-dg] at bg
     have dh:∀q∈aA cG,bK G q/\q.1=120:=(by grind [aA])
     have Z:Fx G b4 []:=(B.trans bX).mono (by grind [bK.no])
     have X:=ap.fx Z
     have u:=t.trans Z
     simp only[qz 60]
     refine Ea X (by grind [a6G,bZ,aO6]) _ bg (by simp;omega) (λq m=>by
      rcases bH q m with h|h
      ·grind
      omega) λb9 dj db W=>?_
     simp only[qz 62]
     refine dT ?_ ?_
     ·have:=C.sb
      clear aP bL E D bn
      obtain⟨dk,dl⟩:=b
      simp only at this
      subst this
      simp[eL,lb,cq,zt,dC,dK]
     ·have aG:=u.kq aF
      simp only[au,cS,aY]
      refine dR (p:=0) (mk:=λ_ i=>[iv i]) (s:=()) (s':=()) (λ_ _=>rfl) af (by omega) ⟨b9,?_,(a3.fxn u).trans W,E X W<|aK.fx u<|by simp,D X W<|aJ.fx u<|by simp,W.keep aG aP<|X.ne aG<|.inl rfl⟩
      grind [amt]
    ·have aQ:j=L O:=(by grind)
     subst aQ
     simp only[aNR,aoz]
     refine⟨b8,rfl,?_,a3⟩
     grind
end
def apw:dO:=apv
def wS:eJ apw:=tB
def amn:=@aBo
def asW:=kW 44 [(2,([19],[0,17,18])),(5,([],[0,17,18,19])),(12,([67],[0,65,66])),(18,([80],[0,5,65,66,67,78,79])),(21,([],[0,5,65,66,67,78,79,80])),(26,([107],[0,105,106])),(32,([120],[0,9,105,106,107,118,119])),(35,([],[0,9,105,106,107,118,119,120])),(39,([160],[0,158,159]))]
def Hy a s0 R:=(.mk _:NS apw asW Tryz.f87 [a] [] s0 R).p
theorem aKn{a:AV}{s0:ae}{R:be}(hs:L s0=4096)(h:Hy a s0 R):EB 87 [a] s0 R:=zB asW wS func87 h
def asL:=kW 18 [(1,([10],[0,1,8,9])),(7,([20],[0,1,5,8,9,10,18,19])),(10,([],[0,1,5,8,9,10,18,19,20]))]
def aKc{a a1}:=yB wS func84 asL [a,a1]
def as7:=kW 27 [(1,([16],[0,14,15])),(4,([],[0,14,15,16])),(13,([4,5,44],[0,2,14,15,16,42,43])),(16,([4,5],[0,2,14,15,16,42,43,44])),(22,([73],[0,14,15,16,71,72]))]
def aKy{a}:=yB wS func89 as7 [a]
def as0:=kW 8 [(3,([25],[0,23,24]))]
def aKr{a a1}:=yB wS func33 as0 [a,a1]
def asU:=kW 19 [(6,([36],[0,3,35])),(9,([],[0,3,35,36])),(13,([61],[0,3,59,60])),(16,([],[0,3,59,60,61]))]
def aKl{c b}:=yB1 49 6 3 wS func38 asU b [c, .a b]
def asP:=kW 11 [(4,([27],[2,3,25,26])),(7,([],[2,3,25,26,27]))]
def aKg{a}:=yB wS func41 asP [a]
section
variable{Y:ae}{b:Id}{w:am}{ns:List aH8}{out:List (d0)}{n wk a:AV}{bm bo:Id}{f:Nat->AV}{d:Nat}{K:be}
theorem aDN(C:bD Y b w ns out n wk a bm bo f)(M:jb w ns)(D:tP w)(g:∀k,k<L w.ac->aF (L w.aQ.ay) (gd w.ac k).aq)(R:L w.ac<=16){x:Int}(l:aF (L w.ac) x)(O:L out+L (jK ns w x)<90000000):∃r h,mS Y b w ns out (jK ns w x) n wk a bm bo f r h/\cZ aS GG 33 [.p b 0 0,iv x] Y r h:=by have hn:=M.ln;have ao:=l.1;have ap:=l.2;have e:x.toNat<L w.ac:=(by omega);simp only[jK,a6G] at O;refine aKr C.le ?_;refine anz C M g R (by omega) l λa1 h u A1=>?_;have o:=u.bx;simp only[qz 2,qy 4,aOe o,eT,o,rkC,ix];refine⟨l,?_⟩;refine I7 u.le λv Y2 X N2 b2=>?_;refine cy (y:=7) (cs:=aP.c<|gd w.ac x.toNat) b2 rfl rfl (by decide) λF Z b3=>?_;have H:box F (4,v)=V ⟨62,7,U,U,[aP.c<|gd w.ac x.toNat]⟩:=b3;have E:Fx h F []:=(X.trans Z).mono (by grind [bK.no]);have T:=u.fx E;simp only[qz 6,eT,H];refine Qp T R (D.dl _ e).1 (g _ e) D.ct (D.c0 _<|g _ e) (D.dl _ e).2 λt=>?_;have P:=D.dp _ e;have N:jK ns w x=jc ns w x++(aH<|L<|fg w (gd w.ac x.toNat).aq (gd w.ac x.toNat).dI).flatMap (pC ns<|fg w (gd w.ac x.toNat).aq (gd w.ac x.toNat).dI):=rfl;generalize hL:fg w (gd w.ac x.toNat).aq (gd w.ac x.toNat).dI=Lw at*;have an:L Lw<90000000:=(by have:L Lw=L ((aH<|L Lw).flatMap<|pC ns Lw):=(by clear hL N O P;generalize L Lw=m;induction m with|zero=>rfl|succ m ih=>rw[amt,a6G,<-ih];rfl);omega);simp only[qz 8,gT,u0];refine yV (L Lw) (λj _ Y'=>∃G,bD Y' b w ns (out++jc ns w x++(aH j).flatMap (pC ns Lw)) n wk G bm bo f/\Ad Y Y' b a G) (by grind [Ad.fxn]) ?_;rintro j _ Y4 hj ⟨a4,B,A⟩;have l4:=fU (f:=pC ns Lw) hj;simp only[qz 19,au,eQ,tf,rk,bh];refine⟨λz=>⟨vp z,?_⟩,λz=>?_⟩;have q:=aL z;obtain⟨q1,q2⟩:=P _<|dB q;refine AQ B hn (M.fx _ q1 q2) ?_;simp only[qz 10,a5Y,bQ,qz 12];refine bid B (by grind) [_] (by simp) λa5 Y5 W S=>?_;simp only[qz 14,au,cS,aY];refine dR (p:=0) (mk:=λ_ i=>[iv i]) (s:=()) (s':=()) (λ_ _=>rfl) q (by omega) ⟨a5,?_,A.trans S⟩;rw[amt,<-bje];exact W;simp only[aNR,aoz];refine⟨a4,rfl,?_,A⟩;grind
def btP(C:bD Y b w ns out n wk a bm bo f)(M:jb w ns)(D:tP w)(g:∀k,k<L w.ac->aF (L w.aQ.ay) (gd w.ac k).aq)(j:L w.ac<=16){x:Int}(l:aF (L w.ac) x)(i:L out+L (jK ns w x)<90000000)(h:∀e c,bD c b w ns (out++jK ns w x) n wk e bm bo f->Ad Y c b a e->K (.t []) c):cB 33 [.p b 0 0,iv x] Y d K:=brT rfl (aDN C M D g j l i) h
def Ky(ns:List aH8)(w:am)(g:cJ):List (d0):=[[lE ns g.ea],[lE ns g.eb],[lB ns g.ea g.eb]]++(aH<|L w.ac).flatMap (jJ ns g.eb)++(aH<|L<|aR ns 5).flatMap λj=>kF ns g.ea<|gd (aR ns 5) j
theorem aDH(C:bD Y b w ns out n wk a bm bo f)(M:jb w ns)(Wk:sE w ns)(hw:L w.ac<=16){g}(ha:aF (L w.ac) g.ea)(X:aF (L w.ac) g.eb)(av:g.ea≠g.eb)(ho:L out<90000000):∃r T,mS Y b w ns out (Ky ns w g) n wk a bm bo f r T/\cZ aS GG 38 [.p b 0 0, .a g.c] Y r T:=by have q:=M.ln;have aU:=Wk.ln;refine aKl C.le rfl λs2 Z K2 aV nf W=>?_;have F2:=K2.fx [];have P:=C.fx F2;have u:((3,Z):Id)≠b:=(by grind [bD.sb]);simp only[qy 4,eT,W];refine gq P q (M.ex _ ha) ?_;simp only[a5Y,bQ,qz 6];refine bid P (by omega) [_] (by simp) λa1 T R A1=>?_;have z:=A1.keep W u<|P.ne W<|.inl rfl;simp only[qz 8,qy 10,eT,z];refine gq R q (M.ex _ X) ?_;simp only[a5Y,bQ,qz 12];refine bid R (by simp;omega) [_] (by simp) λa2 Y2 S A2=>?_;have A:=A2.keep z u<|R.ne z<|.inl rfl;simp only[qz 14,qy 16,eT,A];refine kg S q (M.bf _ _ ha X av) ?_;simp only[a5Y,bQ,qz 18];refine bid S (by simp;omega) [_] (by simp) λa3 Y3 C3 A3=>?_;have an:=A3.keep A u<|S.ne A<|.inl rfl;have N:=C3.bx;have ae:=Ad.pre F2<|(A1.trans A2).trans A3;simp only[qz 20,aOe N,eS,N,rkC];have ol:∀k,L ((aH k).flatMap<|jJ ns g.eb)<=k:=λk=>(by have:=jo (f:=jJ ns g.eb) (m:=1) (l:=aH k) (by grind [jJ]);simp_all);refine yV (L w.ac) (λk _ Y'=>∃y,bD Y' b w ns (out++[[lE ns g.ea],[lE ns g.eb],[lB ns g.ea g.eb]]++(aH k).flatMap (jJ ns g.eb)) n wk y bm bo f/\Ad Y Y' b a y/\box Y' (3,Z)=V ⟨49,6,U,U,[g.c]⟩) ⟨a3,by simpa using C3,ae,an⟩ ?_;rintro k _ Y4 hk ⟨a4,x,A4,B⟩;simp only[qz 37,au,eT,qz 59,B];refine⟨λh=>⟨λG=>?_,λG=>?_⟩,λh=>?_⟩;have o:=aL h;have aq:=aNQ G;have:=ol k;refine gq x q (M.ex _<|dJ o) ?_;simp only[qz 22,de q,aY,u1,B,rk,aj];refine kg x q (M.bf _ _ (dJ o) X aq) ?_;simp only[qz 24,fi,bQ,qz 26];refine bid x (by grind) [_,_] (by simp) λF Y5 E v=>?_;simp only[qz 28];refine dT ?_ ?_;have:=C.sb;clear u;obtain⟨aQ,aT⟩:=b;simp only at this;subst this;simp[eL,lb,cq,zt,dC,dK];simp only[qz 57,aI,au,cS,aY];refine dR (p:=0) (mk:=λ_ i=>[iv i]) (s:=()) (s':=()) (λ_ _=>rfl) o (by omega) ⟨F,?_,A4.trans v,by grind [Ad.keep,bD.ne]⟩;grind [amt,jJ];simp only[qz 57,aI,au,cS,aY];refine dR (p:=0) (mk:=λ_ i=>[iv i]) (s:=()) (s':=()) (λ_ _=>rfl) (aL h) (by omega) ⟨a4,?_,A4,B⟩;grind [amt,jJ];have D:k=L w.ac:=(by grind);subst D;have O:=x.bx;have:=ol<|L w.ac;simp only[aOe O,eS,O,rkC,lnI x.gw,bJ];have wl:∀k,L ((aH k).flatMap λj=>kF ns g.ea<|gd (aR ns 5) j)<=k:=λk=>(by have:=jo (f:=λj=>kF ns g.ea<|gd (aR ns 5) j) (m:=1) (l:=aH k) λe _=>(by unfold kF;split<;>simp);simp_all);refine yV (L<|aR ns 5) (λk _ Y'=>∃y,bD Y' b w ns (out++[[lE ns g.ea],[lE ns g.eb],[lB ns g.ea g.eb]]++(aH<|L w.ac).flatMap (jJ ns g.eb)++(aH k).flatMap λj=>kF ns g.ea<|gd (aR ns 5) j) n wk y bm bo f/\Ad Y Y' b a y/\box Y' (3,Z)=V ⟨49,6,U,U,[g.c]⟩) (by grind) ?_;rintro k _ Y5 hk ⟨F,E,v,ao⟩;simp only[qz 79,au,eQ,qz 101,qy 30];refine⟨λh=>?_,λh=>?_⟩;have o:=aL h;have:=wl k;have aw:gd (aR ns 5) k∈ns:=(jW.1<|dB o).1;rw[qB E.gw o];refine I7 E.le λv6 Y6 F6 N6 d6=>?_;refine cy (cs:=aH8.c<|gd (aR ns 5) k) d6 rfl rfl (by decide) λY7 F7 d7=>?_;have ap:box Y7 (6,v6)=V ⟨107,3,U,U,[aH8.c<|gd (aR ns 5) k]⟩:=d7;have t:Fx Y5 Y7 []:=(F6.trans F7).mono (by grind [bK.no]);have C7:=E.fx t;have H:=t.kq ao;have ay:aN (V 3) (aH8.c<|gd (aR ns 5) k)=V (.a<|aH8.c<|gd (aR ns 5) k):=rfl;simp only[qz 32,eT,ap,H,ay];refine⟨λG=>?_,λG=>?_⟩;refine lq C7 q aw ?_;simp only[qz 34,qy 36,qy 38,de q,aY,a5Y,bQ];refine bid C7 (by grind [bZ]) [_] (by simp) λa8 Y8 C8 A8=>?_;simp only[qz 99,aI,au,cS,aY];refine dR (p:=0) (mk:=λ_ i=>[iv i]) (s:=()) (s':=()) (λ_ _=>rfl) o (by omega) ⟨a8,?_,(v.fxn t).trans A8,by grind [Ad.keep,bD.ne]⟩;grind [amt,kF];simp only[qz 99,aI,au,cS,aY];refine dR (p:=0) (mk:=λ_ i=>[iv i]) (s:=()) (s':=()) (λ_ _=>rfl) o (by omega) ⟨F,?_,v.fxn t,H⟩;grind [amt,kF];have D:k=L (aR ns 5):=(by grind);subst D;simp only[aNR,aoz];refine⟨F,rfl,?_,v⟩;grind [Ky]
def aEg(C:bD Y b w ns out n wk a bm bo f)(M:jb w ns)(Wk:sE w ns)(o:L w.ac<=16){g}(k:aF (L w.ac) g.ea)(l:aF (L w.ac) g.eb)(i:g.ea≠g.eb)(m:L out<90000000)(j:∀h e,bD e b w ns (out++Ky ns w g) n wk h bm bo f->Ad Y e b a h->K (.t []) e):cB 38 [.p b 0 0, .a g.c] Y d K:=brT rfl (aDH C M Wk o k l i m) j
theorem slW{x}{l:List aH8}{k:Nat}(m:bc Y 107 3 x<|l.map aH8.c)(z:k<L l):∃s,fo 3 Y x (V<|iv ((k+1:Nat):Int)) J J=V s/\∀Y',bc Y' 107 3 x (l.map aH8.c)->fS Y' s=V (iv<|L<|l.drop<|k+1)/\∀j,j<L (l.drop<|k+1)->∀K,(rV (cz 3 Y' s<|iv j) λt=>rV (Iy (V 3) Y' t) K)=K (.a<|aH8.c<|gd (l.drop<|k+1) j):=by rcases m with⟨r,_⟩|⟨q,rfl,v⟩;simp_all;have p:lM (V<|iv ((k+1:Nat):Int))=V (V<|k+1):=(by show(if 0<=((k+1:Nat):Int) then V (V ((k+1:Nat):Int).toNat) else J)=_;grind);by_cases h:k+1=L l;simp_all [fo,lM,qY,fS];refine⟨.g 2 q (k+1)<|L l-(k+1),?_,λY' i=>?_⟩;grind [fo,lM,qY];have e:box Y' q=V ⟨107,3,U,I,l.map aH8.c⟩:=(by have:=i.ids q (by simp[aA]);exact this);refine⟨?_,λj o K=>?_⟩;simp[fS,e,oz];rw[oz] at o;have u:k+1+j<L l:=(by omega);have y:gd (l.drop<|k+1) j=l[k+1+j]:=(by grind [bT]);simp_all [cz,rV,Iy,iE,aN,aH8.c]
theorem aDJ(C:bD Y b w ns out n wk a bm bo f)(M:jb w ns)(Wk:sE w ns)(hw:L w.ac<=16)(ho:L out<500000000):∃r Y1,mS Y b w ns out (((aH<|L<|aR ns 5).flatMap λk=>iW ns<|gd (aR ns 5) k)++((aH<|L<|aR ns 5).flatMap (lP ns<|aR ns 5)++((aH<|L<|aR ns 5).flatMap (lQ ns w<|aR ns 5)++((aH<|L<|aR ns 5).flatMap λk=>qw ns w<|gd (aR ns 5) k)))) n wk a bm bo f r Y1/\cZ aS GG 87 [.p b 0 0] Y r Y1:=by have t:=M.ln;have b2:=Wk.ln;refine aKn C.le ?_;have bx:=C.bx;have az:∀x∈aR ns 5,x∈ns:=λx hx=>(jW.1 hx).1;have bq:=Wk.ok;have z:∀{x:aH8},aN (V 3) (aH8.c x)=V (.a<|aH8.c x):=rfl;have B1:∀k,L ((aH k).flatMap λk=>iW ns<|gd (aR ns 5) k)<=k*3:=λk=>(by have:=jo (f:=λk=>iW ns<|gd (aR ns 5) k) (m:=3) (l:=aH k) (by grind [iW]);simp_all);simp only[Hy,aOe bx,eS,bx,rkC,lnI C.gw,bJ];refine yV (L<|aR ns 5) (λk _ Y'=>∃q,bD Y' b w ns (out++(aH k).flatMap λk=>iW ns<|gd (aR ns 5) k) n wk q bm bo f/\Ad Y Y' b a q) (by grind [Ad.refl]) ?_;rintro k _ Y1 hk ⟨a1,C1,A1⟩;have l1:=B1 k;simp only[qz 13,au,eQ];refine⟨λh=>?_,λh=>?_⟩;have o:=aL h;refine biR (λg=>∀Y8 Z,bD Y8 b w ns (out++(aH k).flatMap (λk=>iW ns<|gd (aR ns 5) k)++iW ns (gd (aR ns 5) k)) n wk Z bm bo f->Ad Y Y8 b a Z->g [] Y8) ?_ λg af=>?_;intro Y8 Z C8 A8;simp only[qz 33,aI,au,cS,aY];refine dR (p:=0) (mk:=λ_ i=>[iv i]) (s:=()) (s':=()) (λ_ _=>rfl) o (by omega) ⟨Z,?_,A8⟩;grind [amt];simp only[qz 35,qy 2,au];obtain⟨o1,o2,o3⟩:=bq _<|dB o;rw[qB C1.gw o];refine I7 C1.le λv2 Y2 F2 N2 d2=>?_;refine cy (cs:=aH8.c<|gd (aR ns 5) k) d2 rfl rfl (by decide) λY3 F3 d3=>?_;have am:box Y3 (3,v2)=V ⟨107,3,U,U,[aH8.c<|gd (aR ns 5) k]⟩:=d3;have aO:Fx Y1 Y3 []:=(F2.trans F3).mono (by grind [bK.no]);have X:=C1.fx aO;have A3:=A1.fxn aO;have ag:((3,v2):Id)≠b:=(by grind [bD.sb]);have N:=az _<|dB o;generalize gd (aR ns 5) k=x at*;simp only[qz 4,eQ,am,z];refine lq X t N ?_;simp only[qz 6,de t,aY,u1,am,rk,aj];refine gq X t (M.ex _ o1) ?_;simp only[qz 8,fi,bQ,qz 10];refine bid X (by grind) [_,_] (by simp) λa4 O A A4=>?_;have P:=A4.keep am ag<|X.ne am<|.inl rfl;have kb:∀{p:Prop},(∀E R,b=(E,R)->E=18->p)->p:=λh=>h b.1 b.2 rfl C.sb;simp only[qz 12];refine dT ?_ ?_;have:=C.sb;clear ag af;obtain⟨E,R⟩:=b;simp only at this;subst this;simp[eL,lb,cq,zt,dC,dK];simp only[eT,P,z];refine⟨λh0=>?_,λh0=>?_⟩;have bn:=aNQ h0;obtain⟨p1,p2⟩:=o3 bn;refine lq A t N ?_;simp only[qz 14,de t,aY,u1,P,rk,aj];refine gq A t (M.ex _ p1) ?_;simp only[qz 16,fi,bQ,qz 18];refine bid A (by grind) [_,_] (by simp) λa5 T u S=>?_;have d5:=S.keep P ag<|A.ne P<|.inl rfl;simp only[qz 20];refine dT ?_ ?_;have:=C.sb;clear ag af kb;obtain⟨E,R⟩:=b;simp only at this;subst this;simp[eL,lb,cq,zt,dC,dK];simp only[eQ,d5,z];refine lq u t N ?_;simp only[qz 22,de t,aY,u1,d5,rk,aj];refine kg u t (M.bf _ _ p1 o1 p2) ?_;simp only[qz 24,fi,bQ,qz 26];refine bid u (by grind) [_,_] (by simp) λa6 Y6 C6 A6=>?_;simp only[qz 28];refine dT ?_ (af Y6 a6 ?_<|by grind [Ad.trans]);have:=C.sb;clear ag af kb;obtain⟨E,R⟩:=b;simp only at this;subst this;simp[eL,lb,cq,zt,dC,dK];grind [iW];refine af O a4 ?_<|A3.trans A4;grind [iW];have G:k=L (aR ns 5):=(by grind);subst G;have aQ:=C1.bx;simp only[aOe aQ,eS,aQ,rkC,lnI C1.gw,bJ];generalize bY:out++(aH<|L<|aR ns 5).flatMap (λk=>iW ns<|gd (aR ns 5) k)=O1 at*;have bM:L O1<500010000:=(by grind);have B2:∀k,L ((aH k).flatMap<|lP ns<|aR ns 5)<=k*1000:=λk=>(by have:=jo (f:=lP ns<|aR ns 5) (m:=1000) (l:=aH k) λe _=>(by have h1:=jo (f:=λj=>ju ns (gd (aR ns 5) e)<|gd ((aR ns 5).drop<|e+1) j) (m:=1) (l:=aH<|L<|(aR ns 5).drop<|e+1) λj _=>(by unfold ju;split<;>simp);refine gl h1 ?_;rw[bnJ,oz];omega);simp_all);refine yV (L<|aR ns 5) (λk _ Y'=>∃q,bD Y' b w ns (O1++(aH k).flatMap (lP ns<|aR ns 5)) n wk q bm bo f/\Ad Y Y' b a q) (by grind) ?_;rintro k _ Y2 hk ⟨a2,B,A2⟩;have l2:=B2 k;simp only[qz 73,qy 30,au,eQ];refine⟨λh=>?_,λh=>?_⟩;have o:=aL h;have N:=az _<|dB o;rw[qB B.gw o];refine I7 B.le λW Y3 F3 N3 d3=>?_;refine cy (cs:=aH8.c<|gd (aR ns 5) k) d3 rfl rfl (by decide) λO F4 P=>?_;have aU:box O (5,W)=V ⟨107,3,U,U,[aH8.c<|gd (aR ns 5) k]⟩:=P;have al:Fx Y2 O []:=(F3.trans F4).mono (by grind [bK.no]);have A:=B.fx al;have ab:=A.bx;obtain⟨s,hs,H⟩:=slW A.gw o;have ah:((5,W):Id)≠b:=(by grind);have aB:dq.wrap ((k:Int)+1)=((k+1:Nat):Int):=fX (by omega);simp only[qz 32,aOe ab,eS,ab,rkC,aB,hs,(H O A.gw).1];refine yV (L<|(aR ns 5).drop<|k+1) (λj _ Y'=>∃q,bD Y' b w ns (O1++(aH k).flatMap (lP ns<|aR ns 5)++(aH j).flatMap λj=>ju ns (gd (aR ns 5) k)<|gd ((aR ns 5).drop<|k+1) j) n wk q bm bo f/\Ad Y Y' b a q/\box Y' (5,W)=V ⟨107,3,U,U,[aH8.c<|gd (aR ns 5) k]⟩) (by grind [Ad.fxn]) ?_;rintro j _ T hj ⟨a5,u,S,d5⟩;have l5:L ((aH j).flatMap λj=>ju ns (gd (aR ns 5) k)<|gd ((aR ns 5).drop<|k+1) j)<=j:=(by have:=jo (f:=λj=>ju ns (gd (aR ns 5) k)<|gd ((aR ns 5).drop<|k+1) j) (m:=1) (l:=aH j) λj _=>(by unfold ju;split<;>simp);simp_all);have bp:L ((aR ns 5).drop<|k+1)<=1000:=(by grind);simp only[qz 109,au,eQ,qz 131,qy 34];refine⟨λh2=>?_,λh2=>?_⟩;have F:=aL h2;have aC:gd ((aR ns 5).drop<|k+1) j∈ns:=(by grind [dB]);rw[(H T u.gw).2 j F];refine I7 u.le λv7 Y6 F6 N6 d6=>?_;refine cy (cs:=aH8.c<|gd ((aR ns 5).drop<|k+1) j) d6 rfl rfl (by decide) λY7 F7 d7=>?_;have ae:box Y7 (7,v7)=V ⟨107,3,U,U,[aH8.c<|gd ((aR ns 5).drop<|k+1) j]⟩:=d7;have v:Fx T Y7 []:=(F6.trans F7).mono (by grind [bK.no]);have D:=u.fx v;have y:=v.kq d5;simp only[qz 36,eT,ae,y,z];refine⟨λh3=>?_,λh3=>?_⟩;refine lq D t N ?_;simp only[qz 38,de t,aY,u1,ae,z];refine lq D t aC ?_;simp only[qz 40,de t,aY,fi,bQ,qz 42];refine bid D (by grind) [_,_] (by simp) λZ Y8 C8 A8=>?_;simp only[qz 44];refine dT ?_ ?_;have:=C.sb;clear ah;obtain⟨E,R⟩:=b;simp only at this;subst this;simp[eL,lb,cq,zt,dC,dK];simp only[qz 129,aI,au,cS,aY];refine dR (p:=0) (mk:=λ_ i=>[iv i]) (s:=()) (s':=()) (λ_ _=>rfl) F (by omega) ⟨Z,?_,(S.fxn v).trans A8,A8.keep y ah<|D.ne y<|.inl rfl⟩;grind [amt,ju];simp only[qz 129,aI,au,cS,aY];refine dR (p:=0) (mk:=λ_ i=>[iv i]) (s:=()) (s':=()) (λ_ _=>rfl) F (by omega) ⟨a5,?_,S.fxn v,y⟩;grind [amt,ju];have aA:j=L ((aR ns 5).drop<|k+1):=(by grind);subst aA;refine dR (p:=0) (mk:=λ_ i=>[iv i]) (s:=()) (s':=()) (λ_ _=>rfl) o (by omega) ⟨a5,?_,S⟩;rw[amt,<-bje];exact u;have G:k=L (aR ns 5):=(by grind);subst G;have aa:=B.bx;simp only[aOe aa,eS,aa,rkC,lnI B.gw,bJ];generalize b0:O1++(aH<|L<|aR ns 5).flatMap (lP ns<|aR ns 5)=O2 at*;have bO:L O2<501010000:=(by grind);have B3:∀k,L ((aH k).flatMap<|lQ ns w<|aR ns 5)<=k*1000:=λk=>(by have:=jo (f:=lQ ns w<|aR ns 5) (m:=1000) (l:=aH k) λe _=>(by have h1:=jo (f:=λj=>jk ns w (gd (aR ns 5) e)<|gd ((aR ns 5).drop<|e+1) j) (m:=1) (l:=aH<|L<|(aR ns 5).drop<|e+1) λj _=>(by unfold jk;split<;>simp);refine gl h1 ?_;rw[bnJ,oz];omega);simp_all);refine yV (L<|aR ns 5) (λk _ Y'=>∃q,bD Y' b w ns (O2++(aH k).flatMap (lQ ns w<|aR ns 5)) n wk q bm bo f/\Ad Y Y' b a q) (by grind) ?_;rintro k _ Y2 hk ⟨a2,B,A2⟩;have l2:=B3 k;simp only[qz 157,qy 46,au,eQ];refine⟨λh=>?_,λh=>?_⟩;have o:=aL h;have N:=az _<|dB o;rw[qB B.gw o];refine I7 B.le λW Y3 F3 N3 d3=>?_;refine cy (cs:=aH8.c<|gd (aR ns 5) k) d3 rfl rfl (by decide) λO F4 P=>?_;have aU:box O (9,W)=V ⟨107,3,U,U,[aH8.c<|gd (aR ns 5) k]⟩:=P;have al:Fx Y2 O []:=(F3.trans F4).mono (by grind [bK.no]);have A:=B.fx al;have ab:=A.bx;obtain⟨s,hs,H⟩:=slW A.gw o;have ah:((9,W):Id)≠b:=(by grind);have aB:dq.wrap ((k:Int)+1)=((k+1:Nat):Int):=fX (by omega);simp only[qz 48,aOe ab,eS,ab,rkC,aB,hs,(H O A.gw).1];refine yV (L<|(aR ns 5).drop<|k+1) (λj _ Y'=>∃q,bD Y' b w ns (O2++(aH k).flatMap (lQ ns w<|aR ns 5)++(aH j).flatMap λj=>jk ns w (gd (aR ns 5) k)<|gd ((aR ns 5).drop<|k+1) j) n wk q bm bo f/\Ad Y Y' b a q/\box Y' (9,W)=V ⟨107,3,U,U,[aH8.c<|gd (aR ns 5) k]⟩) ⟨a2,by grind,A2.fxn al,aU⟩ ?_;rintro j _ T hj ⟨a5,u,S,d5⟩;have l5:L ((aH j).flatMap λj=>jk ns w (gd (aR ns 5) k)<|gd ((aR ns 5).drop<|k+1) j)<=j:=(by have:=jo (f:=λj=>jk ns w (gd (aR ns 5) k)<|gd ((aR ns 5).drop<|k+1) j) (m:=1) (l:=aH j) λj _=>(by unfold jk;split<;>simp);simp_all);have bp:L ((aR ns 5).drop<|k+1)<=1000:=(by grind);simp only[qz 193,au,eQ,qz 215,qy 50];refine⟨λh2=>?_,λh2=>?_⟩;have F:=aL h2;have aC:gd ((aR ns 5).drop<|k+1) j∈ns:=(by grind [dB]);rw[(H T u.gw).2 j F];refine I7 u.le λv7 Y6 F6 N6 d6=>?_;refine cy (cs:=aH8.c<|gd ((aR ns 5).drop<|k+1) j) d6 rfl rfl (by decide) λY7 F7 d7=>?_;have ae:box Y7 (11,v7)=V ⟨107,3,U,U,[aH8.c<|gd ((aR ns 5).drop<|k+1) j]⟩:=d7;have v:Fx T Y7 []:=(F6.trans F7).mono (by grind [bK.no]);have D:=u.fx v;have y:=v.kq d5;have aT:=D.bx;simp+contextual only[qz 52,eT,ae,y,aOe aT,aT,rkC,ix,z];refine⟨(by grind [dB]),λh3=>?_,λh3=>?_⟩;refine lq D t N ?_;simp only[qz 54,de t,aY,u1,ae,z];refine lq D t aC ?_;simp only[qz 56,de t,aY,fi,bQ,qz 58];refine bid D (by grind) [_,_] (by simp) λZ Y8 C8 A8=>?_;simp only[qz 60];refine dT ?_ ?_;have:=C.sb;clear ah;obtain⟨E,R⟩:=b;simp only at this;subst this;simp[eL,lb,cq,zt,dC,dK];simp only[qz 213,aI,au,cS,aY];refine dR (p:=0) (mk:=λ_ i=>[iv i]) (s:=()) (s':=()) (λ_ _=>rfl) F (by omega) ⟨Z,?_,(S.fxn v).trans A8,A8.keep y ah<|D.ne y<|.inl rfl⟩;grind [amt,jk];simp only[qz 213,aI,au,cS,aY];refine dR (p:=0) (mk:=λ_ i=>[iv i]) (s:=()) (s':=()) (λ_ _=>rfl) F (by omega) ⟨a5,?_,S.fxn v,y⟩;rw[amt,<-bje,jk,r9 (by simp_all),cL];exact D;have aA:j=L ((aR ns 5).drop<|k+1):=(by grind);subst aA;refine dR (p:=0) (mk:=λ_ i=>[iv i]) (s:=()) (s':=()) (λ_ _=>rfl) o (by omega) ⟨a5,?_,S⟩;rw[amt,<-bje];exact u;have G:k=L (aR ns 5):=(by grind);subst G;have aa:=B.bx;simp only[aOe aa,eS,aa,rkC,lnI B.gw,bJ];generalize b1:O2++(aH<|L<|aR ns 5).flatMap (lQ ns w<|aR ns 5)=O3 at*;have bR:L O3<502010000:=(by grind);have B4:∀x,L (qw ns w x)<=1001:=λx=>(by have h1:=jo (f:=bse ns w (aR ns 5) x) (m:=1) (l:=aH<|L<|(aR ns 5).filter<|eZ x) λj _=>(by simp[bse]);grind [qw]);have B5:∀k,L ((aH k).flatMap λk=>qw ns w<|gd (aR ns 5) k)<=k*1001:=λk=>(by have:=jo (f:=λk=>qw ns w<|gd (aR ns 5) k) (m:=1001) (l:=aH k) λe _=>B4 _;simp_all);refine yV (L<|aR ns 5) (λk _ Y'=>∃q,bD Y' b w ns (O3++(aH k).flatMap λk=>qw ns w<|gd (aR ns 5) k) n wk q bm bo f/\Ad Y Y' b a q) (by grind) ?_;rintro k _ Y3 hk ⟨a3,X,A3⟩;have l3:=B5 k;simp only[qz 235,qy 62,au,eQ];refine⟨λh=>?_,λh=>?_⟩;have o:=aL h;have l4:=B4<|gd (aR ns 5) k;rw[qB X.gw o];refine I7 X.le λW O F4 N4 P=>?_;refine cy (cs:=aH8.c<|gd (aR ns 5) k) P rfl rfl (by decide) λT F5 d5=>?_;have bk:box T (13,W)=V ⟨107,3,U,U,[aH8.c<|gd (aR ns 5) k]⟩:=d5;have aP:Fx Y3 T []:=(F4.trans F5).mono (by grind [bK.no]);have u:=X.fx aP;simp only[qz 64,eQ,bk,z];refine brT rfl (aDx u M Wk hw (dB o)<|by grind) λa6 Y6 C6 A6=>?_;simp only[qz 66,au,cS,aY];refine dR (p:=0) (mk:=λ_ i=>[iv i]) (s:=()) (s':=()) (λ_ _=>rfl) o (by omega) ⟨a6,?_,(A3.fxn aP).trans A6⟩;grind [amt];have G:k=L (aR ns 5):=(by grind);subst G;simp only[aNR,aoz];refine⟨a3,rfl,?_,A3⟩;grind
def oa(r:Nat)(x:aH8):Bool:=Q (x.kind=4)&&Q (x.a=(r:Int))
structure GU(w:am)(ns:List aH8):Prop where
 eq:∀r,r<L w.ac->fR (gd w.ac r)=U->ns.filter (oa r)=(dx w r).map λs=>(⟨4,(r:Int),s⟩:aH8)
 ok:∀r:Nat,∀s∈dx w r,0<=s->aF (L w.ac) s/\s≠(r:Int)
 ln:∀r:Nat,L (dx w r)<=1000
theorem aDV(C:bD Y b w ns out n wk a bm bo f)(M:jb w ns)(D:tP w)(S:GU w ns)(bt:∀k,k<L w.ac->aF (L w.aQ.ay) (gd w.ac k).aq)(hw:L w.ac<=16)(ho:L out+L ((aH<|L w.ac).flatMap<|gW ns w)<999990000):∃r Y1,mS Y b w ns out ((aH<|L w.ac).flatMap<|gW ns w) n wk a bm bo f r Y1/\cZ aS GG 89 [.p b 0 0] Y r Y1:=by have N:=M.ln;refine aKy C.le ?_;have bx:=C.bx;have al:∀{x:aH8},aN (V 3) (aH8.c x)=V (.a<|aH8.c x):=rfl;simp only[aOe bx,eS,bx,rkC];refine yV (L w.ac) (λk _ Y'=>∃Z,bD Y' b w ns (out++(aH k).flatMap (gW ns w)) n wk Z bm bo f/\Ad Y Y' b a Z) (by grind [Ad.refl]) ?_;rintro r _ Y1 hr ⟨a1,C1,A1⟩;simp only[qz 7,au,eQ];refine⟨λh=>?_,λh=>?_⟩;have m:=aL h;refine biR (λe=>∀E a8,bD E b w ns (out++(aH r).flatMap (gW ns w)++gW ns w r) n wk a8 bm bo f->Ad Y E b a a8->e [] E) ?_ λe ad=>?_;intro E a8 C8 A8;simp only[qz 27,aI,au,cS,aY];refine dR (p:=0) (mk:=λ_ i=>[iv i]) (s:=()) (s':=()) (λ_ _=>rfl) m (by omega) ⟨a8,?_,A8⟩;grind [amt];simp only[qz 29,qy 2,au,u0,ix,rk,bh];refine⟨dJ m,?_⟩;have l1:=fU (f:=gW ns w)<|show r+1<=L w.ac from m;rw[amt,a6G] at l1;refine I7 C1.le λv Y2 F2 N2 b2=>?_;refine cy (y:=7) (cs:=aP.c<|gd w.ac r) b2 rfl rfl (by decide) λY3 F3 b3=>?_;have be:box Y3 (3,v)=V ⟨62,7,U,U,[aP.c<|gd w.ac r]⟩:=b3;have aC:Fx Y1 Y3 []:=(F2.trans F3).mono (by grind [bK.no]);have C3:=C1.fx aC;have A3:=A1.fxn aC;simp only[qz 4,eQ,be,rk,ar,amn];refine⟨λh1=>?_,λh1=>?_⟩;refine ad Y3 a1 ?_ A3;grind [gW];have ak:fR (gd w.ac r)=U:=(by grind);have bn:gW ns w r=[[-lF ns r,lE ns r],-lF ns r::(dx w r).map (lS ns r)]++(aH<|L<|dx w r).flatMap (λj=>iP ns w r<|gd (dx w r) j):=(by grind [gW]);have aG:=M.fx _ (dJ m) (by simpa using ak);have hS:=S.eq r m ak;have ca:=S.ln r;have bl:=S.ok r;rw[bn] at l1 ad;simp only[a6G,bZ,aO6] at l1;refine AQ C3 N aG ?_;simp only[qz 6,de N,aY,au];refine gq C3 N (M.ex _<|dJ m) ?_;simp only[qz 8,fi,bQ,qz 10];refine bid C3 (by grind) [_,_] (by simp) λa4 Y4 B A4=>?_;simp only[qz 12,au];refine AQ B N aG ?_;have aD:=B.bx;simp only[qz 14,de N,aY,a5Y,bQ];obtain⟨t,o',rfl⟩:=B.nm;simp only[qz 16,aOe aD,eS,aD,rkC,gT];refine jD (α:=AV×AV) (λa i=>[a.1,a.2,iv i]) 2 (L ns) (λk a Y'=>gA Y' 3 1 a.1 ((-lF ns r::((ns.take k).filter<|oa r).map (dP ns)).map ci)/\bc Y' 107 3 a.2 (((ns.take k).filter<|oa r).map aH8.c)/\Fx Y4 Y' []/\(∀q∈aA a.1,bK Y4 q/\q.1=66)/\∀q∈aA a.2,bK Y4 q/\q.1=60) (s0:=(_, .l [] U U)) ⟨.inl ⟨U,rfl⟩,bc.nil,Fx.refl _ _,by simp[aA],by simp[aA]⟩ ?_;rintro k ⟨y,o⟩ Y5 hk ⟨gy,go,F5,Py,Po⟩;simp only at gy go Py Po;have C5:=B.fx F5;simp only[qz 79,au,eQ,qz 101,qy 18,lX,rk,bh];refine⟨λh2=>⟨vp h2,?_⟩,λh2=>?_⟩;have z:=aL h2;refine I7 C5.le λv7 Y6 F6 N6 d6=>?_;refine cy (cs:=aH8.c<|gd ns k) d6 rfl rfl (by decide) λX F7 d7=>?_;have aE:box X (7,v7)=V ⟨107,3,U,U,[aH8.c<|gd ns k]⟩:=d7;have O:Fx Y5 X []:=(F6.trans F7).mono (by grind [bK.no]);have P:=F5.trans O;have C7:=B.fx P;have bi:=gy.fx O (by simp);have G:=go.fx O (by simp);have cd:L ((ns.take k).filter<|oa r)<=k:=(by grind);simp+contextual only[qz 20,qy 22,eT,aE,al,Db];refine⟨λhb=>?_,λhb=>?_⟩;refine gD G rfl (by decide) (by rw[C7.le];decide) uT uT (by grind) λo8 E g8 T cc bs=>?_;have W:Fx Y4 E []:=(P.trans T).mono (by grind [bK.no]);have d8:=T.keep _ _ (λA=>by have:=(Po _ A).2;simp at this) aE;have bj:=bi.fx T (by grind);simp only[qz 24,eQ,d8,al];refine lq (B.fx W) N (dB z) ?_;simp only[qz 26,qy 28,qy 30,a5Y,bQ,au];refine bsk bj rfl (by decide) (by rw[W.len,B.le];decide) fF fF (by grind) λy9 Y9 g9 F9 br=>?_;simp only[qz 99,aI,au,ck,nr,cS,aY];refine dR (p:=2) (mk:=λ(a:AV×AV) i=>[a.1,a.2,iv i]) (s:=(y,o)) (s':=(y9,o8)) (λ_ _=>rfl) z (by omega) ⟨?_,?_,(W.trans F9).mono (by grind [bK.no]),λq A=>?_,λq A=>?_⟩;rw[pH z,sz<|by grind [oa]];grind;rw[pH z,sz (by grind [oa]),dg];refine g8.fx F9 λq A ah=>?_;have h1:=(Py q ah).2;rcases bs q A with F|F;grind;omega;rcases br q A with F|F;exact Py q F;grind [bK.old];refine⟨?_,by grind⟩;grind [bK.old];simp only[qz 99,aI,au,ck,nr,cS,aY];have cb:¬oa r (gd ns k)=U:=(by grind [oa]);refine dR (p:=2) (mk:=λ(a:AV×AV) i=>[a.1,a.2,iv i]) (s:=(y,o)) (s':=(y,o)) (λ_ _=>rfl) z (by omega) ⟨?_,?_,P,Py,Po⟩;grind [pH];grind [pH];have ag:k=L ns:=(by grind);subst ag;rw[gV,hS] at gy go;have bp:(-lF ns r::((dx w r).map λs=>(⟨4,(r:Int),s⟩:aH8)).map (dP ns))= -lF ns r::(dx w r).map (lS ns r):=(by simp);rw[bp] at gy;have bq:∀j,j<L (dx w r)->gd ((dx w r).map λs=>(⟨4,(r:Int),s⟩:aH8)) j=⟨4,(r:Int),gd (dx w r) j⟩:=(by grind [bT]);have a0:∀s∈dx w r,(⟨4,(r:Int),s⟩:aH8)∈ns:=λs hs=>(by have:(⟨4,(r:Int),s⟩:aH8)∈ns.filter (oa r):=(by grind);grind);refine Ea C5 (by grind) _ gy (by simp;omega) (by grind) λa6 Y6 C6 A6=>?_;have b7:=((A3.trans A4).fxn F5).trans A6;have H:∀{Ya Yb:ae} {aa ab:AV} {oo:List (d0)},bD Ya b w ns oo (.l (ns.map aH8.c) t o') wk aa bm bo f->Ad Ya Yb b aa ab->bc Ya 107 3 o (((dx w r).map λs=>(⟨4,(r:Int),s⟩:aH8)).map aH8.c)->bc Yb 107 3 o (((dx w r).map λs=>(⟨4,(r:Int),s⟩:aH8)).map aH8.c):=(by intro Ya Yb aa ab oo Ca Aa g;refine g.fx Aa.fx λq A ah=>?_;rcases eW.1 ah with h|h;grind [bD.sb];exact Ca.ne (g.ids q A) (.inr<|by simp) h);have bg:=H C5 A6 go;simp only[qz 32,ck,u0,lnI bg,bJ];refine yV (L<|dx w r) (λj _ Y'=>∃Z,bD Y' b w ns (out++(aH r).flatMap (gW ns w)++[[-lF ns r,lE ns r],-lF ns r::(dx w r).map (lS ns r)]++(aH j).flatMap λj=>iP ns w r<|gd (dx w r) j) (.l (ns.map aH8.c) t o') wk Z bm bo f/\Ad Y Y' b a Z/\bc Y' 107 3 o (((dx w r).map λs=>(⟨4,(r:Int),s⟩:aH8)).map aH8.c)) (by grind) ?_;rintro j _ X hj ⟨a7,C7,A7,G⟩;simp only[qz 133,qy 34,au,eQ];refine⟨λF=>?_,λF=>?_⟩;have u:=aL F;have l7:=fU (f:=λj=>iP ns w r<|gd (dx w r) j)<|show j+1<=L (dx w r) from u;rw[amt,a6G] at l7;rw[qB G (by grind),bq j u];refine I7 C7.le λv9 E T N8 d8=>?_;refine cy (cs:=aH8.c ⟨4,(r:Int),gd (dx w r) j⟩) d8 rfl rfl (by decide) λY9 F9 d9=>?_;have bf:box Y9 (9,v9)=V ⟨107,3,U,U,[aH8.c ⟨4,(r:Int),gd (dx w r) j⟩]⟩:=d9;have R:Fx X Y9 []:=(T.trans F9).mono (by grind [bK.no]);have C9:=C7.fx R;simp only[qz 36,eQ,bf,al];refine aEj C9 M D bt hw m ak (a0 _<|dB u) (bl _<|dB u) (by grind [a6G,bZ,aO6]) λbb b9 b8 aB=>?_;simp only[qz 38,au,cS,aY];refine dR (p:=0) (mk:=λ_ i=>[iv i]) (s:=()) (s':=()) (λ_ _=>rfl) u (by omega) ⟨bb,?_,(A7.fxn R).trans aB,H C9 aB<|G.fx R<|by simp⟩;grind [amt];refine ad X a7 ?_ A7;grind;have ag:r=L w.ac:=(by grind);subst ag;exact⟨a1,rfl,C1,A1⟩
structure Sd(N:Nat)(p q:bp):Prop where
 prel:0<=p.dY->aF N p.dY
 held:p.dD<0->q.dD<0\/(0<=p.dY/\aF N p.dY/\aF N q.dD/\p.dY≠q.dD)
 own:0<=p.dD->aF N p.dD/\aF N q.dD/\p.dD≠q.dD/\(0<=p.dY->aF N p.dY/\p.dY≠q.dD)/\(0<=q.dY->aF N q.dY/\q.dY≠p.dD)
theorem aE1{p q}:L (iA ns p q)<=4:=by grind [iA,jI]
theorem anl(C:bD Y b w ns out n wk a bm bo f)(M:jb w ns){l t o}(hl:L l<=100)(hS:∀i j,i<j->j<L l->(gd l i).aq≠(gd l j).aq->¬((gd l i).read=U/\(gd l j).read=U)->Sd (L w.ac) (gd l i) (gd l j))(ho:L out<800000000):∃r X,mS Y b w ns out (rL ns l) n wk a bm bo f r X/\cZ aS GG 84 [.p b 0 0, .l (l.map bp.c) t o] Y r X:=by have hn:=M.ln;refine aKc C.le ?_;have AG:∀{Y:ae} {i:Int} {K:cC} {l:List bp} {t o:Bool},rV (cz 4 Y (.l (l.map bp.c) t o)<|iv i) K=(aF (L l) i/\K (.q<|bp.c<|gd l i.toNat)):=λ{Y i K l t o}=>aBz (Y:=Y) (f:=bp.c) λ_=>rfl;have W:∀i k,L ((aH k).flatMap λj=>iA ns (gd l i)<|gd (l.drop<|i+1) j)<=k*4:=λi k=>(by have:=jo (f:=λj=>iA ns (gd l i)<|gd (l.drop<|i+1) j) (m:=4) (l:=aH k) λe _=>aE1;simp_all);have ao:∀k,L ((aH k).flatMap<|mw ns l)<=k*400:=λk=>(by have:=jo (f:=mw ns l) (m:=400) (l:=aH k) λe _=>(by refine gl (W e _) ?_;grind);simp_all);simp only[gT,u0];refine yV (L l) (λk _ Y'=>∃O,bD Y' b w ns (out++(aH k).flatMap (mw ns l)) n wk O bm bo f/\Ad Y Y' b a O) (by grind [Ad.refl]) ?_;rintro k _ X hk ⟨a1,C1,A1⟩;have l1:=ao k;simp only[qz 7,qy 2,au,eQ,AG,D2,bh];refine⟨λh=>⟨vp h,?_⟩,λh=>?_⟩;have aJ:=aL h;refine I7 C1.le λv5 Y2 F2 N2 b2=>?_;refine cy (y:=4) (cs:=bp.c<|gd l k) b2 rfl rfl (by decide) λY3 F3 b3=>?_;have bd:box Y3 (5,v5)=V ⟨220,4,U,U,[bp.c<|gd l k]⟩:=b3;have ar:Fx X Y3 []:=(F2.trans F3).mono (by grind [bK.no]);have C3:=C1.fx ar;have aC:((5,v5):Id)≠b:=(by grind [bD.sb]);simp only[qz 4,au,cS,aY];rw[fX (by omega),slS,bh];refine⟨(by omega),?_⟩;simp only[gT,u0];refine yV (L<|l.drop<|k+1) (λj _ Y'=>∃O,bD Y' b w ns (out++(aH k).flatMap (mw ns l)++(aH j).flatMap λj=>iA ns (gd l k)<|gd (l.drop<|k+1) j) n wk O bm bo f/\Ad Y Y' b a O/\box Y' (5,v5)=V ⟨220,4,U,U,[bp.c<|gd l k]⟩) (by grind [Ad.fxn]) ?_;rintro j _ Y4 hj ⟨a4,C4,A4,b4⟩;have l4:=W k j;have be:L (l.drop<|k+1)<=100:=(by grind);simp only[qz 43,au,eQ];refine⟨λh2=>?_,λh2=>?_⟩;have A:=aL h2;refine biR (λg=>∀z B,bD z b w ns (out++(aH k).flatMap (mw ns l)++(aH j).flatMap (λj=>iA ns (gd l k)<|gd (l.drop<|k+1) j)++iA ns (gd l k) (gd (l.drop<|k+1) j)) n wk B bm bo f->Ad Y z b a B->box z (5,v5)=V ⟨220,4,U,U,[bp.c<|gd l k]⟩->g [] z) ?_ λg x=>?_;intro z B C8 A8 b8;simp only[qz 63,aI,au,cS,aY];refine dR (p:=0) (mk:=λ_ i=>[iv i]) (s:=()) (s':=()) (λ_ _=>rfl) A (by omega) ⟨B,?_,A8,b8⟩;grind [amt];simp only[qz 65,qy 6,au,u0,AG,D2,bh];refine⟨dJ A,?_⟩;have S:=hS k (k+1+j) (by omega) (by rw[oz] at A;omega);have aK:gd l (k+1+j)=gd (l.drop<|k+1) j:=(by rw[oz] at A;rw[bT (by omega),bT (by simp_all),List.getElem_drop]);rw[aK] at S;refine I7 C4.le λv7 Y5 F5 N5 d5=>?_;refine cy (y:=4) (cs:=bp.c<|gd (l.drop<|k+1) j) d5 rfl rfl (by decide) λY6 F6 d6=>?_;have P:box Y6 (7,v7)=V ⟨220,4,U,U,[bp.c<|gd (l.drop<|k+1) j]⟩:=d6;have N:Fx Y4 Y6 []:=(F5.trans F6).mono (by grind [bK.no]);have H:=C4.fx N;have A6:=A4.fxn N;have Z:=N.kq b4;have aD:((7,v7):Id)≠b:=(by grind [bD.sb]);generalize gd l k=p at*;generalize gd (l.drop<|k+1) j=q at*;simp+contextual only[qz 8,qy 10,eS,Z,P,aoj,En,aok,Bj];have bg:L (out++(aH k).flatMap (mw ns l)++(aH j).flatMap λj=>iA ns p<|gd (l.drop<|k+1) j)<900000000:=(by grind);refine⟨λD=>?_,λD=>⟨λh4=>?_,λh4=>?_⟩⟩;refine x Y6 a4 ?_ A6 Z;simp only[fH,bN,aBY] at D;rw[iA,sz (by grind),cL];exact H;simp only[cP,aNK] at D;have T:¬(p.read=U/\q.read=U):=(by simp_all);have F:=S D.1 T;have v:=aNQ h4;have R:iA ns p q=uf ns p.dY q.dD:=(by rcases F.held v with E|⟨E,h6,h7,h8⟩;grind [iA,uf];have:=h7.1;rw[iA,r9 (by simp_all),sz v,uf,r9<|by omega]);rw[R] at x;refine aEe H M (by omega) (λu=>?_) (λu=>?_) ?_ λa7 Y7 C7 G=>x Y7 a7 C7 (A6.trans G) (by grind [Ad.keep,bD.ne]);exact F.prel u;rcases F.held v with E|⟨E,h6,h7,h8⟩;omega;exact h7;rcases F.held v with E|⟨E,h6,h7,h8⟩;exact .inr E;omega;simp only[cP,aNK] at D;have T:¬(p.read=U/\q.read=U):=(by simp_all);have F:=S D.1 T;have v:=bqL h4;obtain⟨q1,q2,q3,q4,q5⟩:=F.own (by omega);have R:iA ns p q=jI ns p.dD p.dY q.dD++jI ns q.dD q.dY p.dD:=(by have:=q2.1;rw[iA,r9 (by grind),r9 v]);rw[R] at x;refine anx H M (by omega) q1 q2 (λu=>(q4 u).1) q3 (λu=>(q4 u).2) λa7 Y7 C7 G=>?_;have b7:=G.keep Z aC<|H.ne Z<|.inl rfl;have d7:=G.keep P aD<|H.ne P<|.inl rfl;have bf:L (jI ns p.dD p.dY q.dD)<=2:=(by unfold jI;split<;>simp);simp only[qz 12,qy 14,eQ,b7,d7,Bj];refine anx C7 M (by grind) q2 q1 (λu=>(q5 u).1) (λe=>q3 e.symm) (λu=>(q5 u).2) λB z C8 A8=>x z B (by grind) ((A6.trans G).trans A8) (by grind [Ad.keep,bD.ne]);have aE:j=L (l.drop<|k+1):=(by grind);subst aE;refine dR (p:=0) (mk:=λ_ i=>[iv i]) (s:=()) (s':=()) (λ_ _=>rfl) aJ (by omega) ⟨a4,?_,A4⟩;rw[amt,<-bje];exact C4;have aG:k=L l:=(by grind);subst aG;simp only[aNR,aoz];exact⟨a1,rfl,C1,A1⟩
theorem anm(C:bD Y b w ns out n wk a bm bo f)(hn:L ns<100000):∃r m,(∃a1,r= .a [iv<|L w.ac,iv<|L ns,a1,a]/\bc m 86 3 a1 ((lL ns).map bqR.c)/\bc m 38 1 a (out.map λc=>[sl ci c])/\Fx Y m [])/\cZ aS GG 41 [.p b 0 0] Y r m:=by refine aKg C.le ?_;refine I7 C.le λv1 m Z N1 b1=>?_;have v:=C.fx Z;have bx:=v.bx;obtain⟨t,o,rfl⟩:=v.nm;simp only[qz 2,qy 4,aOe bx,eS,bx,rkC,gT];have ar:bM bud bqM [(0,iv<|L w.ac),(1,iv<|L ns),(3,a)]=V (.a [iv<|L w.ac,iv<|L ns, .l [] U U,a]):=(by simp[bM,aly,ms v.gr,zU]);simp only[ar,u0];refine I7 v.le λO Y2 F2 N2 b2=>?_;refine cy (y:=4) (cs:=[iv<|L w.ac,iv<|L ns, .l [] U U,a]) b2 rfl rfl (by decide) λu F3 b3=>?_;have am:box u (3,O)=V ⟨54,4,U,U,[[iv<|L w.ac,iv<|L ns, .l [] U U,a]]⟩:=b3;have z:Fx m u []:=(F2.trans F3).mono (by grind [bK.no]);have P:=v.fx z;have G:=P.bx;have ak:=z.kq b1;simp only[qz 6];refine dT ?_ ?_;have T:=C.sb;have az:=C.sa;have aw:=C.gr;clear bx G;obtain⟨a4,a5⟩:=b;simp only at T;subst T;rcases aw with⟨_,rfl⟩|⟨⟨d',v'⟩,rfl,_⟩;rfl;have:=az (d',v') (by simp[aA]);simp only at this;subst this;rfl;simp only[aOe G,eS,G,rkC,gT];have aD:∀{x y x2 R:AV},aN J ([x,y,x2,R].drop 2)=V x2:=rfl;have X:∀{x y x2 R:AV},aN (V 4) [x,y,x2,R]=V (.a [x,y,x2,R]):=rfl;have g:∀{l:List bqR},∀r∈l.map bqR.c,L r=3:=(by intro l r hr;obtain⟨x,_,rfl⟩:=dN.1 hr;rfl);refine yV (L ns) (λk _ Y'=>∃a1,box Y' (3,O)=V ⟨54,4,U,U,[[iv<|L w.ac,iv<|L ns,a1,a]]⟩/\bc Y' 86 3 a1 (((aR (ns.take k) 1).map λx=>(⟨x.a,x.b,-1⟩:bqR)).map bqR.c)/\Fx u Y' [(3,O)]/\∀q∈aA a1,bK u q/\q.1=42) ⟨_,am,bc.nil,Fx.refl _ _,by simp[aA]⟩ ?_;rintro k _ Y4 hk ⟨a1,m2,g1,B,P1⟩;have ay:=B.len.trans P.le;simp only[qz 25,qy 18,au,eQ,qz 47,qy 8,lX,rk,bh];refine⟨λh=>⟨vp h,?_⟩,λh=>?_⟩;have H:=aL h;refine I7 ay λv5 Y5 E N5 b5=>?_;refine cy (cs:=aH8.c<|gd ns k) b5 rfl rfl (by decide) λF F6 b6=>?_;have ao:box F (5,v5)=V ⟨107,3,U,U,[aH8.c<|gd ns k]⟩:=b6;have D:Fx Y4 F []:=(E.trans F6).mono (by grind [bK.no]);have N:=D.kq m2;have g6:=g1.fx D (by simp);have A:Fx u F [(3,O)]:=(B.trans D).mono (by simp);have ae:bM bue aM7 [(0,iv (gd ns k).a),(1,iv (gd ns k).b),(2,iv<|-1)]=V (.a<|bqR.c ⟨(gd ns k).a,(gd ns k).b,-1⟩):=rfl;have av:aX bt6 1 F [(0, .a<|bqR.c ⟨(gd ns k).a,(gd ns k).b,-1⟩)]=V (.l ([(⟨(gd ns k).a,(gd ns k).b,-1⟩:bqR)].map bqR.c) U U,F):=ua rfl rfl rfl (by decide) rfl (by decide);have S:=Qg (ns:=ns) (kd:=1) H;have a8:L (aR (ns.take k) 1)<=k:=(by grind [gC,aR]);simp only[qz 10,qy 12,eT,ao,N,aD,ae,av];refine⟨λhb=>?_,λhb=>?_⟩;refine gD g6 rfl (by decide) (by rw[A.len,P.le];decide) g g (by grind) λa7 Y7 g7 F7 a6 a9=>?_;have aC:((3,O):Id)∉aA a1:=(by grind);have W:=F7.keep _ _ aC N;simp only[qz 14,qy 16,eS,W];refine cy (y:=1) (j:=2) (cs:=[a7]) W (ms g7) rfl (by simp) λY8 F8 b8=>?_;have P7:∀q∈aA a7,bK u q/\q.1=42:=λq M=>(by refine⟨?_,by grind⟩;grind [bK.old]);simp only[qz 45,aI,au,cS,aY];refine dR (p:=0) (mk:=λ_ i=>[iv i]) (s:=()) (s':=()) (λ_ _=>rfl) H (by omega) ⟨a7,b8,?_,?_,P7⟩;rw[S,sz<|aNQ hb,dg,dg];exact g7.fx F8 (by grind);refine((A.trans F7).trans F8).mono ?_;grind [bK.no];simp only[qz 45,aI,au,cS,aY];refine dR (p:=0) (mk:=λ_ i=>[iv i]) (s:=()) (s':=()) (λ_ _=>rfl) H (by omega) ⟨a1,N,?_,A,P1⟩;rw[S,r9<|bqL hb,cL];exact g6;have ax:k=L ns:=(by grind);subst ax;rw[gV] at g1;have al:=B.kq ak;simp only[m2,eQ,X];refine cy (y:=4) (cs:=[iv<|L w.ac,iv<|L ns,a1,a]) al rfl rfl (by decide) λY5 E b5=>?_;have an:box Y5 (2,v1)=V ⟨54,4,U,U,[[iv<|L w.ac,iv<|L ns,a1,a]]⟩:=b5;simp only[an,eQ,X,aNR,aoz];refine⟨a1,rfl,g1.fx E (by grind),(P.gr.fx B<|λq M e=>by grind [bD.sa]).fx E (λq M e=>by grind [bD.sa]),(((Z.trans z).trans B).trans E).mono λq M=>?_⟩;simp only[dW,dF,cE] at M;rcases M with rfl|rfl;exact .inr (N2.old Z).no;exact .inr N1.no
end
def bsz:dO:=apw
def bsF:eJ bsz:=wS
def aBp:=@amn
def asS:=kW 10 [(3,([7],[1,2,3,6]))]
def aKj{c0 a1 b}:=yB1 62 7 3 bsF func161 asS c0 [.a c0,a1,b]
def aKk{c0 a1 b}:=yB1 62 7 3 bsF func162 asS c0 [.a c0,a1,b]
def aKw{c0}:=yB1 62 7 1 bsF func164 at1 c0 [.a c0]
def aKx{c0}:=yB1 62 7 1 bsF func165 at1 c0 [.a c0]
def as1:=kW 27 [(4,([9,22],[0,2,3,20,21])),(7,([9],[0,2,3,20,21,22])),(12,([43],[0,3,9,42])),(15,([],[0,3,9,42,43])),(19,([62],[0,3,9,12,42,43,60,61]))]
def aKs{a a1 b c}:=yB bsF func163 as1 [a,a1,b,c]
def asR:=kW 23 [(5,([6,29],[2,3,5,28])),(8,([6],[2,3,5,28,29])),(14,([6,44],[2,3,5,7,28,29,42,43])),(17,([6],[2,3,5,7,28,29,42,43,44]))]
def Hp b a c R:=(.mk _:NS bsz asR Tryz.f85 [.u, .u] [b,a] c R).p
def aI4{b a1:AV}{s0:ae}{R:be}(h:eV (bxA 88 1 s0 2 b) λc d=>eV (bxA 3 1 d 3 a1) λa e=>Hp c a e R):EB 85 [b,a1] s0 R:=zB asR bsF func85 h
def aKi{d a1:AV}{s0:ae}{R:be}(hs:L s0=4096)(l0:eY d=V [d])(l1:eY a1=V [a1])(h:∀(a:ae) (b c:Nat),Kp s0 a->(∀k,k≠2->k≠3->aZ a k=aZ s0 k)->(∀x,box s0 (2,b)≠V x)->(∀x,box s0 (3,c)≠V x)->box a (2,b)=V ⟨88,1,U,U,[[d]]⟩->box a (3,c)=V ⟨3,1,U,U,[[a1]]⟩->Hp (.p (2,b) 0 0) (.p (3,c) 0 0) a R):EB 85 [d,a1] s0 R:=by refine aI4 ?_;refine iN l0 rfl (by decide) (by decide) hs λq b f g0 n i=>?_;refine iN l1 rfl (by decide) (by decide) (f.len.trans hs) λa c g g1 o j=>?_;exact h a b c (Kp.trans f g) (λk l m=>(g1 k m).trans<|g0 k l) (λx e=>n x<|(Kp.refl _).keep _ _ e) (λx e=>o x<|f.keep _ _ e) (g.keep _ _ i) j
def as4:=kW 8 [(2,([3],[0]))]
def aKv{a}:=yB bsF func86 as4 [a]
def aB8{w}{u:Int}{l}{q:Int}(h:q∈fg w u l):∃x∈l,0<=x-gd w.init.count u.toNat/\x-gd w.init.count u.toNat<(L (aRQ w.ac u<|L w.ac):Int)/\q=gd (aRQ w.ac u<|L w.ac) (x-gd w.init.count u.toNat).toNat:=by unfold fg brv at h;grind [Er]
theorem an7{w}(h:xv w){k:Nat}(a:k<L w.ac){q:Int}{l}(j:∀x∈l,x∈(gd w.ac k).dI\/x∈(gd w.ac k).ep)(n:q∈fg w (gd w.ac k).aq l):aF (L w.ac) q/\fR (gd w.ac q.toNat)=U:=by obtain⟨x,o,v,y,rfl⟩:=aB8 n;obtain⟨s,u,e⟩:=h.rd k a x<|j x o;obtain⟨f,g⟩:=e (by omega);have c:=(h.wo.wo.named a).2;have d:=kA c.1;simp only[aOu,bJ,d] at f g;generalize z:(x-gd w.init.count (gd w.ac k).aq.toNat).toNat=m at*;have b:m<L (fj w.ac (gd w.ac k).aq k):=(by omega);obtain⟨r,A⟩:=QC (l:=w.ac) (t:=(gd w.ac k).aq) (show k<=L w.ac by omega);have i:gd (aRQ w.ac (gd w.ac k).aq<|L w.ac) m=((gd (fj w.ac (gd w.ac k).aq k) m:Nat):Int):=(by grind [aRQ,bT]);rw[i];have p:gd (fj w.ac (gd w.ac k).aq k) m<k:=(by have:=dB b;exact fq.1 (jW.1 this).1);refine⟨⟨by omega,by omega⟩,?_⟩;grind [bT]
def an6{w}(h:xv w)(l:hU w):tP w:=by have i:∀k,k<L w.ac->∀x,x∈(gd w.ac k).dI\/x∈(gd w.ac k).ep-> -1000<=x/\x<=1000:=λk a x d=>⟨(h.rd k a x d).1,(h.rd k a x d).2.1⟩;refine⟨h.ct.1,(by grind [xv.ct,ii]),λk a=>⟨?_,by grind⟩,λk a=>⟨?_,by grind⟩,(by grind [an7]),by grind [an7]⟩;(all_goals have c:=(h.wo.wo.en k a).2;simp only[bhO,bip,eH,cP,fK,aBY] at c;obtain⟨_,_,_,_,⟨f,g⟩,_⟩:=c;have j:=(h.wo.wo.named a).2);rcases oD (L (gd w.ac k).dI) with b|b;omega;have e:=yq f (L (gd w.ac k).dI-1) (by omega);grind [dB];rcases oD (L (gd w.ac k).ep) with b|b;omega;have e:=yq g (L (gd w.ac k).ep-1) (by omega);grind [dB]
theorem D5{w:am}{x}:x∈lr (L w.ac) (L w.ac)↔x.kind=1/\aF (L w.ac) x.a/\aF (L w.ac) x.b/\x.a≠x.b:=by obtain⟨kd,a,b⟩:=x;simp only[lr,nB,iI,fq,dN,jW,aBY,aH8.mk.injEq];constructor;rintro⟨i,g,j,⟨h,e⟩,rfl,rfl,rfl⟩;exact⟨rfl,⟨by omega,by omega⟩,⟨by omega,by omega⟩,e⟩;rintro⟨rfl,c,d,f⟩;refine⟨a.toNat,by have:=c.1;have:=c.2;omega,b.toNat,⟨by have:=d.1;have:=d.2;omega,?_⟩,rfl,kA c.1,kA d.1⟩;rw[kA c.1,kA d.1];exact f
theorem Qs{w x}:x∈cw w↔x∈lr (L w.ac) (L w.ac)\/x∈mK (L w.ac)\/x∈kh w.ac (L w.ac)\/x∈ki w (L w.ac)\/x∈jp w (L w.ac):=by grind [cw]
theorem D6{n x}:x∈mK n↔∃a:Nat,a<n/\x=⟨2,a,0⟩:=by grind [mK]
theorem D7{l n x}:x∈kh l n↔∃a:Nat,a<n/\fR (gd l a)=U/\x=⟨3,a,0⟩:=by grind [kh]
theorem ant{w n x}:x∈ki w n↔∃a:Nat,a<n/\∃s∈dx w a,x=⟨4,a,s⟩:=by grind [ki]
def anG{w}(b:L (cw w)<100000):jb w (cw w):=by refine⟨b,(by grind [Qs,D5]),λx a=>Qs.2<|.inr<|.inl<|D6.2 ⟨x.toNat,by have:=a.1;have:=a.2;omega,by rw[kA a.1]⟩,λx a c=>Qs.2<|.inr<|.inr<|.inl<|D7.2 ⟨x.toNat,by have:=a.1;have:=a.2;omega,c,by rw[kA a.1]⟩⟩
theorem D8{w n x}:x∈jp w n↔∃a:Nat,a<n/\pN (gd w.ac a)=U/\∃s∈mR w (gd w.ac a).bF (gd w.ac a).aq,x=⟨5,a,s⟩:=by simp only[jp,iI,fq,pR];grind
theorem yH{p k s}(h:s∈fw p k):∃i:Nat,i<k/\p i=U/\s=i:=by obtain⟨i,a,rfl⟩:=dN.1 h;grind
theorem anE{w}(a:L w.ac<=16)(g:L w.init.bW.ay<=4):L (cw w)<2000/\L (jp w<|L w.ac)<=320:=by have b:=AS (L w.ac)<|L w.ac;have c:=AT<|L w.ac;have d:=AU w.ac<|L w.ac;have e:=AW w<|L w.ac;have f:=Qv w<|L w.ac;have m1:=xn a a;have h:L w.ac*(1+L w.ac)<=16*17:=(by grind);have i:L w.ac*(L w.init.bW.ay+L w.ac)<=16*20:=xn a (by omega);simp only[cw,a6G];omega
theorem Qf{w}:aR (cw w) 5=jp w (L w.ac):=by have a:∀{l:List aH8} {k:Int},(∀x∈l,x.kind=k)->k≠5->l.filter (λx=>Q<|x.kind=5)=[]:=(by simp_all);have b:∀{l:List aH8},(∀x∈l,x.kind=5)->l.filter (λx=>Q<|x.kind=5)=l:=(by simp);simp only[aR,cw,me];rw[a (k:=1) (by grind [D5]) (by decide),a (k:=2) (by grind [D6]) (by decide),a (k:=3) (by grind [D7]) (by decide),a (k:=4) (by grind [ant]) (by decide),b<|by grind [D8]];simp
def Rq{w}(m:L w.ac<=16)(l:L w.init.bW.ay<=4):sE w (cw w):=by refine⟨λx b=>?_,by grind [Qf,anE]⟩;rw[Qf] at b;obtain⟨a,d,j,s,hs,rfl⟩:=D8.1 b;refine⟨⟨by simp,by simpa using d⟩,by grind,λc=>?_⟩;simp only at c⊢;rcases dF.1 hs with h|h;obtain⟨t,f,rfl⟩:=dN.1 h;grind [yH];obtain⟨i,g,k,rfl⟩:=yH h;refine⟨⟨by omega,by omega⟩,λe=>?_⟩;grind [wV]
theorem Kt{w}{r:Nat}{s:Int}(h:s∈dx w r):(s= -1\/0<=s)/\(0<=s->aF (L w.ac) s/\s≠(r:Int)):=by unfold dx at h;(cases a:(dh (r:Int) (L w.ac)&&fR (gd w.ac (r:Int).toNat)));grind;rw[a] at h;simp only[a7c] at h;rcases dF.1 h with h|h;grind;obtain⟨i,b,c,rfl⟩:=yH h;refine⟨.inr (by omega),λ_=>⟨⟨by omega,by omega⟩,λe=>?_⟩⟩;grind [mr,aTG]
def al6{α β:Type}{p}{f:α->List β}:∀{l:List α},(l.flatMap f).filter p=l.flatMap λa=>(f a).filter p
 |[]=>rfl
 |a::l=>by rw[Cz,Cz,me,al6]
def amd{β:Type}{f:Nat->List β}{r}:∀{n},(∀a,a≠r->f a=[])->(aH n).flatMap f=if r<n then f r else[]
 |0,_=>by simp
 |n+1,h=>by
  rw[amt,amd (n:=n) h]
  grind
def aId{w}(f:L w.ac<=16):GU w (cw w):=by refine⟨λr c d=>?_,λr s hs=>(Kt hs).2,by grind [vU]⟩;have b:∀{l:List aH8} {k:Int},(∀x∈l,x.kind=k)->k≠4->l.filter (oa r)=[]:=(by grind [RK,oa]);simp only[cw,me];rw[b (k:=1) (by grind [D5]) (by decide),b (k:=2) (by grind [D6]) (by decide),b (k:=3) (by grind [D7]) (by decide),b (l:=jp w<|L w.ac) (k:=5) (by grind [D8])<|by decide];simp only[dW,cL];rw[ki,al6,amd (r:=r)<|λa e=>?_,sz c];grind [GA,oa];grind [RK,oa]
def Ec{β:Type}{f:Nat->List β}:∀{n},(∀a,(f a).Nodup)->(∀a c,a≠c->∀x∈f a,x∉f c)->((aH n).flatMap f).Nodup
 |0,_,_=>by simp
 |n+1,b,d=>by
  rw[amt,xl]
  refine⟨Ec b d,b n,λx g y h e=>?_⟩
  grind
def wC{α β:Type}{f:α->β}{l:List α}(c:∀a b,f a=f b->a=b)(h:l.Nodup):(l.map f).Nodup:=by grind
theorem Qw{p k}:(fw p k).Nodup:=wC (λa b h=>by omega)<|Cr.filter _ GM
theorem aEo{w}{r:Nat}:(dx w r).Nodup:=by unfold dx;grind [Qw,yH]
theorem aEp{w c u}:(mR w c u).Nodup:=by grind [mR,iH,Qw,yH]
def aEm{w}:(cw w).Nodup:=by have f:(lr (L w.ac)<|L w.ac).Nodup:=(by refine Ec (λa=>?_) λa c e x b d=>?_;exact wC (λi j h=>by simp only[aH8.mk.injEq] at h;omega)<|Cr.filter _ GM;obtain⟨i,_,rfl⟩:=dN.1 b;obtain⟨j,_,h⟩:=dN.1 d;grind);have g:(mK<|L w.ac).Nodup:=wC (λi j h=>by simp only[aH8.mk.injEq] at h;omega) GM;have k:(kh w.ac<|L w.ac).Nodup:=wC (λi j h=>by simp only[aH8.mk.injEq] at h;omega)<|Cr.filter _ GM;have l:(ki w<|L w.ac).Nodup:=(by refine Ec (by grind [aEo]) λa c e x b d=>?_;grind);have m:(jp w<|L w.ac).Nodup:=(by refine Ec (λa=>?_) λa c e x b d=>?_;grind [pR,aEp];grind [pR]);have n:∀x∈lr (L w.ac) (L w.ac),x.kind=1:=λx b=>(D5.1 b).1;have o:∀x∈mK (L w.ac),x.kind=2:=(by grind [D6]);have p:∀x∈kh w.ac (L w.ac),x.kind=3:=(by grind [D7]);have q:∀x∈ki w (L w.ac),x.kind=4:=(by grind [ant]);have r:∀x∈jp w (L w.ac),x.kind=5:=(by grind [D8]);unfold cw;rw[xl,xl,xl,xl];grind
def gZ(w:pz)(lock:Int)(e:aP):Bool:=Q<|mM w lock e=lock
def boU(E:aP->Bool)(l:List aP)(x:bp)(i:Nat):Bool:=Q (x.dD<i)&&(Q ((gd l i).aq=x.aq)&&E (gd l i))
def fT(E:aP->Bool)(l:List aP)(x:bp):Nat->Int|0=> -1|k+1=>bif Q (fT E l x k<0)&&boU E l x k then k else fT E l x k
def gk(E:aP->Bool)(l:List aP)(k:Nat)(x:bp):bp:={x with dY:=fT E l x k}
theorem El{E l x}:∀{k},(∀i,i<k->boU E l x i=I)->fT E l x k= -1
 |0,_=>rfl
 |k+1,h=>by
  rw[fT,h k (by omega),qc,a5C,El<|by grind]
def aob{E l x i}(h:∀j,j<i->boU E l x j=I)(c:boU E l x i=U):∀{k},i<k->fT E l x k=i
 |0,b=>by omega
 |k+1,b=>by
  rcases jj i k with a|a
  ·rw[fT,aob h c a,bnk (by omega),Bool.false_and,a5C]
  grind [fT,El]
def an9{E l x}:∀{k},fT E l x k= -1\/∃i:Nat,i<k/\boU E l x i=U/\fT E l x k=i
 |0=> .inl rfl
 |k+1=>by
  rw[fT]
  cases d:(Q (fT E l x k<0)&&boU E l x k) with
  |true=>
   grind
  |false=>
   rw[a5C]
   rcases an9 (E:=E) (l:=l) (x:=x) (k:=k) with h|⟨i,a,b,c⟩
   ·exact .inl h
   grind
def oF(w:pz)(lock:Int)(l:List aP)(k:Nat):List bp:=(aH k).flatMap λi=>oY w lock (gd l i) i
def nu(w:pz)(s:aW)(lock:Int):List bp:=(aH<|L s.ay).flatMap<|bqD w s lock
theorem zL{w lock l k x}(h:x∈oF w lock l k):∃i:Nat,i<k/\lK w lock (gd l i)=lock/\x=⟨(gd l i).aq,i,-1,(dD w<|gd l i).2⟩:=by obtain⟨i,a,b⟩:=iI.1 h;grind [oY]
theorem uu{w s}{lock:Int}{x}(h:x∈nu w s lock):∃u:Nat,u<L s.ay/\x.aq=u/\x.dD= -1/\x.dY= -1/\(if lock=L w.ak then s.tx=u/\x.read=I else if x.read=U then(u:Int)∈(gd s.ak lock.toNat).bk else(gd s.ak lock.toNat).aNN=u):=by obtain⟨u,c,a⟩:=iI.1 h;refine⟨u,fq.1 c,?_⟩;unfold bqD at a;by_cases b:lock=L w.ak;simp_all;rw[r9 b] at a;rw[r9 b];rcases dF.1 a with a|a;grind [pJ];grind [pK]
def aos{w s l lock}:∀{k},dZ w s l lock k=(nu w s lock++oF w lock l k).map (gk (gZ w lock) l k)
 |0=>by
  simp only[dZ,oF,List.range_zero,RN,cL]
  refine(brw _).symm.trans (ja λx a=>?_)
  obtain⟨u,i,b,d,c,_⟩:=uu a
  cases x
  simp only at c
  subst c
  rfl
 |k+1=>by
  rw[dZ,aos]
  have e:∀x∈nu w s lock++oF w lock l k,x.dD<(k:Int):=by
   grind [uu,zL]
  have f:oF w lock l (k+1)=oF w lock l k++oY w lock (gd l k) k:=amt
  rw[f,<-bje]
  conv=>rhs;rw[dg]
  congr 1
  ·unfold tv
   by_cases g:mM w lock (gd l k)=lock
   ·rw[sz g,vA]
    refine ja λx a=>?_
    have:=e x a
    have h:fT (gZ w lock) l x (k+1)=bif Q (fT (gZ w lock) l x k<0)&&boU (gZ w lock) l x k then(k:Int) else fT (gZ w lock) l x k:=rfl
    by_cases b:x.aq=(gd l k).aq/\fT (gZ w lock) l x k<0
    ·have d:ma (gd l k).aq k (gk (gZ w lock) l k x)={gk (gZ w lock) l k x with dY:=k}:=sz b
     grind [gk,boU,gZ]
    ·have d:ma (gd l k).aq k (gk (gZ w lock) l k x)=gk (gZ w lock) l k x:=r9 b
     have c:(Q (fT (gZ w lock) l x k<0)&&boU (gZ w lock) l x k)=I:=by
      grind [boU]
     grind [gk]
   grind [ja,gk,fT,boU,gZ]
  ·refine(brw _).symm.trans (ja λx a=>?_)
   grind [oY,gk,El,boU]
def Q5{w s l}{lock:Int}:jE w s l lock=(nu w s lock++oF w lock l (L l)).map (gk (gZ w lock) l<|L l):=aos
def xo(w:pz)(Lw:Int)(s:aW)(x:bp):Prop:=
 if Lw=L w.ak then s.tx=x.aq/\x.read=I else if x.read=U then x.aq∈(cH s Lw).bk else(cH s Lw).aNN=x.aq
def alS{w s}{t a bF:Int}(h:jm w s t a bF=U):lc w s t a bF=U/\named w a bF=U/\aF (L w.ay) t/\lh w s=U:=by grind [jm,dX]
theorem aDe{s}{Lw:Int}{a}(h:aF (L s.ak) Lw):cH (J9 s Lw a) Lw=a:=Af h
def aDf{s i Lw a}(b:0<=i)(c:0<=Lw)(h:i≠Lw):cH (J9 s i a) Lw=cH s Lw:=by grind [cH,J9,gd]
theorem aFa{l t x}(h:x∈l\/x=t):x∈fk l t:=by induction l with|nil=>grind [fk]|cons y l a=>grind [fk]
def Qk{s i t Lw}:cH (ni s i t) Lw=cH s Lw:=rfl
def ane{Lw}:∀{l:d0} {s},cH (l.foldl (λs u=>Ab.ni s u {fA s u with cQ:=4}) s) Lw=cH s Lw|[],_=>rfl|u::l,s=>(ane (l:=l)).trans Qk
theorem apE:∀{l:d0} {s},(l.foldl (λs u=>Ab.ni s u {fA s u with cQ:=4}) s).tx=s.tx|[],_=>rfl|u::l,s=>(apE (l:=l)).trans rfl
theorem aIL{w s t a bF arm}(o:a≠12)(p:a≠13):(cU w s t a bF arm).1.tx=s.tx:=by unfold cU;rw[r9 o,r9 p];by_cases g:a=1;rw[sz g];rfl;rw[r9 g];by_cases i:a=2;rw[sz i];rfl;rw[r9 i];by_cases k:a=6\/a=10;rw[sz k];rfl;rw[r9 k];by_cases l:a=7\/a=11;rw[sz l];rfl;rw[r9 l];by_cases m:a=8;rw[sz m];rfl;rw[r9 m];by_cases n:a=9;rw[sz n];rfl;rw[r9 n];by_cases b:a=14;rw[sz b];rfl;rw[r9 b];by_cases c:a=15;rw[sz c];rfl;rw[r9 c];by_cases d:a=16;rw[sz d];rfl;rw[r9 d];by_cases e:a=17;rw[sz e];rfl;rw[r9 e];by_cases f:a=18;rw[sz f];split<;>rfl;rw[r9 f];by_cases h:a=19;grind [apE];rw[r9 h];by_cases j:a=20;rw[sz j];rfl;grind
theorem aDg{w s t a bF arm Lw}(h:¬(6<=a/\a<=11))(b:a≠16)(c:a≠17):cH (cU w s t a bF arm).1 Lw=cH s Lw:=by unfold cU;rw[r9 (show¬(a=6\/a=10) by omega),r9 (show¬(a=7\/a=11) by omega),r9 (show¬(a=8) by omega),r9 (show¬(a=9) by omega),r9 b,r9 c];(repeat' split);all_goals first|rfl|exact ane
def yu{w:pz}{s}{i Lw:Int}{a}{x:bp}(c:0<=i)(b:aF (L s.ak) Lw)(e:if x.read=U then x.aq∈(cH s Lw).bk else(cH s Lw).aNN=x.aq)(h:i=Lw->if x.read=U then x.aq∈a.bk else a.aNN=x.aq):if x.read=U then x.aq∈(cH (J9 s i a) Lw).bk else(cH (J9 s i a) Lw).aNN=x.aq:=by by_cases d:i=Lw;grind [aDe];rw[aDf c b.1 d];exact e
def aEW{w s e}{arm Lw:Int}{x}(r:jm w s e.aq e.kind e.bF=U)(t:0<=Lw/\Lw<=L w.ak)(E:∀l∈s.ak,jC l.bk)(G:0<=x.aq)(b:xo w Lw s x)(p:¬(x.aq=e.aq/\mM w Lw e=Lw)):xo w Lw (cU w s e.aq e.kind e.bF arm).1 x:=by
 obtain⟨A,f,F,u⟩:=alS r
 obtain⟨fc,fl,D,y⟩:=iY u
 unfold xo at b⊢
 by_cases n:Lw=L w.ak
 ·rw[sz n] at b⊢
  refine⟨?_,b.2⟩
  have k:mM w Lw e=bif Q (e.kind=13) then Lw else-1:=by rw[mM,bqH n];rfl
  by_cases B:e.kind=12
  ·grind [lc]
  grind [lc,aIL]
 ·rw[r9 n] at b⊢
  have z:aF (L w.ak) Lw:=⟨t.1,by omega⟩
  have d:aF (L s.ak) Lw:=by simp_all
  have k:mM w Lw e=(dY w e).1:=by rw[mM,bnk n];rfl
  have j:∀{c:Int},aF (L w.bC) c->0<=(gd w.bC c.toNat).eg/\sd w c=(gd w.bC c.toNat).eg:=(by grind [ii,sd,dX])
  by_cases H:e.kind=6\/e.kind=10
  ·have a:=mJ f (by omega) (by omega)
   have o:(gd s.ak e.bF.toNat).aNN= -1:=by
    grind [lc]
   rw[show(cU w s e.aq e.kind e.bF arm).1=J9 s e.bF {cH s e.bF with aNN:=e.aq} from by
    grind [cU]]
   refine yu (w:=w) a.1 d b λi=>?_
   grind [cH]
  by_cases K:e.kind=7\/e.kind=11
  ·have a:=mJ f (by omega) (by omega)
   have o:(gd s.ak e.bF.toNat).aNN=e.aq:=by
    grind [lc]
   rw[show(cU w s e.aq e.kind e.bF arm).1=J9 s e.bF {cH s e.bF with aNN:= -1} from by
    grind [cU]]
   refine yu (w:=w) a.1 d b λi=>?_
   grind [dY,cH]
  by_cases M:e.kind=8
  ·have a:=mJ f (by omega) (by omega)
   rw[show(cU w s e.aq e.kind e.bF arm).1=J9 s e.bF {cH s e.bF with bk:=mP (cH s e.bF).bk [e.aq]} from by
    grind [cU]]
   refine yu (w:=w) a.1 d b λi=>?_
   grind [cH,Ro,ii,aFa]
  by_cases v:e.kind=9
  ·have a:=mJ f (by omega) (by omega)
   rw[show(cU w s e.aq e.kind e.bF arm).1=J9 s e.bF {cH s e.bF with bk:=fJ (cH s e.bF).bk e.aq} from by
    grind [cU]]
   refine yu (w:=w) a.1 d b λi=>?_
   have m:(dY w e).1=e.bF:=by simp[dY,v]
   subst i
   split
   ·rename_i g;rw[sz g] at b
    simp only
    refine jW.2 ⟨b,bqH λh=>p ⟨h,by rw[k,m]⟩⟩
   simp_all
  by_cases q:e.kind=16
  ·have a:=oT f (by omega) (by omega)
   have o:(gd s.ak (gd w.bC e.bF.toNat).eg.toNat).aNN=e.aq:=by
    grind [lc]
   rw[show(cU w s e.aq e.kind e.bF arm).1=ni (J9 s (gd w.bC e.bF.toNat).eg {cH s (gd w.bC e.bF.toNat).eg with aNN:= -1}) e.aq {fA s e.aq with cQ:=3,cond:=e.bF} from by
    grind [cU]]
   rw[Qk]
   refine yu (w:=w) (j a).1 d b λi=>?_
   have m:(dY w e).1=(gd w.bC e.bF.toNat).eg:=by simp[dY,q,(j a).2]
   subst i
   split
   ·rename_i g;rw[sz g] at b;exact b
   ·rename_i g;rw[r9 g] at b;rw[cH] at b
    exact aRI ⟨by omega,by rw[k,m]⟩ p
  by_cases C:e.kind=17
  ·have a:=oT f (by omega) (by omega)
   have o:(gd s.ak (gd w.bC e.bF.toNat).eg.toNat).aNN= -1:=by
    grind [lc]
   rw[show(cU w s e.aq e.kind e.bF arm).1=ni (J9 s (gd w.bC e.bF.toNat).eg {cH s (gd w.bC e.bF.toNat).eg with aNN:=e.aq}) e.aq {fA s e.aq with cQ:=2,cond:=0} from by
    grind [cU]]
   rw[Qk]
   refine yu (w:=w) (j a).1 d b λi=>?_
   grind [cH]
  grind [aDg]
def asn{w s e}{Lw:Int}{p}(h:jm w s e.aq e.kind e.bF=U)(v:0<=Lw/\Lw<=L w.ak)(x:0<=p.aq)(c:xo w Lw s p)(k:lK w Lw e=Lw)(o:¬(p.read=U/\(dD w e).2=U))(g:Lw≠L w.ak->p.read=U->(gd w.ak Lw.toNat).rw=U)(d:∀j,j<L w.bC->uh w j=I):False:=by obtain⟨n,f,z,l⟩:=alS h;obtain⟨fc,fl,r,m⟩:=iY l;unfold xo at c;by_cases b:Lw=L w.ak;grind [lK,lc];rw[r9 b] at c;rw[lK,bnk b,a5C] at k;have A:=g b;by_cases B:e.kind=6\/e.kind=10;grind [lc,dD,named,cH];by_cases C:e.kind=8;grind [lc,dD,cH];by_cases q:e.kind=17;have a:=oT f (by omega) (by omega);have u:(gd s.ak (gd w.bC e.bF.toNat).eg.toNat).aNN= -1:=(by grind [lc]);have i:(gd w.bC e.bF.toNat).eg=Lw:=(by grind [dD,sd]);subst i;split at c;rename_i y;have t:=d e.bF.toNat (by have:=a.1;have:=a.2;omega);grind [uh];grind [cH];grind [dD]
theorem QP{E l x m}:∀{n},m<=n->fT E l x n<0->fT E l x m<0
 |0,h,b=>by simp_all
 |n+1,h,b=>by
  rcases jj n m with a|a
  ·grind
  ·refine QP a ?_
   grind [fT]
def axy{w}(h:mQ w=U):∀j,j<L w.bC->uh w j=I:=by grind [mQ]
theorem amB{w}(h:vL w){Lw:Int}(d:0<=Lw/\Lw<=L w.aQ.ak){y}(b:y∈nu w.aQ w.init.bW Lw):∀{k:Nat},k<=L w.ac->fT (gZ w.aQ Lw) w.ac y k<0->xo w.aQ Lw (cY w k).bW y
 |0,_,_=>by
  obtain⟨u,j,c,f,g,a⟩:=uu b
  rw[<-c] at a
  exact a
 |k+1,m,i=>by
  obtain⟨u,j,c,f,g,a⟩:=uu b
  have e:=QP (show k<=k+1 by omega) i
  have n:boU (gZ w.aQ Lw) w.ac y k=I:=by
   grind [fT]
  rw[aoF h<|by omega]
  refine aEW (Kk h<|by omega).1 d (by grind [kQ.rd,vL.sy]) (by omega) (amB h d b (by omega) e) λl=>?_
  grind [boU,gZ]
def Bx{w}(h:bdZ w=U):(∀j,j<L w.init.bW.ak->uD w j)/\yS w=I/\mQ w.aQ=U/\lh w.aQ w.init.bW=U/\L w.init.count=L w.aQ.ay:=by have a:=(aQA h).1;simp only[oh,cP,fK,aNK] at a;grind [ny,fN]
def amr{l}{f:bp->bp}{i:Nat}(h:i<L l):gd (l.map f) i=f (gd l i):=by grind [bT]
def amq{A B:List bp}{i:Nat}(h:i<L (A++B)):(i<L A/\gd (A++B) i∈A)\/(L A<=i/\gd (A++B) i∈B):=by grind [bT]
theorem anV{w}(R:hU w)(G:bdZ w=U){Lw:Int}(M:0<=Lw/\Lw<=L w.aQ.ak):∀i j,i<j->j<L (jE w.aQ w.init.bW w.ac Lw)->(gd (jE w.aQ w.init.bW w.ac Lw) i).aq≠(gd (jE w.aQ w.init.bW w.ac Lw) j).aq->¬((gd (jE w.aQ w.init.bW w.ac Lw) i).read=U/\(gd (jE w.aQ w.init.bW w.ac Lw) j).read=U)->Sd (L w.ac) (gd (jE w.aQ w.init.bW w.ac Lw) i) (gd (jE w.aQ w.init.bW w.ac Lw) j):=by have O:=vd R G;obtain⟨C,ag,H,B,ab⟩:=Bx G;obtain⟨fc,fl,fd,X⟩:=iY B;rw[Q5];intro i j ad r;simp only[bJ] at r;rw[amr (show i<_ by omega),amr r];have ci:=amq (show i<L (nu w.aQ w.init.bW Lw++oF w.aQ Lw w.ac (L w.ac)) by omega);have c:=amq r;generalize gd (nu w.aQ w.init.bW Lw++oF w.aQ Lw w.ac (L w.ac)) i=p at ci⊢;generalize gd (nu w.aQ w.init.bW Lw++oF w.aQ Lw w.ac (L w.ac)) j=q at c⊢;simp only[gk];intro d n;have g:∀y:bp,0<=fT (gZ w.aQ Lw) w.ac y (L w.ac)->aF (L w.ac) (fT (gZ w.aQ Lw) w.ac y<|L w.ac)/\(gd w.ac (fT (gZ w.aQ Lw) w.ac y<|L w.ac).toNat).aq=y.aq:=(by intro y f;rcases an9 (E:=gZ w.aQ Lw) (l:=w.ac) (x:=y) (k:=L w.ac) with h|⟨a,z,hs,he⟩;omega;grind [boU,dJ]);refine⟨λh=>(g p h).1,λs=>?_,λs=>?_⟩;rcases c with⟨_,c⟩|⟨_,c⟩;grind [uu];obtain⟨m,S,A,rfl⟩:=zL c;simp only at d n⊢;have cp:p∈nu w.aQ w.init.bW Lw:=(by rcases ci with⟨_,ci⟩|⟨_,ci⟩;exact ci;obtain⟨m',ae,_,rfl⟩:=zL ci;simp only at s;omega);have af:0<=fT (gZ w.aQ Lw) w.ac p (L w.ac):=(by rcases Int.lt_or_le (fT (gZ w.aQ Lw) w.ac p<|L w.ac) 0 with f|f;exfalso;obtain⟨u,F,t,o,v,K⟩:=uu cp;refine asn (Kk O S).1 M (by omega) (by grind [amB,QP]) A n (λN D=>?_)<|axy H;rw[r9 N,sz D] at K;have h5:=(C Lw.toNat<|by omega).1;grind [AM];exact f);grind [dJ];simp only at s;obtain⟨a,z,Z,rfl⟩:∃a:Nat,a<L w.ac/\lK w.aQ Lw (gd w.ac a)=Lw/\p=⟨(gd w.ac a).aq,a,-1,(dD w.aQ<|gd w.ac a).2⟩:=(by rcases ci with⟨_,ci⟩|⟨_,ci⟩;obtain⟨u,F,t,o,v,_⟩:=uu ci;omega;exact zL ci);obtain⟨b,P,aa,rfl⟩:∃a:Nat,a<L w.ac/\lK w.aQ Lw (gd w.ac a)=Lw/\q=⟨(gd w.ac a).aq,a,-1,(dD w.aQ<|gd w.ac a).2⟩:=(by rcases ci with⟨T,ci⟩|⟨T,ci⟩;obtain⟨u,F,t,o,v,_⟩:=uu ci;simp only at o;omega;rcases c with⟨W,c⟩|⟨W,c⟩;omega;exact zL c);simp only at d⊢;refine⟨dJ z,dJ P,λe=>d ?_,λf=>⟨(g _ f).1,λe=>d ?_⟩,λf=>⟨(g _ f).1,λe=>d ?_⟩⟩;grind;grind;grind
def sJ(w:pz)(lock:Int)(e:aP):Bool:=bif Q (e.kind=6)||(Q (e.kind=8)||Q (e.kind=10)) then Q (e.bF=lock) else bif Q (e.kind=17) then Q ((gd w.bC e.bF.toNat).eg=lock) else I
def sQ(w:pz)(lock:Int)(e:aP):Bool:=bif Q (e.kind=7)||(Q (e.kind=9)||Q (e.kind=11)) then Q (e.bF=lock) else bif Q (e.kind=16) then Q ((gd w.bC e.bF.toNat).eg=lock) else I
def tG(x:bp):bp:={x with dY:=0}
def aoc{E l x}:∀{n},fT E l (tG x) n=fT E l x n
 |0=>rfl
 |n+1=>by simp only[fT,aoc (n:=n)];rfl
theorem aMY{E l n x}:gk E l n (tG x)=gk E l n x:=by simp only[gk,aoc];rfl
theorem aoa{E a l x}:∀{n},(∀i,i<n->E (gd l i)=a (gd l i))->fT E l x n=fT a l x n
 |0,_=>rfl
 |n+1,h=>by
  have c:=aoa (x:=x) (n:=n) λi b=>h i (by omega)
  grind [fT,boU]
def mq(B:aP->Bool)(l:List aP)(k:Nat):List bp:=(aH k).flatMap λi=>if B (gd l i)=U then[⟨(gd l i).aq,i,0,Q<|(gd l i).kind=8⟩] else[]
def aso{w e}:(dD w e).2=Q (e.kind=8):=by grind [dD]
def awn{w Lw l B k}(h:∀i,i<k->B (gd l i)=Q (lK w Lw (gd l i)=Lw)):mq B l k=(oF w Lw l k).map tG:=by unfold mq oF;rw[RT];have:∀(m:Nat),m<=k->(aH m).flatMap (λi=>if B (gd l i)=U then[(⟨(gd l i).aq,i,0,Q<|(gd l i).kind=8⟩:bp)] else[])=(aH m).flatMap λi=>(oY w Lw (gd l i) i).map tG:=(by intro m;induction m with|zero=>intro _;rfl|succ m b=>intro c;rw[amt,amt,b (by omega)];congr 1;rw[h m (by omega),oY];by_cases a:lK w Lw (gd l m)=Lw;rw[sz<|bqH a,sz a,aso];rfl;simp_all);simp_all
def aor{w s l}{Lw:Int}{H B E}(b:H=(nu w s Lw).map tG)(a:∀i,i<L l->B (gd l i)=Q (lK w Lw (gd l i)=Lw))(c:∀i,i<L l->E (gd l i)=Q (mM w Lw (gd l i)=Lw)):(H++mq B l (L l)).map (gk E l<|L l)=jE w s l Lw:=by rw[Q5,b,awn a,<-dg,vA];refine ja λx _=>?_;grind [aMY,gk,aoa,gZ]
def qH(s:aW)(lock:Int)(u j:Nat):List bp:=(((gd s.ak lock.toNat).bk.take j).filter λx:Int=>Q<|x=(u:Int)).map λ_=>⟨u,-1,0,U⟩
def qG(s:aW)(lock:Int)(u:Nat):List bp:=if(gd s.ak lock.toNat).aNN=u then[⟨u,-1,0,I⟩] else qH s lock u (L (gd s.ak lock.toNat).bk)
def qF(s:aW)(lock:Int)(k:Nat):List bp:=(aH k).flatMap<|qG s lock
def aBN{w s}{lock:Int}(c:lock≠L w.ak)(h:(gd s.ak lock.toNat).aNN≠-1->(gd s.ak lock.toNat).bk=[]):qF s lock (L s.ay)=(nu w s lock).map tG:=by unfold qF nu;rw[RT];have b:qG s lock=λu=>(bqD w s lock u).map tG:=(by funext u;rw[qG,bqD,r9 c,pJ];by_cases a:(gd s.ak lock.toNat).aNN=u;rw[sz a,sz a,pK,h<|by omega];rfl;rw[r9 a,r9 a,pK,qH,dW,vA];rfl);rw[b]
def sZ(s:aW):List bp:=if 0<=s.tx then[⟨s.tx,-1,0,I⟩] else[]
def aBP{w s}(h:s.tx≠-1->aF (L s.ay) s.tx):sZ s=(nu w s<|L w.ak).map tG:=by unfold sZ nu;rw[RT];have c:∀n:Nat,(aH n).flatMap (λu=>(bqD w s (L w.ak) u).map tG)=if 0<=s.tx/\s.tx<n then[⟨s.tx,-1,0,I⟩] else[]:=(by intro n;induction n with|zero=>simp|succ n e=>rw[amt,e,bqD,sz rfl];by_cases a:s.tx=n;rw[r9 (by omega),sz a,sz (by omega),a];rfl;rw[r9 a];by_cases d:0<=s.tx/\s.tx<n;grind;rw[r9 d,r9<|by omega];rfl);rw[c];by_cases b:s.tx= -1;simp_all;have:=h b;rw[sz this.1,sz ⟨this.1,this.2⟩]
def awl{w}{Lw:Int}{e}(a:aF (L w.ak) Lw)(d:named w e.kind e.bF=U):sJ w Lw e=Q (lK w Lw e=Lw):=by have c:Q (Lw=(L w.ak:Int))=I:=bnk (by have:=a.2;omega);have b:¬(-1:Int)=Lw:=(by have:=a.1;omega);grind [lK,sJ,dD,oT,sd,dX]
def axI{w}{Lw:Int}{e}(a:aF (L w.ak) Lw)(d:named w e.kind e.bF=U):sQ w Lw e=Q (mM w Lw e=Lw):=by have c:Q (Lw=(L w.ak:Int))=I:=bnk (by have:=a.2;omega);have b:¬(-1:Int)=Lw:=(by have:=a.1;omega);grind [mM,sQ,dY,oT,sd,dX]
def awm{w e}:Q (e.kind=12)=Q (lK w (L w.ak) e=L w.ak):=by grind [lK]
def axJ{w e}:Q (e.kind=13)=Q (mM w (L w.ak) e=L w.ak):=by grind [mM]
section
variable{Y:ae}
theorem aDT(f:L Y=4096)(e:aP):∃r b,(r=bv (Q<|e.kind=12)/\Fx Y b [])/\cZ aS GG 164 [.a e.c] Y r b:=by refine aKw f rfl λi j h g nf d=>?_;simp only[eT,d,aNR,aoz];grind [Kp.fx]
theorem aDU(f:L Y=4096)(e:aP):∃r b,(r=bv (Q<|e.kind=13)/\Fx Y b [])/\cZ aS GG 165 [.a e.c] Y r b:=by refine aKx f rfl λi j h g nf d=>?_;simp only[eT,d,aNR,aoz];grind [Kp.fx]
theorem aDE{b w ns out n A a q s k h f t1 z o1 v}(C:bD Y b w ns out n A a q s f){lock:Int}(u:box Y k=V ⟨t1,1,o1,U,[[iv lock]]⟩)(t:box Y h=V ⟨z,1,v,U,[[.p b 0 0]]⟩)(e)(D:e.kind=17->aF (L w.aQ.bC) e.bF):∃r g,(r=bv (sJ w.aQ lock e)/\Fx Y g [])/\cZ aS GG 161 [.a e.c, .p k 0 0, .p h 0 0] Y r g:=by refine aKj C.le rfl λE F m B nf o=>?_;have d:=m.fx [];have l:=C.fx d;have bx:=l.bx;have j:=d.kq u;have i:=d.kq t;have y:∀{x:AV},aN J [x]=V x:=λ{x}=>rfl;simp+contextual only[be8,qz 23,qz 21,au,eT,o,j,i,aOe bx,bx,rkC,y,ix,ip,aNR,aoz,sr,aQl,bc5,aO5];grind [sJ]
theorem aDF{b w ns out n A a q s k h f t1 z o1 v}(C:bD Y b w ns out n A a q s f){lock:Int}(u:box Y k=V ⟨t1,1,o1,U,[[iv lock]]⟩)(t:box Y h=V ⟨z,1,v,U,[[.p b 0 0]]⟩)(e)(D:e.kind=16->aF (L w.aQ.bC) e.bF):∃r g,(r=bv (sQ w.aQ lock e)/\Fx Y g [])/\cZ aS GG 162 [.a e.c, .p k 0 0, .p h 0 0] Y r g:=by refine aKk C.le rfl λE F m B nf o=>?_;have d:=m.fx [];have l:=C.fx d;have bx:=l.bx;have j:=d.kq u;have i:=d.kq t;have y:∀{x:AV},aN J [x]=V x:=λ{x}=>rfl;simp+contextual only[be8,qz 23,qz 21,au,eT,o,j,i,aOe bx,bx,rkC,y,ix,ip,aNR,aoz,sr,aQl,bc5,aO5];grind [sQ]
theorem aE0{l}{t:Int}{n a i:Nat}(c:a<L (fj l t n))(h:i<gd (fj l t n) a)(b:(gd l i).aq=t):∃m,m<a/\gd (fj l t n) m=i:=by have hs:(fj l t n).Pairwise (·<·):=Cr.sublist List.filter_sublist List.pairwise_lt_range;have j:gd (fj l t n) a<n:=fq.1 (jW.1<|dB c).1;have d:i∈fj l t n:=jW.2 ⟨fq.2 (by omega),by simpa using b⟩;obtain⟨m,f,g⟩:=RU.1 d;have e:gd (fj l t n) m=i:=(by grind [bT]);grind [List.pairwise_iff_getElem,bT]
theorem aEZ{l}{t:Int}{n i:Nat}(c:i<n)(b:(gd l i).aq=t):∃m,m<L (fj l t n)/\gd (fj l t n) m=i:=by have d:i∈fj l t n:=jW.2 ⟨fq.2 c,by simpa using b⟩;obtain⟨m,a,e⟩:=RU.1 d;exact⟨m,a,by grind [bT]⟩
def ko(k:Nat):Prop:=k=20\/k=39\/k=40\/k=55
theorem bD.fxs{b w ns out n h a e g f Y' ks}(C:bD Y b w ns out n h a e g f)(F:Fx Y Y' ks)(u:∀k∈ks,ko k.1):bD Y' b w ns out n h a e g f:=by obtain⟨t,s⟩:=C.mp;have c:∀q:Id,¬ko q.1->q∉ks:=(by grind);have j:=c b (by rw[C.sb];simp[ko]);have l:=c e (by rw[C.sm];simp[ko]);have m:=c g (by rw[C.so];simp[ko]);have o:=λq d=>c q (by rw[C.sw q d];simp[ko]);have p:=λq d=>c q (by rw[C.sa q d];simp[ko]);exact⟨F.keep _ _ j C.bx,C.nm,⟨t,F.keep _ _ l s⟩,C.gw.fx F o,C.ow.keep F m<|λi r q d=>c q<|by rw[C.ow.pl i r q d];simp[ko],C.gr.fx F p,F.len.trans C.le,C.sb,C.sm,C.so,C.sw,C.sa⟩
theorem awo{B l}:∀k,L (mq B l k)<=k:=by intro k;induction k with|zero=>simp[mq]|succ k a=>have:mq B l (k+1)=mq B l k++if B (gd l k)=U then[⟨(gd l k).aq,k,0,Q<|(gd l k).kind=8⟩] else[]:=amt;grind
theorem awp{B l k x}(h:x∈mq B l k):∃i,i<k/\x.aq=(gd l i).aq:=by obtain⟨i,a,b⟩:=iI.1 h;grind
def CZ{Y x}:aX bu2 1 Y [(0, .a<|bp.c x)]=V (.l ([x].map bp.c) U U,Y):=ua rfl rfl rfl (by decide) rfl (by decide)
theorem ann{b w ns out n wk a a1 fb fe bm bo f hs B E}(C:bD Y b w ns out n wk a bm bo f)(hw:L w.ac<=16)(cb:L hs<=80)(ck:∀i,i<L w.ac->aF (L w.aQ.ay) (gd w.ac i).aq)(cc:∀x∈hs,aF (L w.aQ.ay) x.aq)(G:bc Y 220 4 a1<|hs.map bp.c)(hp:∀k∈aA a1,ko k.1)(hB:∀Y',Fx Y Y' (aA a1)->∀i,i<L w.ac->∀d K,K (bv<|B<|gd w.ac i) Y'->cF fb [.a (gd w.ac i).c] Y' d K)(hE:∀Y',Fx Y Y' (aA a1)->∀i,i<L w.ac->∀d K,K (bv<|E<|gd w.ac i) Y'->cF fe [.a (gd w.ac i).c] Y' d K):∃r Y1,(bc Y1 220 4 r (((hs++mq B w.ac (L w.ac)).map<|gk E w.ac<|L w.ac).map bp.c)/\Fx Y Y1 (aA a1)/\(∀k∈aA r,ko k.1)/\∀k∈aA r,k∈aA a1\/bK Y k)/\cZ aS GG 163 [.p b 0 0,a1,fb,fe] Y r Y1:=by refine aKs C.le ?_;have bx:=C.bx;have a8:∀{x y:Int} {r:Bool},bM bth bqM [(0,iv x),(1,iv y),(3,bv r)]=V (.a<|bp.c ⟨x,y,0,r⟩):=rfl;simp only[eS,aOe bx,bx,rkC];refine jD (α:=AV) (λa i=>[a,iv i]) 1 (L w.ac) (λk r Y'=>bc Y' 220 4 r ((hs++mq B w.ac k).map bp.c)/\Fx Y Y' (aA a1)/\(∀k∈aA r,ko k.1)/\∀k∈aA r,k∈aA a1\/bK Y k) (s0:=a1) (by grind [mq,Fx.refl]) ?_;rintro k r Y1 D ⟨g1,F1,P1,N1⟩;have bg:=F1.len.trans C.le;have C1:=C.fxs F1 hp;have lk:=awo (B:=B) (l:=w.ac) k;simp only[qz 25,au,eQ];refine⟨λh=>?_,λh=>?_⟩;have ah:=aL h;refine biR (λe=>∀X Y2,bc Y2 220 4 X ((hs++mq B w.ac (k+1)).map bp.c)->Fx Y Y2 (aA a1)->(∀k∈aA X,ko k.1)->(∀k∈aA X,k∈aA a1\/bK Y k)->e [X] Y2) ?_ λe aB=>?_;intro X Y2 q1 q2 q3 q4;simp only[qz 45,au,eQ];exact dR (mk:=λa i=>[a,iv i]) (s:=r) (s':=X) (λ_ _=>rfl) ah (by omega) ⟨q1,q2,q3,q4⟩;simp only[qz 47,qy 2,au,eQ,ix,rk,bh];refine⟨dJ ah,?_⟩;refine I7 bg λv3 Y3 F3 N3 b3=>?_;refine cy (cs:=aP.c<|gd w.ac k) b3 rfl rfl (by decide) λY4 F4 b4=>?_;have aw:box Y4 (11,v3)=V ⟨62,7,U,U,[aP.c<|gd w.ac k]⟩:=b4;have av:Fx Y1 Y4 []:=(F3.trans F4).mono (by grind [bK.no]);have g4:=g1.fx av (by simp);have F:=(F1.trans av).mono (ks':=aA a1) (by simp_all);have cg:=F.len.trans C.le;have r7:aN (V 7) (gd w.ac k).c=V (.a (gd w.ac k).c):=rfl;have b1:mq B w.ac (k+1)=mq B w.ac k++if B (gd w.ac k)=U then[⟨(gd w.ac k).aq,k,0,Q<|(gd w.ac k).kind=8⟩] else[]:=amt;simp only[qz 4,qy 8,qy 10,eQ,aw,r7];refine hB Y4 F k ah _ _ ?_;simp+contextual only[eT,aw,a8,CZ];refine⟨λhb=>?_,λhb=>aB r Y4 (by simp_all) F P1 N1⟩;refine gD g4 rfl (by decide) (by omega) nC nC (by simp only[bJ,bZ,aO6,a6G];omega) λr5 Y5 g5 Z hi hd=>?_;refine aB r5 Y5 ?_ ((F.trans Z).mono λk D=>?_) (λk D=>?_) (λk D=>?_);simp_all;grind [bK.no];rcases hd k D with D|D;exact P1 k D;exact .inr<|.inl D;grind [bK.old];have ba:k=L w.ac:=(by grind);subst ba;generalize hL:hs++mq B w.ac (L w.ac)=Lw at g1;have b9:L Lw<=96:=(by rw[<-hL,a6G];omega);have a7:∀x∈Lw,aF (L w.aQ.ay) x.aq:=(by grind [awp]);simp only[lnI g1,bJ,u0];refine yV (L Lw) (λj _ Y'=>bc Y' 220 4 r (((Lw.take j).map (gk E w.ac<|L w.ac)++Lw.drop j).map bp.c)/\Fx Y Y' (aA a1)) (by simp_all) ?_;rintro j _ Y5 hj ⟨g5,Z⟩;have C5:=C.fxs Z hp;have b2:=C5.bx;simp only[qz 73,au,eQ];refine⟨λh5=>?_,λh5=>?_⟩;have A:=aL h5;have aT:L ((Lw.take j).map (gk E w.ac<|L w.ac)++Lw.drop j)=L Lw:=(by simp;omega);obtain⟨g,rfl,R⟩:∃g,r= .m g (L Lw)/\box Y5 g=V ⟨220,4,U,I,((Lw.take j).map (gk E w.ac<|L w.ac)++Lw.drop j).map bp.c⟩:=(by rcases g5 with⟨h',_⟩|⟨g,h',b5⟩;grind [List.map_eq_nil_iff];simp_all);have ca:g∈aA (.m g<|L Lw):=(by simp[aA]);have hx:((Lw.take j).map (gk E w.ac<|L w.ac)++Lw.drop j)[j]?=V (gd Lw j):=(by rw[xf<|by simp;omega];simp only[bJ,gC,rD<|aYB A,tM,List.getElem?_drop,Nat.add_zero];grind [bT]);have al:∀y,((Lw.take j).map (gk E w.ac<|L w.ac)++Lw.drop j).set j y=(Lw.take j).map (gk E w.ac<|L w.ac)++y::Lw.drop (j+1):=λy=>(by rw[CD _ _<|by simp;omega];simp only[bJ,gC,rD<|aYB A,tM];rw[List.drop_eq_getElem_cons A,RY]);have S:(Lw.take<|j+1).map (gk E w.ac<|L w.ac)++Lw.drop (j+1)=(Lw.take j).map (gk E w.ac<|L w.ac)++gk E w.ac (L w.ac) (gd Lw j)::Lw.drop (j+1):=(by grind [iJ,bT]);have H:=a7 _<|dB A;generalize cm:gd Lw j=x at hx S H;generalize hM:(Lw.take j).map (gk E w.ac<|L w.ac)=M at R aT hx al S;have aC:L M=j:=(by grind);have T:∀{Y':ae} {bA:List (dM)},box Y' g=V ⟨220,4,U,I,bA⟩->cz 4 Y' (.m g<|L Lw) (iv j)=V (.p g j 0):=λh=>(by simp[cz,h];omega);have u:∀{Y':ae} {bA:List (dM)} {q p:Nat},box Y' g=V ⟨220,4,U,I,bA⟩->iQ p Y' (.p g j q)=V (.p g j<|q+p):=(by grind [iQ]);have aE:∀{Y':ae} {q:Nat} {y:bp},box Y' g=V ⟨220,4,U,I,(M++y::Lw.drop (j+1)).map bp.c⟩->Iy J Y' (.p g j q)=aN J ((bp.c y).drop q):=λ{Y' q y} h=>(by simp_all [Iy,iE]);have aU:∀{x:bp},aN J (bp.c x)=V (iv x.aq):=rfl;have aV:∀{x:bp},aN J ((bp.c x).drop 1)=V (iv x.dD):=rfl;refine biR (λe=>∀(y:bp) t,y=gk E w.ac (L w.ac) x->box t g=V ⟨220,4,U,I,(M++y::Lw.drop (j+1)).map bp.c⟩->Fx Y t (aA a1)->e [] t) ?_ λe af=>?_;intro y t hy h7 v;simp only[qz 93,au,eQ];refine yU A ⟨.inr ⟨g,?_,?_⟩,v⟩;grind;simp_all;simp only[qz 95,au,u0,T R,u R,aj];refine wL R (by rw[bkb,hx];rfl) (by simp[bp.c]) λY6 F6 b6=>?_;rw[show(bp.c x).set 2 (iv<|-1)=bp.c {x with dY:= -1} from rfl,<-vB,al] at b6;have mn:∀{Ya Yb:ae},Fx Y Ya (aA a1)->Fx Ya Yb [g]->Fx Y Yb (aA a1):=λq1 q2=>(q1.trans q2).mono (by grind [bK.no]);have G6:=mn Z F6;have C6:=C.fxs G6 hp;have ax:=C6.bx;have aD:x.aq.toNat<L w.aQ.ay:=(by have:=H.1;have:=H.2;omega);have cl:=kA H.1;have am:∀{Y':ae},Fx Y Y' (aA a1)->bc Y' 3 1 (f x.aq.toNat) ((aRQ w.ac x.aq<|L w.ac).map ci):=λq=>(by have:=(C.fxs q hp).ow.gr _ aD;grind [btS]);have bi:fS Y6 (f x.aq.toNat)=V (iv<|L<|aRQ w.ac x.aq<|L w.ac):=(by rw[lnI<|am G6,bJ]);have cj:L (aRQ w.ac x.aq<|L w.ac)<=L w.ac:=(by rw[wE];exact wF);simp only[qz 12,au,eS,aOe ax,ax,rkC,T b6,u b6,aE b6,ip,aU,C6.ow.ix H,C6.ow.ld aD,bi];refine yV (L<|aRQ w.ac x.aq<|L w.ac) (λo _ Y'=>box Y' g=V ⟨220,4,U,I,(M++{x with dY:= -1}::Lw.drop (j+1)).map bp.c⟩/\Fx Y Y' (aA a1)/\∀m,m<o->boU E w.ac x (gd (fj w.ac x.aq<|L w.ac) m)=I) (by simp_all) ?_;rintro o _ t ce ⟨z,v,ch⟩;have C7:=C.fxs v hp;have az:=C7.bx;simp only[qz 115,qy 16,au,eQ];refine⟨λh7=>?_,λh7=>?_⟩;have ag:=aL h7;have O:o<L (fj w.ac x.aq<|L w.ac):=(by grind [wE]);have be:gd (fj w.ac x.aq<|L w.ac) o<L w.ac/\(gd w.ac<|gd (fj w.ac x.aq<|L w.ac) o).aq=x.aq:=(by have:=jW.1<|dB O;exact⟨fq.1 this.1,aNQ this.2⟩);obtain⟨W,bf⟩:=be;have bd:gd (aRQ w.ac x.aq<|L w.ac) o=((gd (fj w.ac x.aq<|L w.ac) o:Nat):Int):=(by rw[bT ag,bT O];simp[aRQ]);rw[Dw (am v)<|dJ ag,bh,bd];generalize cf:gd (fj w.ac x.aq<|L w.ac) o=N at W bf;have bl:boU E w.ac x N=I->(yI (λ_ i=>[iv i]) (L<|aRQ w.ac x.aq<|L w.ac) λo (_:Unit) Y'=>box Y' g=V ⟨220,4,U,I,(M++{x with dY:= -1}::Lw.drop (j+1)).map bp.c⟩/\Fx Y Y' (aA a1)/\∀m,m<o->boU E w.ac x (gd (fj w.ac x.aq<|L w.ac) m)=I) [iv<|dq.wrap<|(o:Int)+1] t/\gM 0 (L<|aRQ w.ac x.aq<|L w.ac) [iv<|dq.wrap<|(o:Int)+1] t<gM 0 (L<|aRQ w.ac x.aq<|L w.ac) [iv o] t:=(by intro hs;refine yU ag ⟨z,v,λm hm=>?_⟩;grind);simp only[eS,T z,u z,aE z,aV];rcases sq (Q<|x.dD<(N:Int)) with ab|ab;simp only[ab,eT,Lg,aOe az,az,rkC,ix,bh];refine⟨λ_=>dJ W,hE t v N W _ _ ?_⟩;rcases sq (E<|gd w.ac N) with he|he;rw[he];simp only[show mL (bv U) (bv U) (bv I)=V (bv U) from rfl,u0,T z,u z,aj];refine⟨λ_=>?_,λh=>nomatch h⟩;have aW:((M++{x with dY:= -1}::Lw.drop (j+1)).map bp.c)[j]?=V (bp.c {x with dY:= -1}):=(by rw[bkb,xf (by omega),aC,tM];rfl);refine wL z aW (by simp[bp.c]) λY8 F8 b8=>?_;rw[show(bp.c {x with dY:= -1}).set 2 (iv N)=bp.c {x with dY:=N} from rfl,<-vB,CD _ _ (by omega),aC,tM,RY] at b8;refine af {x with dY:=N} Y8 ?_ b8 (mn v F8);rw[gk,aob (i:=N) (λi hi=>?_) (by grind [boU]) W];by_cases P:(gd w.ac i).aq=x.aq;obtain⟨m,hm,he⟩:=aE0 O (by omega) P;grind;grind [boU];rw[he];simp only[show mL (bv U) (bv I) (bv I)=V (bv I) from rfl,u0];exact⟨λh=>(nomatch h),by grind [boU]⟩;simp only[ab,u0,jN,gF,a5C,show∀x,mL (bv I) x (bv I)=V (bv I) fromλ_=>rfl];exact⟨λh=>(nomatch h),by grind [boU]⟩;have cd:o=L (aRQ w.ac x.aq<|L w.ac):=(by grind);refine af _ t ?_ z v;rw[gk,El];intro i hi;by_cases P:(gd w.ac i).aq=x.aq;obtain⟨m,hm,he⟩:=aEZ hi P;grind [wE];grind [boU];have a9:j=L Lw:=(by grind);rw[a9,gV,Gz,cL] at g5;exact⟨g5,Z,P1,N1⟩
theorem amz{s}{lock:Int}{u j:Nat}(h:j<L (gd s.ak lock.toNat).bk):qH s lock u (j+1)=qH s lock u j++if gd (gd s.ak lock.toNat).bk j=(u:Int) then[⟨u,-1,0,U⟩] else[]:=by grind [qH,pH]
theorem amy{s}{lock:Int}{u j:Nat}:L (qH s lock u j)<=L (gd s.ak lock.toNat).bk:=by grind [qH]
theorem aBM{s}{lock:Int}{u:Nat}:L (qG s lock u)<=L (gd s.ak lock.toNat).bk+1:=by grind [qG,amy]
theorem aBO{s lock k x}(h:x∈qF s lock k):aF k x.aq:=by obtain⟨u,a,b⟩:=iI.1 h;grind [qG,qH,dJ]
theorem aDG{b w ns out n wk a bm bo f}(C:bD Y b w ns out n wk a bm bo f)(hf:hU w)(hv:bdZ w=U){lock:Int}(P:aF (L w.aQ.ak) lock):∃r Y1,(bc Y1 220 4 r ((jE w.aQ w.init.bW w.ac lock).map bp.c)/\Fx Y Y1 []/\∀k∈aA r,bK Y k)/\cZ aS GG 85 [.p b 0 0,iv lock] Y r Y1:=by
 have M:=vd hf hv
 obtain⟨a3,bU,bV,aZ,bI⟩:=Bx hv
 obtain⟨fc,fl,fd,aP⟩:=iY aZ
 have hw:=M.wo.ev
 have aw:=M.th
 have D:aF (L w.init.bW.ak) lock:=by simp_all
 have aW:=Bq hv 0<|mh _
 have bT:L (gd w.init.bW.ak lock.toNat).bk<=4:=by
  have h1:=aW.rd _<|ii (l:=(cY w 0).bW.ak) (i:=lock) D
  have:=AC h1.1 h1.2
  exact gl this aw
 refine aKi C.le rfl rfl λs4 v2 v3 K4 bX nf2 bY b2 b3=>?_
 have F4:=K4.fx []
 have C4:=C.fx F4
 have bx:=C4.bx
 have r1:∀{x:AV},aN J [x]=V x:=λ{x}=>rfl
 have aX:∀{x y:Int},bM bth bqM [(0,iv x),(1,iv y)]=V (.a<|bp.c ⟨x,y,0,I⟩):=rfl
 have av:∀{x y:Int} {r:Bool},bM bth bqM [(0,iv x),(1,iv y),(3,bv r)]=V (.a<|bp.c ⟨x,y,0,r⟩):=rfl
 simp only[Hp,qy 6,eT,b2,b3,r1,aOe bx,bx,rkC,ix,dc]
 refine⟨D,?_⟩
 refine I7 C4.le λv5 Y5 F5 N5 b5=>?_
 refine cy (cs:=cg.c<|gd w.init.bW.ak lock.toNat) b5 rfl rfl (by decide) λv F6 b6=>?_
 have aG:box v (5,v5)=V ⟨184,2,U,U,[cg.c<|gd w.init.bW.ak lock.toNat]⟩:=b6
 have t:Fx s4 v []:=(F5.trans F6).mono (by grind [bK.no])
 have C6:=C4.fx t
 have W:=C6.bx
 have c2:=t.kq b2
 have c3:=t.kq b3
 have N:=C.sb
 simp only[qz 8]
 refine dT (by obtain⟨b1,b2⟩:=b;simp only at N;subst N;simp[eL,lb,zt,dC,dK,sl]) ?_
 simp only[eS,c2,r1,aOe W,W,rkC]
 have bH:∀k,qF w.init.bW lock (k+1)=qF w.init.bW lock k++qG w.init.bW lock k:=λk=>amt
 have aV:∀k,L (qF w.init.bW lock k)<=k*5:=λk=>a6X (f:=qG w.init.bW lock) (c:=5) (by grind [aBM]) k
 refine jD (α:=AV) (λa i=>[a,iv i]) 1 (L w.aQ.ay) (λk a Y'=>bc Y' 220 4 a ((qF w.init.bW lock k).map bp.c)/\Fx v Y' []/\∀q∈aA a,bK v q/\ko q.1) (s0:= .l [] U U) ⟨bc.nil,Fx.refl _ _,by simp[aA]⟩ ?_
 rintro k a1 Y7 hk ⟨g7,F,N7⟩
 have d6:=F.kq aG
 have C7:=C6.fx F
 have lk:=aV k
 simp only[qz 31,qy 18,au,eQ]
 refine⟨λh=>?_,λh=>?_⟩
 ·have a4:=aL h
  refine biR (λe=>∀m g,bc g 220 4 m ((qF w.init.bW lock<|k+1).map bp.c)->Fx v g []->(∀q∈aA m,bK v q/\ko q.1)->e [m] g) ?_ λe Z=>?_
  ·intro m g R S q3
   simp only[qz 51,au,eQ]
   exact dR (mk:=λa i=>[a,iv i]) (s:=a1) (s':=m) (λ_ _=>rfl) a4 (by omega) ⟨R,S,q3⟩
  simp only[qz 53,qy 10,qy 12,au,eT,d6]
  refine⟨λho=>?_,λho=>?_⟩
  ·simp only[aX,aY,CZ,bQ]
   refine gD g7 rfl (by decide) (by rw[C7.le];decide) nC nC (by grind) λa8 g g8 G bL a6=>Z a8 g ?_ ((F.trans G).mono<|by grind [bK.no]) λq o=>⟨?_,?_⟩
   ·grind [qG]
   ·grind [bK.old]
   ·exact(a6 q o).elim (λh=>(N7 q h).2) λh=> .inr<|.inr<|.inl h
  ·have bR:qG w.init.bW lock k=qH w.init.bW lock k (L (gd w.init.bW.ak lock.toNat).bk):=by grind [qG]
   refine jD (α:=AV) (λa i=>[a,iv i]) 1 (L (gd w.init.bW.ak lock.toNat).bk) (λj a Y'=>bc Y' 220 4 a ((qF w.init.bW lock k++qH w.init.bW lock k j).map bp.c)/\Fx v Y' []/\∀q∈aA a,bK v q/\ko q.1) (s0:=a1) (by grind [qH]) ?_
   rintro j m g hj ⟨g8,G,N8⟩
   have C8:=C6.fx G
   have bS:=amy (s:=w.init.bW) (lock:=lock) (u:=k) (j:=j)
   simp only[qz 85,au,eQ,qz 107,qy 14,qy 16,ix,rk,iF,bh]
   refine⟨λH=>⟨vp H,λhu=>?_,λhu=>?_⟩,λH=>?_⟩
   ·simp only[av,aY,CZ,bQ]
    refine gD g8 rfl (by decide) (by rw[C8.le];decide) nC nC (by simp only[bJ,bZ,aO6,a6G];omega) λa9 Y9 g9 F9 bO a7=>?_
    simp only[qz 105,au,eQ]
    refine dR (mk:=λa i=>[a,iv i]) (s:=m) (s':=a9) (λ_ _=>rfl) (aL H) (by omega) ⟨?_,(G.trans F9).mono (by grind [bK.no]),λq o=>⟨?_,?_⟩⟩
    ·grind [amz]
    ·grind [bK.old]
    ·exact(a7 q o).elim (λh=>(N8 q h).2) λh=> .inr<|.inr<|.inr h
   ·simp only[qz 105,au,eQ]
    refine dR (mk:=λa i=>[a,iv i]) (s:=m) (s':=m) (λ_ _=>rfl) (aL H) (by omega) ⟨?_,G,N8⟩
    grind [amz]
   ·rw[bP hj<|bw H] at g8
    exact Z m g (by simp_all) G N8
 ·have a0:k=L w.aQ.ay:=(by grind)
  have X:=F.kq c2
  have aO:=F.kq c3
  simp only[X,r1,aY,u1]
  have O:∀{Y':ae},Fx Y7 Y' (aA a1)->bD Y' b w ns out n wk a bm bo f/\box Y' (2,v2)=V ⟨88,1,U,U,[[.p b 0 0]]⟩/\box Y' (3,v3)=V ⟨3,1,U,U,[[iv lock]]⟩:=λz=>
   ⟨C7.fxs z λq o=>(N7 q o).2,z.keep _ _ (by grind [ko]) X,z.keep _ _ (by grind [ko]) aO⟩
  obtain⟨r,g,⟨R,S,q3,q4⟩,hF⟩:=ann (Y:=Y7) (a1:=a1) (fb:= .f 161 [] [.p (3,v3) 0 0, .p (2,v2) 0 0]) (fe:= .f 162 [] [.p (3,v3) 0 0, .p (2,v2) 0 0]) (hs:=qF w.init.bW lock k) (B:=sJ w.aQ lock) (E:=sQ w.aQ lock) C7 hw (by omega) (λi A=>(M.wo.named A).2) (by grind [aBO]) g7 (by grind) (λY' z i A d K hK=>by
   obtain⟨C',e2,e3⟩:=O z
   simp only[cF,rn]
   rw[r9 (show¬GG.nw 161=U by decide),sz<|show GG.imp 161=U by decide]
   exact aS2 rfl (aDE C' e3 e2 (gd w.ac i)<|by grind [oT,kB.named,vL.wo]) hK) (λY' z i A d K hK=>by
   obtain⟨C',e2,e3⟩:=O z
   simp only[cF,rn]
   rw[r9 (show¬GG.nw 162=U by decide),sz<|show GG.imp 162=U by decide]
   exact aS2 rfl (aDF C' e3 e2 (gd w.ac i)<|by grind [oT,kB.named,vL.wo]) hK)
  rw[aor (w:=w.aQ) (s:=w.init.bW) (Lw:=lock) ?_ (λi A=>awl P (M.wo.named A).1)<|λi A=>axI P (M.wo.named A).1] at R
  ·refine⟨r,g,hF,S.len,?_⟩
   rw[r9<|show¬GG.rd 163=U by decide]
   have T:=F4.trans<|t.trans F
   refine⟨R,(T.trans S).mono λq o=>?_,λq o=>?_⟩
   ·simp only[dW] at o
    exact .inr (((N7 q o).1.old t).old F4).no
   ·rcases q4 q o with h'|h'
    ·grind [bK.old]
    ·exact h'.old T
  ·rw[a0,<-aP]
   refine aBN (by have:=P.2;omega) λho=>?_
   have h5:=(a3 lock.toNat (by have:=D.1;have:=D.2;omega)).1
   grind [AM,List.length_eq_zero_iff]
theorem aDS{b w ns out n wk a W X f}(C:bD Y b w ns out n wk a W X f)(hf:hU w)(N:bdZ w=U):∃r u,(bc u 220 4 r ((jE w.aQ w.init.bW w.ac<|L w.aQ.ak).map bp.c)/\Fx Y u []/\∀k∈aA r,bK Y k)/\cZ aS GG 86 [.p b 0 0] Y r u:=by
 have F:=vd hf N
 obtain⟨an,ao,ap,H,al⟩:=Bx N
 obtain⟨fc,fl,fd,ah⟩:=iY H
 have hw:=F.wo.ev
 have z:w.init.bW.tx≠-1->aF (L w.init.bW.ay) w.init.bW.tx:=(by grind [yS,nO,dX])
 refine aKv C.le ?_
 have bx:=C.bx
 have G:∀{x y:Int},bM bth bqM [(0,iv x),(1,iv y)]=V (.a<|bp.c ⟨x,y,0,I⟩):=rfl
 simp only[di]
 refine brS (λvs Y'=>∃a1,vs=[a1]/\bc Y' 220 4 a1 ((sZ w.init.bW).map bp.c)/\Fx Y Y' []/\∀q∈aA a1,bK Y q/\ko q.1) (λg hJ=>?_) ?_
 ·simp only[qz 17,qy 2,qy 4,eS,aOe bx,bx,rkC,dc]
  refine⟨λh=>?_,by grind [sZ,bc.nil,Fx.refl,aA]⟩
  simp only[G,aY,CZ,bQ]
  refine gD bc.nil rfl (by decide) (by rw[C.le];decide) (by simp) nC (by simp) λT A g8 R am M=>hJ _ _ ⟨T,rfl,?_,R.mono (by simp[aA]),λq l=>⟨?_,?_⟩⟩
  ·grind [sZ]
  ·grind [aA]
  ·exact(M q l).elim (by simp[aA]) λh=> .inl h
 ·rintro vs S ⟨a1,rfl,Z,t,N7⟩
  have m:=C.fx t
  simp only[qz 15,qy 6,aI,au]
  have hl:L (sZ w.init.bW)<=1:=by grind [sZ]
  obtain⟨r,A,⟨O,P,q3,q4⟩,hF⟩:=ann (Y:=S) (a1:=a1) (fb:= .f 164 [] []) (fe:= .f 165 [] []) (hs:=sZ w.init.bW) (B:=λe=>Q<|e.kind=12) (E:=λe=>Q<|e.kind=13) m hw (by omega) (λi j=>(F.wo.named j).2) (by grind [sZ]) Z (by grind) (λY' o i j d K v=>by
   simp only[cF,rn]
   rw[r9 (show¬GG.nw 164=U by decide),sz<|show GG.imp 164=U by decide]
   exact aS2 rfl (aDT (o.len.trans m.le)<|gd w.ac i) v) (λY' o i j d K v=>by
   simp only[cF,rn]
   rw[r9 (show¬GG.nw 165=U by decide),sz<|show GG.imp 165=U by decide]
   exact aS2 rfl (aDU (o.len.trans m.le)<|gd w.ac i) v)
  rw[aor (w:=w.aQ) (s:=w.init.bW) (Lw:=L w.aQ.ak) (aBP z) (λi j=>awm)<|λi j=>axJ] at O
  refine⟨r,A,hF,P.len,?_⟩
  rw[r9<|show¬GG.rd 163=U by decide]
  refine⟨O,(t.trans P).mono λq l=>?_,λq l=>?_⟩
  ·grind [bK.no]
  ·rcases q4 q l with D|D
   ·simp_all
   ·exact D.old t
def aEf{b w ns out n m a g h f}{d:Nat}{K}(C:bD Y b w ns out n m a g h f)(j:hU w)(k:bdZ w=U){lock:Int}(e:aF (L w.aQ.ak) lock)(i:∀t,K (.l ((jE w.aQ w.init.bW w.ac lock).map bp.c) t U) Y):cB 85 [.p b 0 0,iv lock] Y d K:=xC rfl (aDG C j k e) i
def aEk{b w ns out n k a e g f}{d:Nat}{K}(C:bD Y b w ns out n k a e g f)(i:hU w)(j:bdZ w=U)(h:∀t,K (.l ((jE w.aQ w.init.bW w.ac<|L w.aQ.ak).map bp.c) t U) Y):cB 86 [.p b 0 0] Y d K:=xC rfl (aDS C i j) h
theorem Q6{w}(h:hU w)(b:bdZ w=U){Lw:Int}(e:0<=Lw/\Lw<=L w.aQ.ak):L (jE w.aQ w.init.bW w.ac Lw)<=100:=by
 have g:=vd h b
 obtain⟨m,o,p,d,k⟩:=Bx b
 obtain⟨fc,fl,q,j⟩:=iY d
 rw[Q5,bJ,a6G]
 have a:L (nu w.aQ w.init.bW Lw)<=L w.init.bW.ay*5:=a6X (f:=bqD w.aQ w.init.bW Lw) (c:=5) (λu=>by
  unfold bqD
  split
  ·grind
  ·have n:L (gd w.init.bW.ak Lw.toNat).bk<=4:=by
    have a:=(Bq b 0<|mh _).rd _ (ii (l:=(cY w 0).bW.ak) (i:=Lw)<|by rw[show(cY w 0).bW=w.init.bW from rfl,fl];exact⟨e.1,by omega⟩)
    exact gl (AC a.1 a.2) g.th
   grind [pJ,Ln]) _
 have r:L (oF w.aQ Lw w.ac<|L w.ac)<=L w.ac*1:=a6X (f:=λi=>oY w.aQ Lw (gd w.ac i) i) (c:=1) (by grind [oY]) _
 grind [vL.th,kB.ev,vL.wo]
end
def apy:dO:=bsz
def aph:eJ apy:=bsF
def aBq:=@aBp
def asE:=kW 16 [(5,([13],[3,12]))]
def aJ5{c0}:=yB1 43 15 1 aph func32 asE c0 [.a c0]
def nT(ns:List aH8)(w:am)(l:List aH8)(x:aH8):List (d0):=(kZ ns w l x++(l.filter<|eZ x).map (dP ns))::(aH<|L<|l.filter<|eZ x).flatMap (bse ns w l x)
def ng(ns:List aH8)(w:am)(l:List aH8)(k:Nat):List (d0):=
 if(gd w.ac k).kind=17/\(be7 w k).2=U then(-lE ns k::gO ns l (be7 w k).1)::(aH<|L l).flatMap (iO ns k (be7 w k).1 l) else[]
def sN(ns:List aH8)(w:am)(l:List aH8):List (d0):=((aH<|L l).flatMap λk=>iW ns<|gd l k)++((aH<|L l).flatMap (lP ns l)++((aH<|L l).flatMap (lQ ns w l)++(((aH<|L l).flatMap λk=>nT ns w l<|gd l k)++(aH<|L w.ac).flatMap (ng ns w l))))
def bvF{n B A}(Q:aG)(e:∀c,(∀vs Y',Q vs Y'->c vs Y')->A c)(f:∀vs Y',Q vs Y'->B vs Y'):jV n B A:=e B f
def KT{α β:Type}[Inhabited α]{p}{g:α->β}{l}:∀{k:Nat},k<=L l->(aH k).flatMap (λj=>if p (gd l j)=U then[g<|gd l j] else[])=((l.take k).filter p).map g
 |0,_=>by simp
 |k+1,h=>by
  rw[amt,KT (by omega),pH (by omega),dg]
  grind
def aHX{α β:Type}[Inhabited α]{g:α->β}{l}:(aH<|L l).flatMap (λj=>[g<|gd l j])=l.map g:=by have h:=KT (p:=λ_=>U) (g:=g) (l:=l)<|dA _;grind [GA]
def ue(ns:List aH8)(w:am)(l:List aH8)(x:aH8)(j:Nat):List (d0):=if eZ x (gd l j)=U then[kZ ns w l x++[-dP ns (gd l j),lB ns (gd l j).a x.a]] else[]
def axi{ns w l x}:(aH<|L l).flatMap (ue ns w l x)=(aH<|L<|l.filter<|eZ x).flatMap (bse ns w l x):=by have c:=KT (p:=eZ x) (g:=λy=>kZ ns w l x++[-dP ns y,lB ns y.a x.a]) (l:=l)<|dA _;have e:=aHX (g:=λy=>kZ ns w l x++[-dP ns y,lB ns y.a x.a]) (l:=l.filter<|eZ x);rw[gV] at c;exact c.trans e.symm
theorem alM{ns w l x}:L (nT ns w l x)<=L l+1:=by unfold nT;rw[bZ];have h:=a6X (f:=bse ns w l x) (c:=1) (λj=>by simp[bse])<|L<|l.filter<|eZ x;grind
section
variable{Y:ae}{b:Id}{w:am}{ns:List aH8}{out:List (d0)}{n a:AV}{d:Nat}{K:be}
def slV{l:List aH8}{i:Int}{K t o}:rV (fo 3 Y (.l (l.map aH8.c) t o) (V<|iv i) J J) K=((0<=i/\i<=L l)/\K (.l ((l.drop i.toNat).map aH8.c) t o)):=slT λ_=>rfl
def tj{x}:Iy (V 3) Y (.q<|aH8.c x)=V (.a<|aH8.c x):=rfl
set_option maxHeartbeats 8000000 in
theorem aCC(B:cm Y b w ns out n a)(u:L ns<100000)(W:WV w)(hV:∀x∈aR ns 5,aF (L w.ac) x.a/\(0<=x.b->aF (L w.ac) x.b))(eD:L (aR ns 5)<=400)(ho:L out<100000000):∃r Y1,sj Y b w ns out (sN ns w<|aR ns 5) n a r Y1/\cZ aS GG 98 [.p b 0 0] Y r Y1:=by
 refine aMr B.le ?_
 have nb:∀{k v:Nat},k≠sB->(k,v)≠b:=(by grind [cm.sb])
 simp only[Jx]
 refine De B u 5 λt=>?_
 have eB:L (aR ns 5)<=L ns:=fZ _ _
 generalize cH:aR ns 5=l at*
 simp only[qz 2,gT,u0]
 refine yV (L l) (λk _ Y'=>∃g,cm Y' b w ns (out++(aH k).flatMap λk=>iW ns<|gd l k) n g/\Ad Y Y' b a g) (by grind [Ad.refl]) ?_
 rintro i _ Y1 Z ⟨a1,B1,A1⟩
 have m1:=a6X (f:=λk=>iW ns<|gd l k) (c:=3) (by grind [iW]) i
 simp+contextual only[qz 19,au,eQ,gT]
 refine⟨λh=>?_,λh=>?_⟩
 ·have M:=aL h
  refine brS (λvs Y'=>vs=[]/\∃g,cm Y' b w ns (out++((aH i).flatMap λk=>iW ns<|gd l k)++iW ns (gd l i)) n g/\Ad Y Y' b a g) (λe hJ=>?_) ?_
  ·simp only[qz 41,qy 4,au,lX,u0,tj,bh]
   refine⟨dJ M,?_⟩
   generalize gd l i=x at*
   refine I7 B1.le λv2 Y2 F2 N2 b2=>?_
   refine cy (cs:=aH8.c x) b2 rfl rfl (by decide) λY3 F3 b3=>?_
   have bm:box Y3 (4,v2)=V ⟨107,3,U,U,[aH8.c x]⟩:=b3
   have co:Fx Y1 Y3 []:=(F2.trans F3).mono (by grind [bK.no])
   have B3:=B1.kp co
   have A3:=A1.fxn co
   simp only[qz 6,eT,bm]
   refine nc (d:=0) B3 u _ _ _ ?_
   simp only[qz 8,de u,eT,bm]
   refine bj5 (d:=0) B3 u _ ?_
   simp only[qz 10,fi,bQ,qz 12]
   refine fQ B3 (by grind) [_,_] λa4 D O A4=>?_
   have b4:=A4.keep bm (nb<|by decide)<|B3.nv bm<|.inl rfl
   simp+contextual only[qz 14,de u,eT,b4]
   refine⟨λhb=>?_,λhb=>hJ [] D ⟨rfl,a4,?_,A3.trans A4⟩⟩
   ·refine bj5 (d:=0) O u _ ?_
    simp only[qz 16,fi,bQ,qz 18]
    refine fQ O (by grind) [_,_] λa5 Y5 R A5=>?_
    have b5:=A5.keep b4 (nb<|by decide)<|O.nv b4<|.inl rfl
    simp only[qz 20,de u,eT,b5]
    refine kV (d:=0) R u _ _ ?_
    simp only[qz 22,qy 24,qy 26,fi,bQ]
    refine fQ R (by grind) [_,_] λa6 Y6 B6 A6=>hJ [] Y6 ⟨rfl,a6,?_,by grind [Ad.trans]⟩
    rw[iW,sz<|aNQ hb]
    simpa using B6
   ·rw[iW,r9<|bqL hb,cL]
    exact O
  ·rintro vs Y' ⟨rfl,g,B',A'⟩
   simp only[qz 39,au,eQ]
   refine yU M ⟨g,?_,A'⟩
   grind [amt]
 rw[bP Z<|bw h] at B1 m1
 generalize ds:out++((aH<|L l).flatMap λk=>iW ns<|gd l k)=O1 at B1
 have o1:L O1<=L out+L l*3:=by grind
 clear Z h i
 refine yV (L l) (λk _ Y'=>∃g,cm Y' b w ns (O1++(aH k).flatMap (lP ns l)) n g/\Ad Y Y' b a g) (by grind) ?_
 rintro i _ Y2 Z ⟨a2,B2,A2⟩
 have m2:=a6X (f:=lP ns l) (c:=400) (λk=>gl (a6X (f:=λj=>ju ns (gd l k)<|gd (l.drop<|k+1) j) (c:=1) (by grind [ju]) _)<|by simp;omega) i
 simp+contextual only[qz 85,qy 28,au,eQ,lX,tj,bh,gT]
 refine⟨λh=>⟨vp h,?_⟩,λh=>?_⟩
 ·have M:=aL h
  refine I7 B2.le λv3 Y3 F3 N3 b3=>?_
  refine cy (cs:=aH8.c<|gd l i) b3 rfl rfl (by decide) λD F4 b4=>?_
  have ao:box D (7,v3)=V ⟨107,3,U,U,[aH8.c<|gd l i]⟩:=b4
  have aD:Fx Y2 D []:=(F3.trans F4).mono (by grind [bK.no])
  have O:=B2.kp aD
  simp only[qz 30,au,eQ,slV,gT]
  rw[fX<|by omega]
  refine⟨(by omega),?_⟩
  rw[bh]
  have c1:lP ns l i=(aH<|L<|l.drop<|i+1).flatMap λj=>ju ns (gd l i) (gd (l.drop<|i+1) j):=rfl
  have dy:L (l.drop<|i+1)<=L l:=by simp
  generalize l.drop (i+1)=q at*
  refine yV (L q) (λj _ Y'=>∃g,cm Y' b w ns (O1++(aH i).flatMap (lP ns l)++(aH j).flatMap λj=>ju ns (gd l i)<|gd q j) n g/\Ad Y Y' b a g/\box Y' (7,v3)=V ⟨107,3,U,U,[aH8.c<|gd l i]⟩) (by grind [Ad.fxn]) ?_
  rintro j _ Y5 hj ⟨a5,R,A5,b5⟩
  have m5:=a6X (f:=λj=>ju ns (gd l i)<|gd q j) (c:=1) (by grind [ju]) j
  simp+contextual only[qz 121,au,eQ]
  refine⟨λh5=>?_,λh5=>?_⟩
  ·refine brS (λvs Y'=>vs=[]/\∃g,cm Y' b w ns (O1++(aH i).flatMap (lP ns l)++((aH j).flatMap λj=>ju ns (gd l i)<|gd q j)++ju ns (gd l i) (gd q j)) n g/\Ad Y Y' b a g/\box Y' (7,v3)=V ⟨107,3,U,U,[aH8.c<|gd l i]⟩) (λe hJ=>?_) ?_
   ·simp only[qz 143,qy 32,au,lX,u0,tj,bh]
    refine⟨vp h5,?_⟩
    generalize gd q j=y at*
    generalize gd l i=x at*
    refine I7 R.le λv6 Y6 F6 N6 b6=>?_
    refine cy (cs:=aH8.c y) b6 rfl rfl (by decide) λF T b7=>?_
    have ad:box F (9,v6)=V ⟨107,3,U,U,[aH8.c y]⟩:=b7
    have al:Fx Y5 F []:=(F6.trans T).mono (by grind [bK.no])
    have E:=R.kp al
    have A7:=A5.fxn al
    have ap:=al.kq b5
    simp+contextual only[qz 34,eT,ap,ad]
    refine⟨λhc=>?_,λhc=>hJ [] F ⟨rfl,a5,?_,A7,ap⟩⟩
    ·refine nc (d:=0) E u _ _ _ ?_
     simp only[qz 36,de u,eT,ad]
     refine nc (d:=0) E u _ _ _ ?_
     simp only[qz 38,de u,aY,fi,bQ,qz 40]
     refine fQ E (by grind) [_,_] λa8 Y8 S A8=>?_
     simp only[qz 42]
     refine dT (by simp[eL,lb,cq,zt,dC,dK]) (hJ [] Y8 ⟨rfl,a8,?_,A7.trans A8,by grind [Ad.keep,cm.nv]⟩)
     rw[ju,sz<|aNQ hc]
     exact S
    grind [ju]
   ·rintro vs Y' ⟨rfl,g,B',A',b'⟩
    simp only[qz 141,au,eQ]
    refine yU (aL h5) ⟨g,?_,A',b'⟩
    grind [amt]
  ·refine yU M ⟨a5,?_,A5⟩
   grind [amt]
 rw[bP Z<|bw h] at B2 m2
 generalize dt:O1++(aH<|L l).flatMap (lP ns l)=O2 at B2
 have o2:L O2<=L O1+L l*400:=by grind
 clear Z h i
 refine yV (L l) (λk _ Y'=>∃g,cm Y' b w ns (O2++(aH k).flatMap (lQ ns w l)) n g/\Ad Y Y' b a g) (by grind) ?_
 rintro i _ Y2 Z ⟨a3,bj,es⟩
 have m3:=a6X (f:=lQ ns w l) (c:=400) (λk=>gl (a6X (f:=λj=>jk ns w (gd l k)<|gd (l.drop<|k+1) j) (c:=1) (by grind [jk]) _)<|by simp;omega) i
 simp+contextual only[qz 169,qy 44,au,eQ,lX,tj,bh,gT]
 refine⟨λh=>⟨vp h,?_⟩,λh=>?_⟩
 ·have M:=aL h
  refine I7 bj.le λv3 Y3 F3 N3 b3=>?_
  refine cy (cs:=aH8.c<|gd l i) b3 rfl rfl (by decide) λD F4 b4=>?_
  have ao:box D (11,v3)=V ⟨107,3,U,U,[aH8.c<|gd l i]⟩:=b4
  have aD:Fx Y2 D []:=(F3.trans F4).mono (by grind [bK.no])
  have O:=bj.kp aD
  simp only[qz 46,au,eQ,slV,gT]
  rw[fX<|by omega]
  refine⟨(by omega),?_⟩
  rw[bh]
  have c1:lQ ns w l i=(aH<|L<|l.drop<|i+1).flatMap λj=>jk ns w (gd l i) (gd (l.drop<|i+1) j):=rfl
  have dy:L (l.drop<|i+1)<=L l:=by simp
  generalize l.drop (i+1)=q at*
  refine yV (L q) (λj _ Y'=>∃g,cm Y' b w ns (O2++(aH i).flatMap (lQ ns w l)++(aH j).flatMap λj=>jk ns w (gd l i)<|gd q j) n g/\Ad Y Y' b a g/\box Y' (11,v3)=V ⟨107,3,U,U,[aH8.c<|gd l i]⟩) (by grind [Ad.fxn]) ?_
  rintro j _ Y5 hj ⟨a5,R,A5,b5⟩
  have m5:=a6X (f:=λj=>jk ns w (gd l i)<|gd q j) (c:=1) (by grind [jk]) j
  simp+contextual only[qz 205,au,eQ]
  refine⟨λh5=>?_,λh5=>?_⟩
  ·refine brS (λvs Y'=>vs=[]/\∃g,cm Y' b w ns (O2++(aH i).flatMap (lQ ns w l)++((aH j).flatMap λj=>jk ns w (gd l i)<|gd q j)++jk ns w (gd l i) (gd q j)) n g/\Ad Y Y' b a g/\box Y' (11,v3)=V ⟨107,3,U,U,[aH8.c<|gd l i]⟩) (λe hJ=>?_) ?_
   ·simp only[qz 227,qy 48,au,lX,u0,tj,bh]
    refine⟨vp h5,?_⟩
    generalize gd q j=y at*
    have bY:=(hV (gd l i)<|dB M).1
    generalize gd l i=x at*
    refine I7 R.le λv6 Y6 F6 N6 b6=>?_
    refine cy (cs:=aH8.c y) b6 rfl rfl (by decide) λF T b7=>?_
    have ad:box F (13,v6)=V ⟨107,3,U,U,[aH8.c y]⟩:=b7
    have al:Fx Y5 F []:=(F6.trans T).mono (by grind [bK.no])
    have E:=R.kp al
    have A7:=A5.fxn al
    have ap:=al.kq b5
    have aW:=E.bx
    have dO:=aOe (i:=0) (j:=0) aW
    rcases sq (Q<|x.a=y.a) with bq|bq
    ·simp+contextual only[qz 50,eT,ap,ad,bq,jA,uO,a7c,dO,aW,rkB,ix]
     refine⟨bY,λhc=>?_,λhc=>hJ [] F ⟨rfl,a5,?_,A7,ap⟩⟩
     ·refine nc (d:=0) E u _ _ _ ?_
      simp only[qz 52,de u,eT,ad]
      refine nc (d:=0) E u _ _ _ ?_
      simp only[qz 54,de u,aY,fi,bQ,qz 56]
      refine fQ E (by grind) [_,_] λa8 Y8 S A8=>?_
      simp only[qz 58]
      refine dT (by simp[eL,lb,cq,zt,dC,dK]) (hJ [] Y8 ⟨rfl,a8,?_,A7.trans A8,by grind [Ad.keep,cm.nv]⟩)
      rw[jk,sz ⟨aNQ bq,aNQ hc⟩]
      exact S
     grind [jk]
    ·simp+contextual only[qz 50,eT,ap,ad,bq,jN,uO,a5C]
     refine⟨λh=>(nomatch h),λ_=>hJ [] F ⟨rfl,a5,?_,A7,ap⟩⟩
     grind [jk]
   ·rintro vs Y' ⟨rfl,g,B',A',b'⟩
    simp only[qz 225,au,eQ]
    refine yU (aL h5) ⟨g,?_,A',b'⟩
    grind [amt]
  ·refine yU M ⟨a5,?_,A5⟩
   grind [amt]
 rw[bP Z<|bw h] at bj m3
 generalize du:O2++(aH<|L l).flatMap (lQ ns w l)=O3 at bj
 have o3:L O3<=L O2+L l*400:=by grind
 clear Z h i
 refine yV (L l) (λk _ Y'=>∃g,cm Y' b w ns (O3++(aH k).flatMap λk=>nT ns w l<|gd l k) n g/\Ad Y Y' b a g) (by grind) ?_
 rintro i _ Y2 Z ⟨a4,aQ,c8⟩
 have m4:=a6X (f:=λk=>nT ns w l<|gd l k) (c:=401) (by grind [alM]) i
 simp+contextual only[qz 253,qy 60,au,eQ,lX,tj,bh]
 refine⟨λh=>⟨vp h,?_⟩,λh=>?_⟩
 ·have M:=aL h
  refine I7 aQ.le λv3 Y3 F3 N3 b3=>?_
  refine cy (cs:=aH8.c<|gd l i) b3 rfl rfl (by decide) λD F4 b4=>?_
  have ao:box D (15,v3)=V ⟨107,3,U,U,[aH8.c<|gd l i]⟩:=b4
  have aD:Fx Y2 D []:=(F3.trans F4).mono (by grind [bK.no])
  have O:=aQ.kp aD
  have A4:=c8.fxn aD
  have bY:=(hV (gd l i)<|dB M).1
  have dZ:∀g Y',cm Y' b w ns (O3++((aH i).flatMap λk=>nT ns w l<|gd l k)++nT ns w l (gd l i)) n g->Ad Y Y' b a g->yI (λ(_:Unit) i=>[iv i]) (L l) (λk (_:Unit) Y'=>∃g,cm Y' b w ns (O3++(aH k).flatMap λk=>nT ns w l<|gd l k) n g/\Ad Y Y' b a g) [iv<|dq.wrap<|(i:Int)+1] Y'/\gM 0 (L l) [iv<|dq.wrap<|(i:Int)+1] Y'<gM 0 (L l) [iv i] Y2:=by
   intro g Y' B' A'
   refine yU M ⟨g,?_,A'⟩
   grind [amt]
  generalize cF:O3++((aH i).flatMap λk=>nT ns w l<|gd l k)=O4 at*
  have o4:L O4<=L O3+i*401:=by grind
  generalize gd l i=x at*
  simp only[qz 62,eT,ao]
  refine bj5 (d:=0) O u _ ?_
  simp only[qz 64,de u,aY,a5Y,bQ,qz 66]
  refine bvF (λvs Y'=>∃y0,vs=[y0]/\gA Y' 3 1 y0 ((jd ns x).map ci)/\Fx D Y' []/\∀q∈aA y0,bK D q/\q.1=206) (λe hJ=>?_) ?_
  ·simp only[qz 293,eT,ao]
   refine⟨λh=>?_,λh=>hJ _ _ ⟨_,rfl, .inl ⟨U,by grind [jd]⟩,Fx.refl _ _,by simp[aA]⟩⟩
   have h0:=aNQ h
   refine bj5 (d:=0) O u _ ?_
   simp only[qz 68,de u,aY,u1,ao,rk,aj]
   refine kV (d:=0) O u _ _ ?_
   simp only[qz 70,qy 72,de u,aY,fi,bQ]
   refine bsk (bA:=[-lE ns x.a].map ci) (.inl ⟨U,rfl⟩) rfl (by decide) (by rw[O.le];decide) fF fF (by simp) λy5 Y5 g5 F5 eA=>?_
   rw[<-dg] at g5
   simp only[qz 74]
   refine dT (by simp[eL,lb,cq,zt,dC,dK]) (hJ _ _ ⟨y5,rfl,?_,F5.mono (by simp[aA]),λq A=>?_⟩)
   ·grind [jd]
   grind [aA]
  ·rintro vs Y5 ⟨y0,rfl,g0,F5,P0⟩
   simp only[qz 291,aI,au,gT,u0]
   refine jD (α:=AV) (λa i=>[a,iv i]) 1 (L l) (λk y Y'=>gA Y' 3 1 y ((jd ns x++((l.take k).filter<|j8 w x).map (dP ns)).map ci)/\Fx D Y' []/\∀q∈aA y,bK D q/\(q.1=206\/q.1=246)) (s0:=y0) ⟨by grind,F5,by grind⟩ ?_
   rintro k y Y6 hk ⟨gy,F6,Py⟩
   have B6:=O.kp F6
   have cI:L (jd ns x++((l.take k).filter<|j8 w x).map (dP ns))<=3+k:=by
    have z:=fZ (j8 w x)<|l.take k
    simp only[gC] at z
    have G:L (jd ns x)<=3:=by unfold jd;split<;>simp
    grind
   simp+contextual only[qz 313,au,eQ]
   refine⟨λh6=>?_,λh6=>?_⟩
   ·have aM:=aL h6
    refine biR (λe=>∀y' Y',gA Y' 3 1 y' ((jd ns x++((l.take<|k+1).filter<|j8 w x).map (dP ns)).map ci)->Fx D Y' []->(∀q∈aA y',bK D q/\(q.1=206\/q.1=246))->e [y'] Y') ?_ λe bp=>?_
    ·intro y' Y' q1 q2 q3
     simp only[qz 333,au,eQ]
     exact dR (mk:=λa i=>[a,iv i]) (s:=y) (s':=y') (λ_ _=>rfl) aM (by omega) ⟨q1,q2,q3⟩
    simp only[qz 335,qy 76,au,eQ,lX,tj,bh]
    refine⟨dJ aM,?_⟩
    refine I7 B6.le λv7 F T N7 b7=>?_
    refine cy (cs:=aH8.c<|gd l k) b7 rfl rfl (by decide) λY8 F8 b8=>?_
    have dm:box Y8 (18,v7)=V ⟨107,3,U,U,[aH8.c<|gd l k]⟩:=b8
    have cr:Fx Y6 Y8 []:=(T.trans F8).mono (by grind [bK.no])
    have ah:=F6.trans cr
    have S:=O.kp ah
    have cB:=S.bx
    have dQ:=aOe (i:=0) (j:=0) cB
    have bX:=ah.kq ao
    have cD:=gy.fx cr (by simp)
    have dS:aN (V 3) (aH8.c x)=V (.a<|aH8.c x):=rfl
    have dU:aN (V 3) (aH8.c<|gd l k)=V (.a<|aH8.c<|gd l k):=rfl
    simp+contextual only[qz 78,eT,dm,bX,dS,dU,ix,alV,dQ,cB,rkB]
    refine⟨λ_ _=>bY,λhb=>?_,λhb=>bp y Y8 ?_ ah Py⟩
    ·refine nc (d:=0) S u _ _ _ ?_
     simp only[qz 80,qy 82,qy 84,a5Y,bQ,au]
     refine bsk cD rfl (by decide) (by rw[S.le];decide) fF fF (by grind [aO6]) λy9 Y9 g9 F9 dz=>bp y9 Y9 ?_ ((ah.trans F9).mono<|by grind [bK.no]) (λq A=>?_)
     ·rw[pH aM,sz<|by grind [j8]]
      simpa using g9
     ·rcases dz q A with X|X
      ·exact Py q X
      grind [bK.old]
    ·rw[pH aM,r9 (by grind [j8]),cL]
     exact cD
   ·have dD:k=L l:=(by grind)
    subst dD
    rw[gV] at gy cI
    rw[show jd ns x++(l.filter<|j8 w x).map (dP ns)=kZ ns w l x from rfl] at gy cI
    have cG:nT ns w l x=(kZ ns w l x++(l.filter<|eZ x).map (dP ns))::(aH<|L l).flatMap (ue ns w l x):=by rw[nT,axi]
    have bn:∀j,ue ns w l x j=if eZ x (gd l j)=U then[kZ ns w l x++[-dP ns (gd l j),lB ns (gd l j).a x.a]] else[]:=λ_=>rfl
    have ex:L (l.filter<|eZ x)<=L l:=(by grind)
    generalize hL:kZ ns w l x=Lw at*
    refine buv gy (by omega) (by rw[B6.le];decide) λy7 F g7 T N7=>?_
    have E:=B6.kp T
    have cz:=(F6.trans T).kq ao
    simp only[qz 86,eT,cz]
    refine Ks (d:=0) E u _ _ λt2=>?_
    rw[cH,show nG ns l x.b x.a=(l.filter<|eZ x).map (dP ns) from rfl]
    generalize ey:(l.filter<|eZ x).map (dP ns)=Wk at*
    have dw:L Wk<=L l:=by grind
    simp only[qz 88]
    refine gD g7 rfl (by decide) (by rw[E.le];decide) fF fF (by grind) λy8 Y8 g8 F8 bW dE=>?_
    rw[<-dg] at g8
    have ah:Fx D Y8 []:=((F6.trans T).trans F8).mono (by grind [bK.no,bK.old])
    have S:=O.kp ah
    have A8:=A4.fxn ah
    have c3:∀{q:Id},bK D q->bK Y q:=λh=>h.old A4.fx
    simp only[qz 90]
    refine Dd S (by omega) _ g8.t A8 (λq A=>?_) λa9 Y9 B9 A9 F9=>?_
    ·rcases bW q A with X|X
     ·grind [bK.old]
     ·exact c3 (X.old<|F6.trans T)
    have yp:∀q∈aA y,q.1=206\/q.1=246:=λq A=>(Py q A).2
    have eu:gA Y9 3 1 y (Lw.map ci):=by
     refine((gy.fx T<|by simp).fx F8 λq A m=>?_).fx F9 λq A m=>?_
     ·have z:=(N7 q m).2
      rcases yp q A with G|G<;>(omega)
     ·rcases eW.1 m with rfl|m
      ·rcases yp _ A with G|G<;>(grind)
      ·rcases dF.1 m with m|m
       ·have z:=S.sa q m
        rcases yp q A with G|G<;>(omega)
       ·have z:q.1=250\/q.1=257:=(by grind)
        rcases yp q A with G|G<;>rcases z with z|z<;>(omega)
    have dn:=F8.keep _ _ (λA=>by have z:=(N7 _ A).2;simp at z) cz
    have et:=F9.keep _ _ (λm=>by
     rcases eW.1 m with h|m
     ·exact nb (by decide) h
     ·rcases dF.1 m with m|m
      ·have z:=S.sa _ m;simp at z
      ·have z:(15:Nat)=250\/(15:Nat)=257:=(dE _ m).imp (λh=>(N7 _ h).2) id
       omega) dn
    simp only[qz 92]
    refine dT (by
     rcases gy with⟨o,rfl⟩|⟨bb,rfl,hb⟩
     ·simp[eL,lb,cq,zt,dC,dK,au]
     ·have z:=yp bb (by simp[aA])
      obtain⟨b1,b2⟩:=bb
      rcases z with z|z<;>(simp only at z;subst z;simp[eL,lb,cq,zt,dC,dK,au])) ?_
    simp only[gT,u0]
    refine yV (L l) (λj _ Y'=>∃g,cm Y' b w ns (O4++[Lw++Wk]++(aH j).flatMap (ue ns w l x)) n g/\Ad Y Y' b a g/\gA Y' 3 1 y (Lw.map ci)/\box Y' (15,v3)=V ⟨107,3,U,U,[aH8.c x]⟩) (by grind) ?_
    rintro j _ bl hj ⟨aV,ag,bi,cV,cS⟩
    have dL:=a6X (f:=ue ns w l x) (c:=1) (λj=>by rw[bn];split<;>simp) j
    simp+contextual only[qz 361,au,eQ]
    refine⟨λaE=>?_,λaE=>?_⟩
    ·have aX:=aL aE
     refine biR (λe=>∀g Y',cm Y' b w ns (O4++[Lw++Wk]++(aH j).flatMap (ue ns w l x)++ue ns w l x j) n g->Ad Y Y' b a g->gA Y' 3 1 y (Lw.map ci)->box Y' (15,v3)=V ⟨107,3,U,U,[aH8.c x]⟩->e [] Y') ?_ λe aw=>?_
     ·intro g Y' q1 q2 q3 q4
      simp only[qz 381,au,eQ]
      refine yU aX ⟨g,?_,q2,q3,q4⟩
      grind [amt]
     simp only[qz 383,qy 94,au,u0,lX,tj,bh]
     refine⟨dJ aX,?_⟩
     refine I7 ag.le λb9 dh bB da bL=>?_
     refine cy (cs:=aH8.c<|gd l j) bL rfl rfl (by decide) λP bC bM=>?_
     have N:box P (20,b9)=V ⟨107,3,U,U,[aH8.c<|gd l j]⟩:=bM
     have C:Fx bl P []:=(bB.trans bC).mono (by grind [bK.no])
     have H:=ag.kp C
     have ab:=bi.fxn C
     have aq:=C.kq cS
     have aK:=cV.fx C (by simp)
     rcases sq (Q<|(gd l j).b=x.b) with b0|b0
     ·simp+contextual only[qz 96,eT,N,aq,b0,uO,a7c]
      refine⟨λdI=>?_,λdI=>aw aV P ?_ ab aK aq⟩
      ·refine buv aK (by omega) (by rw[H.le];decide) λeF cv dp aC cu=>?_
       have aO:=H.kp aC
       have cx:=aC.kq N
       have bS:=aC.kq aq
       simp only[qz 98,eT,cx]
       refine nc (d:=0) aO u _ _ _ ?_
       simp only[qz 100,de u,aY,u1,cx,bS,rk,aj]
       refine kV (d:=0) aO u _ _ ?_
       simp only[qz 102,qy 104,fi,bQ]
       refine gD dp rfl (by decide) (by rw[aO.le];decide) fF fF (by grind [bZ,aO6]) λdX di cC bD cY ee=>?_
       rw[<-dg] at cC
       have bk:Fx P di []:=(aC.trans bD).mono (by grind [bK.no])
       have bv:=H.kp bk
       have c6:=ab.fxn bk
       simp only[qz 106]
       refine Dd bv (by simp only[a6G,bZ,aO6];omega) _ cC.t c6 (λq A=>?_) λdk cw c9 c7 cn=>?_
       ·rcases cY q A with X|X
        ·exact(cu q X).1.old ab.fx
        ·exact(X.old aC).old ab.fx
       have ck:∀q∈aA dX,q.1=279\/q.1=296:=λq A=>(by grind)
       have cW:gA cw 3 1 y (Lw.map ci):=by
        refine((aK.fx aC<|by simp).fx bD λq A m=>?_).fx cn λq A m=>?_
        ·have z:=(cu q m).2
         rcases yp q A with G|G<;>(omega)
        ·rcases eW.1 m with rfl|m
         ·rcases yp _ A with G|G<;>(grind)
         ·rcases dF.1 m with m|m
          ·have z:=bv.sa q m
           rcases yp q A with G|G<;>(omega)
          ·have z:=ck q m
           rcases yp q A with G|G<;>rcases z with z|z<;>(omega)
       have cT:=bD.keep _ _ (by grind) bS
       have cU:=cn.keep _ _ (λm=>by
        rcases eW.1 m with h|m
        ·grind
        ·rcases dF.1 m with m|m
         ·have z:=bv.sa _ m;simp at z
         grind) cT
       simp only[qz 108]
       refine dT (by
        rcases gy with⟨o,rfl⟩|⟨bb,rfl,hb⟩
        ·simp[eL,lb,cq,zt,dC,dK,au]
        ·have z:=yp bb (by simp[aA])
         obtain⟨b1,b2⟩:=bb
         rcases z with z|z<;>(simp only at z;subst z;simp[eL,lb,cq,zt,dC,dK,au])) (aw dk cw ?_ c7 cW cU)
       rw[bn,sz<|by grind [eZ]]
       exact c9
      ·rw[bn,r9 (by grind [eZ]),cL]
       exact H
     ·simp+contextual only[qz 96,eT,N,aq,b0,uO,a5C]
      refine⟨λh=>(nomatch h),λ_=>aw aV P ?_ ab aK aq⟩
      rw[bn,r9 (by grind [eZ]),cL]
      exact H
    grind
 ·rw[bP Z<|bw h] at aQ m4
  generalize cF:O3++((aH<|L l).flatMap λk=>nT ns w l<|gd l k)=O4 at aQ
  have o4:L O4<=L O3+L l*401:=by grind
  clear Z h i
  have cA:=aQ.bx
  simp only[aOe cA,eS,cA,rkB]
  refine yV (L w.ac) (λk _ Y'=>∃g,cm Y' b w ns (O4++(aH k).flatMap (ng ns w l)) n g/\Ad Y Y' b a g) (by grind) ?_
  rintro i _ Y5 Z ⟨a5,R,A5⟩
  have ez:=W.ok.ev
  have m5:=a6X (f:=ng ns w l) (c:=401) (λk=>by
   unfold ng
   split
   ·have:=a6X (f:=iO ns k (be7 w k).1 l) (c:=1) (λj=>by unfold iO;split<;>simp)<|L l
    grind
   ·simp) i
  simp+contextual only[qz 403,au,eQ]
  refine⟨λh5=>?_,λh5=>?_⟩
  ·have bo:=aL h5
   refine biR (λe=>∀g Y',cm Y' b w ns (O4++(aH i).flatMap (ng ns w l)++ng ns w l i) n g->Ad Y Y' b a g->e [] Y') ?_ λe aw=>?_
   ·intro g Y' q1 q2
    simp only[qz 423,au,eQ]
    refine yU bo ⟨g,?_,q2⟩
    grind [amt]
   simp only[qz 425,qy 110,au,u0,ix,rk,bh]
   refine⟨dJ bo,?_⟩
   generalize ew:O4++(aH i).flatMap (ng ns w l)=O5 at*
   have o5:L O5<=L O4+i*401:=by grind
   refine I7 R.le λv6 Y6 F6 N6 b6=>?_
   refine cy (cs:=aP.c<|gd w.ac i) b6 rfl rfl (by decide) λF T b7=>?_
   have ad:box F (22,v6)=V ⟨62,7,U,U,[aP.c<|gd w.ac i]⟩:=b7
   have cp:Fx Y5 F []:=(F6.trans T).mono (by grind [bK.no])
   have E:=R.kp cp
   have A7:=A5.fxn cp
   have aW:=E.bx
   simp+contextual only[qz 112,au,aOe aW,eT,aW,ad,rkB,sY,ar,oJ,pG]
   refine⟨λc0=>?_,λc0=>⟨⟨by omega,dJ bo,(W.th i bo).2,by have:=W.ts;omega⟩, .inl rfl,λdG=>?_,λdG=>?_⟩⟩
   ·refine aw a5 F ?_ A7
    grind [ng]
   ·refine aw a5 F ?_ A7
    grind [ng]
   ·have dY:(gd w.ac i).kind=17:=by simp_all
    have eg:(be7 w i).2=U:=by grind
    have cG:ng ns w l i=(-lE ns i::gO ns l (be7 w i).1)::(aH<|L l).flatMap (iO ns i (be7 w i).1 l):=by grind [ng]
    generalize(be7 w (i:Int)).1=wt at*
    refine bj5 (d:=0) E u _ ?_
    simp only[qz 114,de u,aY,a5Y,bQ,qz 116]
    refine Ks (d:=0) E u _ _ λt2=>?_
    have dH:nG ns l wt (-1)=gO ns l wt:=by
     unfold nG gO
     congr 1
     refine aqJ λv hv=>?_
     have:=(hV v hv).1.1
     simp;omega
    rw[cH,dH]
    have dw:L (gO ns l wt)<=L l:=by grind [gO]
    simp only[qz 118]
    refine bsk (bA:=[-lE ns i].map ci) (.inl ⟨U,rfl⟩) rfl (by decide) (by rw[E.le];decide) fF fF (by grind) λy8 Y8 g8 F8 bW=>?_
    rw[<-dg,List.singleton_append] at g8
    have ct:Fx F Y8 []:=F8.mono (by simp[aA])
    have S:=E.kp ct
    have A8:=A7.fxn ct
    simp only[qz 120]
    refine Dd S (by omega) _ g8 A8 (λq A=>?_) λa9 Y9 B9 A9 F9=>?_
    ·rcases bW q A with X|X
     ·simp[aA] at X
     ·exact X.1.old A7.fx
    simp only[qz 122,gT,u0]
    refine yV (L l) (λj _ Y'=>∃g,cm Y' b w ns (O5++[-lE ns i::gO ns l wt]++(aH j).flatMap (iO ns i wt l)) n g/\Ad Y Y' b a g) (by grind) ?_
    rintro j _ bl hj ⟨aV,ag,bi⟩
    have dL:=a6X (f:=iO ns i wt l) (c:=1) (λj=>by unfold iO;split<;>simp) j
    simp+contextual only[qz 475,au,eQ]
    refine⟨λaE=>?_,λaE=>?_⟩
    ·have aX:=aL aE
     refine biR (λe=>∀g Y',cm Y' b w ns (O5++[-lE ns i::gO ns l wt]++(aH j).flatMap (iO ns i wt l)++iO ns i wt l j) n g->Ad Y Y' b a g->e [] Y') ?_ λe cJ=>?_
     ·intro g Y' q1 q2
      simp only[qz 495,au,eQ]
      refine yU aX ⟨g,?_,q2⟩
      grind [amt]
     simp only[qz 497,qy 124,au,u0,lX,tj,bh]
     refine⟨dJ aX,?_⟩
     refine I7 ag.le λb9 dh bB da bL=>?_
     refine cy (cs:=aH8.c<|gd l j) bL rfl rfl (by decide) λP bC bM=>?_
     have N:box P (26,b9)=V ⟨107,3,U,U,[aH8.c<|gd l j]⟩:=bM
     have C:Fx bl P []:=(bB.trans bC).mono (by grind [bK.no])
     have H:=ag.kp C
     have ab:=bi.fxn C
     have dx:iO ns i wt l j=if(gd l j).b=wt then[[-lE ns i,-dP ns (gd l j),lB ns (gd l j).a i]] else[]:=rfl
     generalize dv:O5++[-lE ns i::gO ns l wt]++(aH j).flatMap (iO ns i wt l)=O6 at*
     have o6:L O6<=L O5+1+j:=by rw[<-dv];simp only[a6G,bZ,aO6];omega
     simp+contextual only[qz 126,au,eT,N]
     refine⟨λhb=>?_,λhb=>cJ aV P ?_ ab⟩
     ·refine bj5 (d:=0) H u _ ?_
      simp only[qz 128,de u,eT,N]
      refine nc (d:=0) H u _ _ _ ?_
      simp only[qz 130,au,de u,eT,N]
      refine kV (d:=0) H u _ _ ?_
      simp only[qz 132,xA,bQ,qz 134]
      refine fQ H (by omega) [_,_,_] λdj cv aO c5=>?_
      simp only[qz 136]
      refine dT (by simp[eL,lb,cq,zt,dC,dK])<|cJ dj cv ?_<|ab.trans c5
      rw[dx,sz<|aNQ hb]
      exact aO
     simp_all
    ·rw[bP hj<|bw aE] at ag
     refine aw aV bl ?_ bi
     rw[cG]
     simpa using ag
  ·rw[bP Z<|bw h5] at R
   refine⟨a5,rfl,?_,A5⟩
   rw[sN]
   simp only[<-bje,ds,dt,du,cF]
   exact R
end
def brE(ns:List aH8)(w:am):List (d0):=bqI ns w++oH ns w++sN ns w (aR ns 5)++rJ ns w
def yc(w)(u:Int)(l):L (fg w u l)<=L l:=by unfold fg brv;have h:=jo (f:=λn=>fw (lm w u n)<|L w.ac) (m:=1) (l:=l.take<|L l) (by grind [Er]);simp_all
theorem KI{w}(h:xv w){k:Nat}(b:k<L w.ac):L (gd w.ac k).dI<=2000/\L (gd w.ac k).ep<=2000:=by have i:∀x,x∈(gd w.ac k).dI\/x∈(gd w.ac k).ep-> -1000<=x/\x<=1000:=λx d=>⟨(h.rd k b x d).1,(h.rd k b x d).2.1⟩;have c:=(h.wo.wo.en k b).2;simp only[bhO,bip,eH,cP,fK,aBY] at c;obtain⟨_,_,_,_,⟨f,g⟩,_⟩:=c;constructor;rcases oD (L (gd w.ac k).dI) with a|a;omega;have e:=yq f (L (gd w.ac k).dI-1) (by omega);grind [dB];rcases oD (L (gd w.ac k).ep) with a|a;omega;have e:=yq g (L (gd w.ac k).ep-1) (by omega);grind [dB]
structure VW(w:am):Prop where
 hf:hU w
 hv:bdZ w=U
 ps:xv w
 wv:WV w
 ln:L (cw w)<2000
 l5:L (aR (cw w) 5)<=320
 nt:L w.aQ.ay<=4
 it:L w.init.bW.ay=L w.aQ.ay
 th:∀k,k<L w.ac->aF (L w.aQ.ay) (gd w.ac k).aq
 hp:∀r:Nat,r<L w.ac->((gd w.ac r).kind=23->aF (L w.init.bW.done) (gd w.ac r).bF/\aF (L w.init.bU) (gd w.ac r).bF)/\((gd w.ac r).kind=3->aF (L w.init.cells) (gd w.ac r).bF)
def vw{w}(d:hU w)(a:bdZ w=U):VW w:=by have s:=anT d a;have b:=vd d a;obtain⟨v,x,y,i,t⟩:=Bx a;obtain⟨fc,fl,z,e⟩:=iY i;have n:=b.th;have g:=(aQA a).1;simp only[oh,cP,fK,aNK] at g;have o:=g.1.1.1.1.2;simp only[fN,bN,aBY] at o;have c:=Bq a 0<|mh _;have p:∀k,k<L w.ac->aF (L w.aQ.ay) (gd w.ac k).aq:=λk j=>(b.wo.named j).2;have m:=anE b.wo.ev (show L w.init.bW.ay<=4 by omega);refine⟨d,a,s,⟨b.wo,λk j=>?_,(by simp_all),λu B=>?_,by omega,⟨fl,by have:=c.lo;grind [cY]⟩,λl q=>?_⟩,m.1,by rw[Qf];exact m.2,n,e,p,λr A=>⟨λh=>?_,λh=>?_⟩⟩;grind [KI];grind [xv.ct,ii];have f:=c.rd l q;have:=AC f.1 f.2;omega;grind [oU,kB.named,vL.wo];grind [qP,kB.named,vL.wo]
section
variable{w:am}{ns:List aH8}
theorem KB(e:L w.ac<=16):L (bqI ns w)<=1000:=by
 have a:=a6X (f:=jy ns<|L w.ac) (c:=16) (λx=>by
  have:=a6X (f:=my ns x) (c:=1) (by grind [my])<|L w.ac
  unfold jy;omega) (L w.ac)
 have b:=a6X (f:=kY ns w) (c:=2) (by grind [kY])<|L w.ac
 have d:=a6X (f:=mA ns w) (c:=2) (by grind [mA])<|L w.ac
 grind [bqI]
theorem axl{s}(h:L s<=100):L (rL ns s)<=40000:=by
 have:=a6X (f:=mw ns s) (c:=400) (λi=>by
  have a:=a6X (f:=λj=>iA ns (gd s i)<|gd (s.drop<|i+1) j) (c:=4) (λj=>axk)<|L<|s.drop<|i+1
  grind [mw]) (L s)
 unfold rL;omega
theorem btG(a:VW w)(k:Nat)(c:k<=L w.aQ.ak+1):L ((aH k).flatMap<|pE ns w)<=200000:=by have h:=jo (f:=pE ns w) (m:=40000) (l:=aH k) λi b=>axl (Q6 a.hf a.hv ⟨by omega,by have:=fq.1 b;omega⟩);have:=a.wv.lk.2;grind
theorem Kz{l}(a:L l<=320)(b:L w.ac<=16):L (sN ns w l)<=400000:=by
 have m1:=a6X (f:=λk=>iW ns<|gd l k) (c:=3) (by grind [iW])<|L l
 have d:=a6X (f:=lP ns l) (c:=320) (λk=>gl (a6X (f:=λj=>ju ns (gd l k)<|gd (l.drop<|k+1) j) (c:=1) (by grind [ju]) _)<|by simp;omega)<|L l
 have e:=a6X (f:=lQ ns w l) (c:=320) (λk=>gl (a6X (f:=λj=>jk ns w (gd l k)<|gd (l.drop<|k+1) j) (c:=1) (by grind [jk]) _)<|by simp;omega)<|L l
 have g:=a6X (f:=λk=>nT ns w l<|gd l k) (c:=321) (by grind [alM])<|L l
 have h:=a6X (f:=ng ns w l) (c:=321) (λk=>by
  unfold ng
  split
  ·have:=a6X (f:=iO ns k (be7 w k).1 l) (c:=1) (by grind [iO])<|L l
   grind
  ·simp) (L w.ac)
 grind [sN]
theorem KA(a:VW w)(k:Nat)(q:k<=L w.ac):L ((aH k).flatMap<|gW ns w)<=1000000:=by have u:=a.wv.ok.ev;have h:=jo (f:=gW ns w) (m:=60000) (l:=aH k) λr t=>(by unfold gW;split;have e:=jo (f:=λj=>iP ns w r<|gd (dx w r) j) (m:=2020) (l:=aH<|L<|dx w r) λj d=>(by have hs:=(Kt<|dB<|fq.1 d).2;generalize gd (dx w r) j=s at hs⊢;unfold iP;rw[a6G];have g:L (kD ns w r s)<=2002:=(by unfold kD;split;rename_i b;have i:=a6X (f:=pD ns r s<|fg w (gd w.ac s.toNat).aq (gd w.ac s.toNat).ep) (c:=1) (λj=>by simp[pD])<|L<|fg w (gd w.ac s.toNat).aq (gd w.ac s.toNat).ep;have n:=yc w (gd w.ac s.toNat).aq (gd w.ac s.toNat).ep;have o:=(KI a.ps (k:=s.toNat) (by have:=(hs b).1.1;have:=(hs b).1.2;omega)).2;simp only[a6G,bZ,aO6];omega;simp);have p:=a6X (f:=bpL ns w r s) (c:=1) (by grind [bpL])<|L w.ac;omega);grind [vU];simp);grind
theorem Kw(a:VW w):L ((aH<|L w.ac).flatMap<|kX ns w)<=40000:=by have n:=a.wv.ok.ev;have h:=jo (f:=kX ns w) (m:=2000) (l:=aH<|L w.ac) λi b=>(by have d:=a6X (f:=qv ns i<|fg w (gd w.ac i).aq (gd w.ac i).dI) (c:=1) (λj=>by simp[qv])<|L<|fg w (gd w.ac i).aq (gd w.ac i).dI;have e:=yc w (gd w.ac i).aq (gd w.ac i).dI;have g:=(KI a.ps (k:=i)<|fq.1 b).1;unfold kX;omega);grind
def Kv(a:VW w)(b:L (aR ns 5)<=320):L (brE ns w)<=2000000:=by have c:=KB (ns:=ns) a.wv.ok.ev;have d:=btG (ns:=ns) a (L w.aQ.ak+1)<|dA _;have e:=Kz (ns:=ns) (w:=w) b a.wv.ok.ev;have f:=KA (ns:=ns) a (L w.ac)<|dA _;have g:=Kw (ns:=ns) a;simp only[brE,rJ,oH,a6G];omega
end
section
variable{Y:ae}
theorem ank{w}(d:VW w)(hl:L Y=4096):∃r z,(∃b n m a i j f,r= .p b 0 0/\bD z b w (cw w) (brE (cw w) w) n m a i j f/\Fx Y z []/\bK Y b)/\cZ aS GG 32 [.a w.c] Y r z:=by refine aJ5 hl rfl λs2 v1 K2 aF nf O=>?_;have x:=K2.fx [];have ab:=x.len.trans hl;have r15:aN (V 15) w.c=V (.a w.c):=rfl;have e:=d.wv.ok.ev;have aD:=d.ln;have aE:=d.wv.lk.2;have M:jb w (cw w):=anG (by omega);have D:=an6 d.ps d.hf;have S:=aId e;have Wk:=Rq e d.wv.ts;have ad:=d.l5;have q1:=KB (ns:=cw w) e;have q3:=Kz (ns:=cw w) (w:=w) ad e;have q4:=KA (ns:=cw w) d (L w.ac)<|dA _;have q6:=Kw (ns:=cw w) d;have q2:=λk X=>btG (ns:=cw w) d k X;simp only[qy 4,eQ,O,r15];refine jH rfl (aCA ab d.hv d.hf aEm<|by omega) ?_;rintro r3 Y3 ⟨b,n,m,i,j,f,rfl,C3,y,Nb,_,_⟩;refine⟨y.len,?_⟩;have P:=y.kq O;have T:((1,v1):Id)≠b:=(by grind [bD.sb]);generalize cw w=ns at*;refine aEh C3 M d.th e (by grind) λa4 Y4 C4 A4=>?_;have R:=A4.keep P T (by simp[aA]);simp only[qz 6,eT,R];refine yV (L w.aQ.ak) (λk _ Y'=>∃G,bD Y' b w ns (bqI ns w++(aH k).flatMap (pE ns w)) n m G i j f/\Ad Y3 Y' b (.l [] U U) G) (by grind) ?_;rintro k _ Y5 X ⟨a5,g,E⟩;have aG:=q2 k (by omega);simp only[qz 31,au,eQ];refine⟨λh=>?_,λh=>?_⟩;have o:=aL h;refine aEf g d.hf d.hv (dJ o) λt=>?_;simp only[qz 8];refine brT rfl (anl g M (by grind [Q6,VW.hf,VW.hv]) (by grind [anV,VW.hf,VW.hv])<|by grind) λK Y6 v u=>?_;simp only[qz 10,au,eQ];refine yU o ⟨K,?_,E.trans u⟩;rw[amt,<-bje];exact v;have Z:k=L w.aQ.ak:=(by grind);subst Z;have s:=q2 (L w.aQ.ak+1)<|dA _;rw[amt,a6G] at s;have W:pE ns w (L w.aQ.ak)=rL ns (jE w.aQ w.init.bW w.ac<|L w.aQ.ak):=rfl;rw[W] at s;refine aEk g d.hf d.hv λt=>?_;simp only[qz 12,qy 14];refine brT rfl (anl g M (by grind [Q6,VW.hf,VW.hv]) (by grind [anV,VW.hf,VW.hv])<|by grind) λK Y6 v u=>?_;refine brT rfl (aDJ v M Wk e<|by grind) λa7 Y7 C7 A7=>?_;simp only[qz 16,qy 18];have hN:sN ns w (aR ns 5)=(((aH<|L<|aR ns 5).flatMap λk=>iW ns<|gd (aR ns 5) k)++((aH<|L<|aR ns 5).flatMap (lP ns<|aR ns 5)++((aH<|L<|aR ns 5).flatMap (lQ ns w<|aR ns 5)++((aH<|L<|aR ns 5).flatMap λk=>qw ns w<|gd (aR ns 5) k))))++(aH<|L w.ac).flatMap (brQ ns w):=(by simp only[sN,bje];rfl);rw[hN,a6G] at q3;generalize(((aH<|L<|aR ns 5).flatMap λk=>iW ns<|gd (aR ns 5) k)++((aH<|L<|aR ns 5).flatMap (lP ns<|aR ns 5)++((aH<|L<|aR ns 5).flatMap (lQ ns w<|aR ns 5)++((aH<|L<|aR ns 5).flatMap λk=>qw ns w<|gd (aR ns 5) k))))=N at*;refine brT rfl (aDv C7 M Wk d.th d.it d.nt e<|by grind) λa8 Y8 C8 A8=>?_;refine brT rfl (aDV C8 M D S d.th e<|by grind) λa9 Y9 C9 A9=>?_;simp only[qz 20,qy 22];refine aEd C9 M D d.th e (by grind [a6G]) λH aC F C=>?_;have A:=((((E.trans u).trans A7).trans A8).trans A9).trans C;have B:brE ns w=bqI ns w++(aH<|L w.aQ.ak).flatMap (pE ns w)++rL ns (jE w.aQ w.init.bW w.ac<|L w.aQ.ak)++N++(aH<|L w.ac).flatMap (brQ ns w)++(aH<|L w.ac).flatMap (gW ns w)++(aH<|L w.ac).flatMap (kX ns w):=(by simp_all [brE,oH,amt,rJ]);rw[B];refine⟨b,n,m,H,i,j,f,rfl,F,((x.trans y).trans A.fx).mono λq hq=>?_,Nb.old x⟩;simp only[dW,aA,cE] at hq;grind [bK.no,bK.old]
end
def apz:dO:=apy
def Ri:eJ apz:=aph
def Ld:=@aBq
def asC:=kW 27 [(5,([],[4,5])),(11,([39],[2,4,5,37,38])),(14,([],[2,4,5,37,38,39]))]
def aJ3{c0 b}:=y2 43 15 2 49 6 3 Ri func11 asC c0 b [.a c0, .a b]
def vZ(w:am)(out:List<|d0):br6:=⟨L w.ac,L<|cw w,lL<|cw w,out⟩
def Em{Y}{p v:Nat}{zs a1 a w out R}(k:box Y (p,v)=V ⟨54,4,U,U,[zs]⟩)(H:L zs=4)(g1:bc Y 86 3 a1<|(lL<|cw w).map bqR.c)(g:bc Y 38 1 a<|out.map λc=>[sl ci c])(m:∀ds,Lk ds (vZ w out).c->R (.a ds)):sV (aK 4 Y (.p (p,v) 0 0)<|.a [iv<|L w.ac,iv<|L<|cw w,a1,a]) λs=>rV (Iy (V 4) s<|.p (p,v) 0 0) λt=>aE R s [t]:=by have i:∀{x y x2 j:AV},aN (V 4) [x,y,x2,j]=V (.a [x,y,x2,j]):=rfl;refine cy (y:=4) (cs:=[iv<|L w.ac,iv<|L<|cw w,a1,a]) k rfl rfl (by omega) λb d E=>?_;have f:box b (p,v)=V ⟨54,4,U,U,[[iv<|L w.ac,iv<|L<|cw w,a1,a]]⟩:=(by simp_all);have h:∀{e:TypeId} {z:Nat} {x:AV} {bA:List (dM)},bc Y e z x bA->∀q∈aA x,q∉[((p,v):Id)]:=(by intro e z x bA n q o F;rcases n with⟨_,rfl⟩|⟨D,rfl,G⟩;simp[aA] at o;grind [aA]);obtain⟨t1,o1,A⟩:=(g1.fx d<|h g1).frD;obtain⟨C,u,B⟩:=(g.fx d<|h g).frD;simp only[f,eQ,i];have r:jS b [.a [iv<|L w.ac,iv<|L<|cw w,a1,a]]= .a [iv<|L w.ac,iv<|L<|cw w, .l ((lL<|cw w).map bqR.c) t1 o1, .l (out.map λc=>[sl ci c]) C u]:=(by show AV.a [dQ b<|iv<|L w.ac,dQ b<|iv<|L<|cw w,dQ b a1,dQ b a]=_;rw[A,B];rfl);unfold aE;rw[r];exact⟨rfl,m _ ⟨rfl,rfl⟩⟩
structure buf(w:am)(g:cJ):Prop where
 h1:g.kind=1->aF (L w.ac) g.ea/\aF (L w.ac) g.eb
 h2:g.kind=2->(∀e∈g.cW,aF (L w.ac) e)/\L g.cW<=4
 h3:g.kind=3->aF (L w.ac) g.ea/\aF (L w.ac) g.eb/\g.ea≠g.eb
 h4:g.kind=4->aF (L w.ac) g.ea/\aF (L w.ac) g.eb/\aF (L w.ac) g.ec/\aF (L w.ac) g.ed/\g.ea≠g.ec
def Lj{w g}(h:qC w g=U):buf w g:=by unfold qC at h;by_cases b:g.kind=2;rw[bqH b,a7c] at h;simp only[qx,bN,eH,aBY] at h;obtain⟨j,k,_⟩:=h;refine⟨λe=>by omega,λ_=>⟨λe i=>?_,?_⟩,λe=>by omega,λe=>by omega⟩;exact(px (p:=λe=>aF (L w.ac) e)).1 (by grind [dX]) e i;grind [rO];rw[bnk b,a5C] at h;simp only[bN] at h;obtain⟨⟨ia,a,c,d⟩,f⟩:=h;have ia:=dX.1 ia;have a:=dX.1 a;have c:=dX.1 c;have d:=dX.1 d;refine⟨λ_=>⟨ia,a⟩,λe=>aRI e b,λe=>⟨ia,a,?_⟩,λe=>⟨ia,a,c,d,?_⟩⟩;rw[bnk (by omega),bqH e,a5C,a7c] at f;grind [wz,tm];rw[bnk (by omega),bnk (by omega),bqH e,a5C,a5C,a7c] at f;grind [tZ,vQ]
def NO(w)(g)(hp:bdZ w=U/\hU w/\qC w g=U):Ct 11 [.a w.c, .a g.c] (λr=>∃ds,r= .a ds/\Lk ds (vZ w<|brE (cw w) w++jx (cw w) w g).c):=by refine aJ3 rfl rfl λs2 hl b1 b3 h0=>?_;obtain⟨hv,hf,hg⟩:=hp;have d:=vw hf hv;have G:=Lj hg;have hW:=vd hf hv;have F:=d.wv.ok.ev;have bq:=d.ln;have aO:=d.l5;have M:jb w (cw w):=anG (by omega);have D:=an6 d.ps d.hf;have Wk:=Rq F d.wv.ts;have r15:aN (V 15) w.c=V (.a w.c):=rfl;have r6:aN (V 6) g.c=V (.a g.c):=rfl;have be:=Kv (ns:=cw w) d aO;refine I7 hl λv2 s3 F3 N3 b2=>?_;have af:=F3.kq b1;have ak:=F3.kq b3;simp only[qz 6,qy 8,eQ,af,ak,r15,r6,ar,Ld,hv,hf,hg,hW,aPe,jA,eE,aQl,bc5];refine jH rfl (ank d<|F3.len.trans hl) ?_;rintro r4 Y4 ⟨b,n,wk,a,bm,bo,f,rfl,p,Z,Nb⟩;refine⟨Z.len,?_⟩;have ah:=Z.kq b2;have ag:=Z.kq af;have s:=Z.kq ak;have bc:=p.sb;have H:∀{k v:Nat},k≠18->(k,v)≠b:=(by grind);simp only[qz 10,di];have bs:∀c,vZ w c=⟨L w.ac,L<|cw w,lL<|cw w,c⟩:=λ_=>rfl;refine brS (λvs Y'=>∃o,bD Y' b w (cw w) (brE (cw w) w++jx (cw w) w g) n wk o bm bo f/\Ad Y4 Y' b a o) (λi S=>?_) ?_;simp only[qz 35,qy 24,qy 26,eT,s];have T:∀{x:Int},aF (L w.ac) x->L (jK (cw w) w x)<=10010:=λhx=>zW d.wv (yc w) hx;have hn:L (cw w)<100000:=(by omega);generalize cw w=ns at*;generalize hO:brE ns w=O at*;refine⟨λA=>?_,λbj=>⟨λA=>?_,λbk=>⟨λA=>?_,λbl=>⟨λA=>?_,λbn=>S [] Y4 ⟨a,?_,Ad.refl _ _ _⟩⟩⟩⟩⟩;have j:=aNQ A;have bg:=T (G.h1 j).1;have aE:=T (G.h1 j).2;refine btP p M D d.th F (G.h1 j).1 (by omega) λN C m l=>?_;have u:=l.keep s (H<|by decide)<|p.ne s<|.inl rfl;simp only[qz 12,qy 14,eT,u];refine btP m M D d.th F (G.h1 j).2 (by simp only[a6G];omega) λP E q K=>S [] E ⟨P,?_,l.trans K⟩;grind [jx];have j:=aNQ A;obtain⟨aG,bi⟩:=G.h2 j;refine yV (L g.cW) (λk _ Y'=>∃o,bD Y' b w ns (O++(aH k).flatMap λk=>bpF ns w<|gd g.cW k) n wk o bm bo f/\Ad Y4 Y' b a o) (by grind [Ad.refl]) ?_;rintro k _ C bp ⟨N,m,l⟩;have aP:∀x,L (jc ns w x)<=2:=(by grind [jc]);have m5:=a6X (f:=λk=>bpF ns w<|gd g.cW k) (c:=3) (by grind [bpF]) k;simp only[qz 67,au,eQ];refine⟨λh=>?_,λh=>S [] C ⟨N,?_,l⟩⟩;have W:=aL h;refine biR (λi=>∀o Y',bD Y' b w ns (O++((aH k).flatMap λk=>bpF ns w<|gd g.cW k)++bpF ns w (gd g.cW k)) n wk o bm bo f->Ad Y4 Y' b a o->i [] Y') ?_ λi X=>?_;intro o Y' q1 q2;simp only[qz 87,au,eQ];refine yU W ⟨o,?_,q2⟩;grind [amt];simp only[qz 89,au,ix,bh];refine⟨dJ W,?_⟩;have z:=aG _<|dB W;generalize gd g.cW k=e at*;have aJ:e.toNat<L w.ac:=(by have:=z.1;have:=z.2;omega);refine anz m M d.th F (by simp only[a6G];omega) z λP E q K=>?_;have B:=l.trans K;have aA:=B.keep ag (H<|by decide)<|p.ne ag<|.inl rfl;simp only[qz 16,eT,aA,ix];refine⟨z,λaD=>X P E ?_ B,λaD=>?_⟩;grind [bpF];have a2:(gd w.ac e.toNat).kind=17:=(by grind);refine anB q (by omega) z (d.wv.th _ aJ).2 (by have:=d.wv.ts;omega) λv bt=>?_;simp only[qz 18,qy 20,qy 22,oJ,pG,u0];refine⟨λaQ=>?_,λaQ=>X P E ?_ B⟩;refine anC q hn v λt=>?_;have br:L (gO ns (aR ns 5) v)<=L (aR ns 5):=(by grind [gO]);have bd:=aP e;refine bid q (by grind) _ (by omega) λa7 Y7 C7 A7=>X a7 Y7 ?_<|B.trans A7;have bu:nG ns (aR ns 5) (be7 w e).1 (-1)=gO ns (aR ns 5) (be7 w e).1:=(by unfold nG gO;congr 1;refine aqJ λy hy=>?_;have:=(Wk.ok y hy).1.1;simp;omega);grind [bpF];grind [bpF];grind [jx];have j:=aNQ A;obtain⟨g1,g2,g3⟩:=G.h3 j;refine aEg p M Wk F g1 g2 g3 (by omega) λN C m l=>S [] C ⟨N,?_,l⟩;rw[jx,r9 (by omega),r9 (by omega),sz j];exact m;have j:=aNQ A;obtain⟨g1,g2,g3,g4,g5⟩:=G.h4 j;have aE:=T g2;refine gq p hn (M.ex _ g1) ?_;simp only[a5Y,bQ,qz 28];refine bid p (by omega) [_] (by simp) λN C m l=>?_;have u:=l.keep s (H<|by decide)<|p.ne s<|.inl rfl;simp only[qz 30,qy 32,eT,u];refine gq m hn (M.ex _ g4) ?_;simp only[a5Y,bQ,qz 34];refine bid m (by grind) [_] (by simp) λP E q K=>?_;have R:=K.keep u (H<|by decide)<|m.ne u<|.inl rfl;simp only[qz 36,qy 38,eT,R];refine kg q hn (M.bf _ _ g1 g3 g5) ?_;simp only[a5Y,bQ,qz 40];refine bid q (by grind) [_] (by simp) λa7 Y7 C7 A7=>?_;have aC:=A7.keep R (H<|by decide)<|q.ne R<|.inl rfl;simp only[qz 42,qy 44,eT,aC];refine btP C7 M D d.th F g2 (by grind) λa8 Y8 C8 A8=>S [] Y8 ⟨a8,?_,by grind [Ad.trans]⟩;grind [jx];grind [jx];rintro vs C ⟨o,m,l⟩;simp only[qz 33,aI];have aB:=l.keep ah (H<|by decide)<|p.ne ah<|.inl rfl;refine jH rfl (anm m<|by omega) ?_;rintro r6 E ⟨a1,rfl,g1,g,F6⟩;refine⟨F6.len,?_⟩;simp only[qz 46,qy 48];exact Em (F6.kq aB) rfl g1 g (by simp)
def BP:FT:=pn NO
def ax1:=rQ BP NO
def apB:dO:=(11,BP)::apz
def Rj:eJ apB:=vl (aN0 NO)<|Ri
def amo:=ai @ax1<|@Ld
def aMc{c0 b}:=y2 43 15 2 49 6 3 Rj func12 atw c0 b [.a c0, .a b]
section
variable{Y:ae}{b:Id}{w:am}{ns:List aH8}{out:List (d0)}{n a:AV}{d:Nat}{K:be}
theorem am3{w}(e:VW w){Y}(m:L Y=4096):∃r i,(∃b n a,r= .p b 0 0/\cm i b w (cw w) (brE (cw w) w) n a/\Fx Y i []/\bK Y b)/\cZ aS GG 42 [.a w.c] Y r i:=by refine aMg m rfl λs2 v1 O aa nf S=>?_;have h:=O.fx [];have o:=h.len.trans m;have r15:aN (V 15) w.c=V (.a w.c):=rfl;have g:=e.wv.ok.ev;have Wk:=Rq g e.wv.ts;simp only[qy 6,eQ,S,r15,ar,amo];have Z:=e.ln;have s:=e.l5;have f:L (cw w)<100000:=(by omega);have q1:=KB (ns:=cw w) g;have q2:=btG (ns:=cw w) e (L w.aQ.ak+1)<|dA _;have q3:=Kz (ns:=cw w) (w:=w) s g;have q4:=KA (ns:=cw w) e (L w.ac)<|dA _;have q6:=Kw (ns:=cw w) e;have u:fN w.aQ w.init=U:=(by have hB:=(aQA e.hv).1;grind [oh]);refine⟨⟨e.wv.ok,e.wv.ts,u⟩,λt=>⟨.inl rfl,?_⟩⟩;have v:L w.c=15:=(by simp[am.c]);have k:bM rq [(0,15),(15,1),(16,1)] [(0, .a w.c),(1, .l ((cw w).map aH8.c) t U)]=V (.a<|w.c++[.l ((cw w).map aH8.c) t U, .l [] U U]):=rfl;simp only[k,aY];refine bxI (by simp[v]) (by decide) (by omega) λz X j P T=>?_;have F:cm X (8,z) w (cw w) [] (.l ((cw w).map aH8.c) t U) (.l [] U U):=⟨T,⟨_,_,rfl⟩,bc.nil,j.len.trans o,rfl,by simp[aA]⟩;generalize cw w=ns at*;refine aw6 F f g (by grind) λa6 s6 G B=>?_;refine awX G f e.wv (by simp only[dW,oH];omega) λa7 s7 H C=>?_;simp only[qz 8,qy 10,qy 12];have y:∀x∈aR ns 5,aF (L w.ac) x.a/\(0<=x.b->aF (L w.ac) x.b):=(by grind [sE.ok]);refine ub rfl (aCC H f e.wv y (by omega)<|by grind [oH]) λa8 s8 M D=>?_;refine ub rfl (aCI M f e.wv (by grind [Kt]) (by grind [vU]) (yc w) e.hp<|by grind [oH,rJ]) λR s9 N E=>?_;have A:=((B.trans C).trans D).trans E;refine⟨(8,z),_,R,rfl,by simpa[brE] using N,((h.trans j).trans A.fx).mono λq W=>?_,P.old h⟩;simp only[dW,aA,cE] at W;grind [bK.no,bK.old]
end
def PI(w)(g)(D:bdZ w=U/\hU w/\qC w g=U):Ct 12 [.a w.c, .a g.c] (λr=>∃ds,r= .a ds/\Lk ds (vZ w<|brE (cw w) w++jx (cw w) w g).c):=by refine aMc rfl rfl λs2 t y A X=>?_;obtain⟨E,B,C⟩:=D;have e:=vw B E;have G:=Lj C;have r15:aN (V 15) w.c=V (.a w.c):=rfl;have H:aN (V 6) g.c=V (.a g.c):=rfl;have M:=Kv (ns:=cw w) e e.l5;have N:=e.ln;refine I7 t λv2 s3 i O z=>?_;have o:=i.kq y;have q:=i.kq A;simp only[qz 6,eQ,o,r15];refine jH rfl (am3 e<|i.len.trans t) ?_;rintro Z R ⟨b,n,a,rfl,l,j,P⟩;refine⟨j.len,?_⟩;have f:=j.kq z;have s:=j.kq q;have F:∀{k v:Nat},k≠sB->(k,v)≠b:=(by grind [cm.sb]);simp only[qz 8,qy 10,eQ,s,H];refine ub rfl (aCu l (by omega) e.wv (yc w) g G.h1 G.h2 (λh=>(G.h4 h).2.1)<|by omega) λW S x u=>?_;have p:=u.keep f (F<|by decide)<|l.nv f<|.inl rfl;refine jH rfl (am4 x<|by omega) ?_;rintro r5 T ⟨a1,rfl,g1,g,m⟩;refine⟨m.len,?_⟩;simp only[qz 12,qy 14];exact Em (m.kq p) rfl g1 g (by simp)
def Gc:FT:=pn PI
def azu:=rQ Gc PI
def apC:dO:=(12,Gc)::apB
def Rk:eJ apC:=vl (aN0 PI)<|Rj
def fsR:=ai @azu<|@amo
section
attribute[local irreducible] aX
def bgS{a}:=y0 Rk func311 auF [a]
def a9i:=kW 8 [(5,([5],[]))]
def bgQ{a a1}:=y0 Rk func294 a9i [a,a1]
def bgW{a}:=y0 Rk func262 at1 [a]
def bg7{a a1}:=y0 Rk func232 at1 [a,a1]
def bg9{a a1}:=y0 Rk func241 atS [a,a1]
def a9l:=kW 10 [(3,([5],[1,2]))]
def bgT{c0 a1}:=y1 31 6 2 Rk func304 a9l c0 [.a c0,a1]
def a9n:=kW 21 [(3,([5],[1,4])),(8,([13],[1,4])),(15,([37],[1,4]))]
def bgV{c0}:=y1 264 6 1 Rk func192 a9n c0 [.a c0]
def bhe{a}:=y0 Rk func296 auF [a]
def aVt b R t1 a:=aU b (iv 6) λt3=>Qcf t3 b λf=>aC t3 (aO .gtr f<|iv 28) λg=>aD t3 (bv U) g λh=>ah h (aE R a [iv 0]) (aO .sub b (iv 6) λc=>ao 1 a t1 c λd=>aM a d λe=>aE R a [e])
def aVs a s0 R:=eV (aX bH 23 s0 [(0,iv 3),(1,iv 3),(2,iv 4),(3,iv 4),(4,iv 5),(5,iv 6),(6,iv 7),(7,iv 8),(8,iv 9),(9,iv 10),(10,iv 11),(11,iv 12),(12,iv 13),(13,iv 14),(14,iv 15),(15,iv 16),(16,iv 18),(17,iv 19),(18,iv 20),(19,iv 21),(20,iv 22),(21,iv 23),(22,iv 2)])<|aVt a R
def bhn{a:AV}{R:cC}(h:H0 λs0=>aVs a s0 R):Ct 264 [a] R:=z0 ato Rk func264 h
def bgB{a a1}:=y0 Rk func270 atS [a,a1]
def bgG{a a1}:=y0 Rk func271 atS [a,a1]
def a8V:=kW 9 []
def bgt{a}:=y0 Rk func318 a8V [a]
def bgy{c0}:=y1 272 4 1 Rk func313 at1 c0 [.a c0]
def bgK{a a1}:=y0 Rk func300 auF [a,a1]
def bgJ{a}:=y0 Rk func303 auF [a]
def bgs{a}:=y0 Rk func196 at1 [a]
def bgr{a}:=y0 Rk func280 at1 [a]
def aUG s0 R:=(.mk _:NR apC at1 Tryz.f193 [] [] s0 R).p
def bgk{R:cC}(h:H0 λs0=>aUG s0 R):Ct 193 [] R:=z0 at1 Rk func193 h
def aVS s0 R:=(.mk _:NR apC at1 Tryz.f182 [] [] s0 R).p
def bhz{R:cC}(h:H0 λs0=>aVS s0 R):Ct 182 [] R:=z0 at1 Rk func182 h
def a9S:=kW 21 [(3,([9],[0,1,2,3])),(11,([10,11,12],[0,1,2,3,9])),(14,([10,11],[0,1,2,3,9,12]))]
def bhq{a a1 b c}:=y0 Rk func124 a9S [a,a1,b,c]
def bg3{a a1}:=yB Rk func276 atS [a,a1]
end
inductive u7 where
 |mk(op n:Int)(name:ByteArray)(l:List u7)
def u7.op:u7->Int| .mk a _ _ _=>a
def u7.n:u7->Int| .mk _ a _ _=>a
def u7.name:u7->ByteArray| .mk _ _ a _=>a
def u7.l:u7->List u7| .mk _ _ _ a=>a
instance:Inhabited u7:=⟨.mk 0 0 ⟨#[]⟩ []⟩
mutual
def u7.c:u7->dM| .mk op n a l=>[iv op,iv n,st a, .l (u7.cr l) I I]
def u7.cr:List u7->List (dM)|[]=>[]|e::l=>u7.c e::u7.cr l
end
def u7.cr_eq:∀{l},u7.cr l=l.map u7.c
 |[]=>by simp only[u7.cr,mU]
 |e::l=>by simp only[u7.cr,ji,u7.cr_eq]
def aoH{x}:u7.c x=[iv x.op,iv x.n,st x.name,sl u7.c x.l]:=by cases x;simp only[u7.c,u7.cr_eq,u7.op,u7.n,u7.name,u7.l,sl]
inductive m8 where
 |mk(op line:Int)(name arg:ByteArray)(index:List u7)(expr:u7)(body els:List m8)
def m8.op:m8->Int| .mk a _ _ _ _ _ _ _=>a
def m8.line:m8->Int| .mk _ a _ _ _ _ _ _=>a
def m8.name:m8->ByteArray| .mk _ _ a _ _ _ _ _=>a
def m8.arg:m8->ByteArray| .mk _ _ _ a _ _ _ _=>a
def m8.index:m8->List u7| .mk _ _ _ _ a _ _ _=>a
def m8.expr:m8->u7| .mk _ _ _ _ _ a _ _=>a
def m8.body:m8->List m8| .mk _ _ _ _ _ _ a _=>a
def m8.els:m8->List m8| .mk _ _ _ _ _ _ _ a=>a
instance:Inhabited m8:=⟨.mk 0 0 ⟨#[]⟩ ⟨#[]⟩ [] default [] []⟩
mutual
def m8.c:m8->dM| .mk op e b arg index a d els=>[iv op,iv e,st b,st arg,sl u7.c index,iv a.op,iv a.n,st a.name,sl u7.c a.l, .l (m8.cr d) I I, .l (m8.cr els) I I]
def m8.cr:List m8->List (dM)|[]=>[]|e::l=>m8.c e::m8.cr l
end
def m8.cr_eq:∀{l},m8.cr l=l.map m8.c
 |[]=>by simp only[m8.cr,mU]
 |e::l=>by simp only[m8.cr,ji,m8.cr_eq]
def bkk{x}:m8.c x=[iv x.op,iv x.line,st x.name,st x.arg,sl u7.c x.index,iv x.expr.op,iv x.expr.n,st x.expr.name,sl u7.c x.expr.l,sl m8.c x.body,sl m8.c x.els]:=by cases x;simp only[m8.c,m8.cr_eq,m8.op,m8.line,m8.name,m8.arg,m8.index,m8.expr,m8.body,m8.els,sl]
structure w6 where
 kind:Int
 line:Int
 name:ByteArray
 size:Int
 init:Int
 on:ByteArray
 deriving Inhabited
def w6.c(x:w6):dM:=[iv x.kind,iv x.line,st x.name,iv x.size,iv x.init,st x.on]
structure aQd where
 name:ByteArray
 line:Int
 locs:List ByteArray
 body:List m8
 deriving Inhabited
def aQd.c(x:aQd):dM:=[st x.name,iv x.line,sl cs x.locs,sl m8.c x.body]
structure aPZ where
 bnq:List w6
 ay:List aQd
 deriving Inhabited
def aPZ.c(x:aPZ):dM:=[sl w6.c x.bnq,sl aQd.c x.ay]
structure awG where
 op:Int
 a:Int
 b:Int
 k:Int
 n:Int
 site:Int
 deriving Inhabited
def awG.c(x:awG):dM:=[iv x.op,iv x.a,iv x.b,iv x.k,iv x.n,iv x.site]
structure bcV where
 I9:Int
 big:List awG
 deriving Inhabited
def bcV.c(x:bcV):dM:=[iv x.I9,sl awG.c x.big]
structure aOw where
 aQ:pz
 ay:List bcV
 deriving Inhabited
def aOw.c(x:aOw):dM:=x.aQ.c++[sl bcV.c x.ay]
structure aNZ where
 pc:Int
 I9:d0
 NA:List (d0)
 ac:Int
 deriving Inhabited
def aNZ.c(x:aNZ):dM:=[iv x.pc,sl ci x.I9,sl cl x.NA,iv x.ac]
structure aNV where
 bW:aW
 cells:d0
 bU:d0
 ay:List aNZ
 deriving Inhabited
def aNV.c(x:aNV):dM:=x.bW.c++[sl ci x.cells,sl ci x.bU,sl aNZ.c x.ay]
structure bim where
 aQ:pz
 ac:List aP
 deriving Inhabited
def bim.c(x:bim):dM:=x.aQ.c++[sl aP.c x.ac]
def aN9{x}:L (u7.c x)=4:=by rw[aoH];rfl
theorem biw{x}:L (m8.c x)=11:=by rw[bkk];rfl
section
variable{K:cC}{Y:ae}{i:Int}
def bcY{l}:rV (cz 4 Y (sl u7.c l)<|iv i) K=(aF (L l) i/\K (.q<|u7.c<|gd l i.toNat)):=aBz λ_=>aN9
def bc0{l}:rV (cz 11 Y (sl m8.c l)<|iv i) K=(aF (L l) i/\K (.q<|m8.c<|gd l i.toNat)):=aBz λ_=>biw
def bcX{l}:rV (cz 6 Y (sl w6.c l)<|iv i) K=(aF (L l) i/\K (.q<|w6.c<|gd l i.toNat)):=aBz λ_=>rfl
def bc2{l}:rV (cz 4 Y (sl aQd.c l)<|iv i) K=(aF (L l) i/\K (.q<|aQd.c<|gd l i.toNat)):=aBz λ_=>rfl
def bcZ{l}:rV (cz 6 Y (sl awG.c l)<|iv i) K=(aF (L l) i/\K (.q<|awG.c<|gd l i.toNat)):=aBz λ_=>rfl
def bc1{l}:rV (cz 2 Y (sl bcV.c l)<|iv i) K=(aF (L l) i/\K (.q<|bcV.c<|gd l i.toNat)):=aBz λ_=>rfl
def bc3{l}:rV (cz 4 Y (sl aNZ.c l)<|iv i) K=(aF (L l) i/\K (.q<|aNZ.c<|gd l i.toNat)):=aBz λ_=>rfl
def aPR{a b:Int}:aTH .rem 0 [] (iv a) (iv b)=if b≠0 then V (iv<|a.tmod b) else J:=by by_cases h:b=0<;>simp[aTH,zP,h]
def a5N{a b:Int}:aTH .quo 0 [] (iv a) (iv b)=if b≠0 then V (iv<|dq.wrap<|a.tdiv b) else J:=by by_cases h:b=0<;>simp[aTH,zP,h]
end
def ixv:=ai @bcY<|ai @bc0<|ai @bcX<|ai @bc2<|ai @bcZ<|ai @bc1<|@bc3
mutual
def a53:∀{x y:u7},u7.c x=u7.c y->x=y
 | .mk a b c d, .mk e f g j,h=>by
  simp only[u7.c,kO,AV.s.injEq,mW,mX,AV.l.injEq,aNG,aO5] at h
  obtain⟨rfl,rfl,rfl,h⟩:=h
  rw[a6d h]
def a6d:∀{x y:List u7},u7.cr x=u7.cr y->x=y
 |[],[],_=>rfl
 |[],_::_,h=>by grind [u7.cr]
 |_::_,[],h=>by grind [u7.cr]
 |a::l,b::m,h=>by
  simp only[u7.cr,kO] at h
  rw[a53 h.1,a6d h.2]
end
theorem aOD{x y:u7}:(u7.c x=u7.c y)=(x=y):=aPo ⟨a53,λh=>by rw[h]⟩
def aOZ{l l'}:(sl u7.c l=sl u7.c l')=(l=l'):=(by grind [kL,aOD])
mutual
def a54:∀{x y:m8},m8.c x=m8.c y->x=y
 | .mk a b c d e f g i, .mk k m o p t j u B,h=>by
  simp only[m8.c,kO,AV.s.injEq,mW,mX,AV.l.injEq,aNG,aO5,aOZ] at h
  obtain⟨rfl,rfl,rfl,rfl,rfl,v,w,z,A,q,r⟩:=h
  have:f=j:=by
   obtain⟨a,b,c,d⟩:=f;obtain⟨k,m,o,p⟩:=j
   grind [u7.op,u7.n,u7.name,u7.l]
  rw[this,aV9 q,aV9 r]
def aV9:∀{x y:List m8},m8.cr x=m8.cr y->x=y
 |[],[],_=>rfl
 |[],_::_,h=>by grind [m8.cr]
 |_::_,[],h=>by grind [m8.cr]
 |a::l,b::m,h=>by
  simp only[m8.cr,kO] at h
  rw[a54 h.1,aV9 h.2]
end
theorem a6B{x y:m8}:(m8.c x=m8.c y)=(x=y):=aPo ⟨a54,λh=>by rw[h]⟩
def aO0{l l'}:(sl m8.c l=sl m8.c l')=(l=l'):=(by grind [kL,a6B])
structure TCh where
 aq:Int
 arm:Int
 deriving Inhabited,DecidableEq
def TCh.c(x:TCh):dM:=[iv x.aq,iv x.arm]
theorem aOY{x y:w6}:(w6.c x=w6.c y)=(x=y):=by apply aPo;constructor;intro h;(cases x;cases y);simp only[w6.c,pz.c,aW.c,zn,dW,kO,AV.s.injEq,mW,mV,mX,aNG,aO5,amV,aOD,aOZ,aO0] at h;simp only[w6.mk.injEq,pz.ext_iff',aW.ext_iff',I5.ext_iff',bm1];exact h;intro h;rw[h]
def aPj{l l'}:(sl w6.c l=sl w6.c l')=(l=l'):=(by grind [kL,aOY])
theorem aPD{x y:aQd}:(aQd.c x=aQd.c y)=(x=y):=by apply aPo;constructor;intro h;(cases x;cases y);simp only[aQd.c,pz.c,aW.c,zn,dW,kO,AV.s.injEq,mW,mV,mX,aNG,aO5,amV,aOD,aOZ,aO0,aOY,aPj] at h;simp only[aQd.mk.injEq,pz.ext_iff',aW.ext_iff',I5.ext_iff',bm1];exact h;intro h;rw[h]
def aPE{l l'}:(sl aQd.c l=sl aQd.c l')=(l=l'):=(by grind [kL,aPD])
theorem aPC{x y:aPZ}:(aPZ.c x=aPZ.c y)=(x=y):=by apply aPo;constructor;intro h;(cases x;cases y);simp only[aPZ.c,pz.c,aW.c,zn,dW,kO,AV.s.injEq,mW,mV,mX,aNG,aO5,amV,aOD,aOZ,aO0,aOY,aPj,aPD,aPE] at h;simp only[aPZ.mk.injEq,pz.ext_iff',aW.ext_iff',I5.ext_iff',bm1];exact h;intro h;rw[h]
def aQr{l l'}:(sl aPZ.c l=sl aPZ.c l')=(l=l'):=(by grind [kL,aPC])
theorem aPX{x y:awG}:(awG.c x=awG.c y)=(x=y):=by apply aPo;constructor;intro h;(cases x;cases y);simp only[awG.c,pz.c,aW.c,zn,dW,kO,AV.s.injEq,mW,mV,mX,aNG,aO5,amV,aOD,aOZ,aO0,aOY,aPj,aPD,aPE,aPC,aQr] at h;simp only[awG.mk.injEq,pz.ext_iff',aW.ext_iff',I5.ext_iff',bm1];exact h;intro h;rw[h]
def aQq{l l'}:(sl awG.c l=sl awG.c l')=(l=l'):=(by grind [kL,aPX])
theorem aQp{x y:bcV}:(bcV.c x=bcV.c y)=(x=y):=by apply aPo;constructor;intro h;(cases x;cases y);simp only[bcV.c,pz.c,aW.c,zn,dW,kO,AV.s.injEq,mW,mV,mX,aNG,aO5,amV,aOD,aOZ,aO0,aOY,aPj,aPD,aPE,aPC,aQr,aPX,aQq] at h;simp only[bcV.mk.injEq,pz.ext_iff',aW.ext_iff',I5.ext_iff',bm1];exact h;intro h;rw[h]
def aRT{l l'}:(sl bcV.c l=sl bcV.c l')=(l=l'):=(by grind [kL,aQp])
theorem aQY{x y:aOw}:(aOw.c x=aOw.c y)=(x=y):=by apply aPo;constructor;intro h;(cases x;cases y);simp only[aOw.c,pz.c,aW.c,zn,dW,kO,AV.s.injEq,mW,mV,mX,aNG,aO5,amV,aOD,aOZ,aO0,aOY,aPj,aPD,aPE,aPC,aQr,aPX,aQq,aQp,aRT] at h;simp only[aOw.mk.injEq,pz.ext_iff',aW.ext_iff',I5.ext_iff',bm1];exact h;intro h;rw[h]
def aTm{l l'}:(sl aOw.c l=sl aOw.c l')=(l=l'):=(by grind [kL,aQY])
theorem aRS{x y:aNZ}:(aNZ.c x=aNZ.c y)=(x=y):=by apply aPo;constructor;intro h;(cases x;cases y);simp only[aNZ.c,pz.c,aW.c,zn,dW,kO,AV.s.injEq,mW,mV,mX,aNG,aO5,amV,aOD,aOZ,aO0,aOY,aPj,aPD,aPE,aPC,aQr,aPX,aQq,aQp,aRT,aQY,aTm] at h;simp only[aNZ.mk.injEq,pz.ext_iff',aW.ext_iff',I5.ext_iff',bm1];exact h;intro h;rw[h]
def aWB{l l'}:(sl aNZ.c l=sl aNZ.c l')=(l=l'):=(by grind [kL,aRS])
theorem aTl{x y:aNV}:(aNV.c x=aNV.c y)=(x=y):=by apply aPo;constructor;intro h;(cases x;cases y);simp only[aNV.c,pz.c,aW.c,zn,dW,kO,AV.s.injEq,mW,mV,mX,aNG,aO5,amV,aOD,aOZ,aO0,aOY,aPj,aPD,aPE,aPC,aQr,aPX,aQq,aQp,aRT,aQY,aTm,aRS,aWB] at h;simp only[aNV.mk.injEq,pz.ext_iff',aW.ext_iff',I5.ext_iff',bm1];exact h;intro h;rw[h]
def a6C{l l'}:(sl aNV.c l=sl aNV.c l')=(l=l'):=(by grind [kL,aTl])
theorem aWA{x y:bim}:(bim.c x=bim.c y)=(x=y):=by apply aPo;constructor;intro h;(cases x;cases y);simp only[bim.c,pz.c,aW.c,zn,dW,kO,AV.s.injEq,mW,mV,mX,aNG,aO5,amV,aOD,aOZ,aO0,aOY,aPj,aPD,aPE,aPC,aQr,aPX,aQq,aQp,aRT,aQY,aTm,aRS,aWB,aTl,a6C] at h;simp only[bim.mk.injEq,pz.ext_iff',aW.ext_iff',I5.ext_iff',bm1];exact h;intro h;rw[h]
def bcS{l l'}:(sl bim.c l=sl bim.c l')=(l=l'):=(by grind [kL,aWA])
theorem a6A{x y:TCh}:(TCh.c x=TCh.c y)=(x=y):=by apply aPo;constructor;intro h;(cases x;cases y);simp only[TCh.c,pz.c,aW.c,zn,dW,kO,AV.s.injEq,mW,mV,mX,aNG,aO5,amV,aOD,aOZ,aO0,aOY,aPj,aPD,aPE,aPC,aQr,aPX,aQq,aQp,aRT,aQY,aTm,aRS,aWB,aTl,a6C,aWA,bcS] at h;simp only[TCh.mk.injEq,pz.ext_iff',aW.ext_iff',I5.ext_iff',bm1];exact h;intro h;rw[h]
def bcR{l l'}:(sl TCh.c l=sl TCh.c l')=(l=l'):=(by grind [kL,a6A])
def ijv:=ai @aOD<|ai @a6B<|ai @aO0<|ai @aOY<|ai @aPj<|ai @aPE<|ai @aPC<|ai @aPX<|ai @aQq<|ai @aQp<|ai @aQY<|ai @aRS<|ai @aTl<|ai @aWA<|ai @a6A<|@bcR
def ben{x}:aN J (u7.c x)=V (iv x.op):=by rw[aoH];rfl
def beo{x}:aN J ((u7.c x).drop 1)=V (iv x.n):=by rw[aoH];rfl
def bep{x}:aN J ((u7.c x).drop 2)=V (st x.name):=by rw[aoH];rfl
def ber{x}:aN J ((u7.c x).drop 3)=V (sl u7.c x.l):=by rw[aoH];rfl
theorem a69{x}:aN (V 4) (u7.c x)=V (.a<|u7.c x):=by rw[aoH];rfl
def beI{x}:aN J (m8.c x)=V (iv x.op):=by rw[bkk];rfl
def beJ{x}:aN J ((m8.c x).drop 1)=V (iv x.line):=by rw[bkk];rfl
def beL{x}:aN J ((m8.c x).drop 2)=V (st x.name):=by rw[bkk];rfl
def beM{x}:aN J ((m8.c x).drop 3)=V (st x.arg):=by rw[bkk];rfl
def beN{x}:aN J ((m8.c x).drop 4)=V (sl u7.c x.index):=by rw[bkk];rfl
def beO{x}:aN J ((m8.c x).drop 9)=V (sl m8.c x.body):=by rw[bkk];rfl
def beK{x}:aN J ((m8.c x).drop 10)=V (sl m8.c x.els):=by rw[bkk];rfl
def beP{x}:aN (V 4) ((m8.c x).drop 5)=V (.a<|u7.c x.expr):=by rw[bkk,aoH];rfl
def beQ{x}:aN (V 11) (m8.c x)=V (.a<|m8.c x):=by rw[bkk];rfl
def bef{x}:aN J (w6.c x)=V (iv x.kind):=rfl
def beg{x}:aN J ((w6.c x).drop 1)=V (iv x.line):=rfl
def beh{x}:aN J ((w6.c x).drop 2)=V (st x.name):=rfl
def bei{x}:aN J ((w6.c x).drop 3)=V (iv x.size):=rfl
def bej{x}:aN J ((w6.c x).drop 4)=V (iv x.init):=rfl
def bek{x}:aN J ((w6.c x).drop 5)=V (st x.on):=rfl
def bem{x}:aN (V 6) (w6.c x)=V (.a<|w6.c x):=rfl
def beU{x}:aN J (aQd.c x)=V (st x.name):=rfl
def beV{x}:aN J ((aQd.c x).drop 1)=V (iv x.line):=rfl
def beW{x}:aN J ((aQd.c x).drop 2)=V (sl cs x.locs):=rfl
def beX{x}:aN J ((aQd.c x).drop 3)=V (sl m8.c x.body):=rfl
def beY{x}:aN (V 4) (aQd.c x)=V (.a<|aQd.c x):=rfl
def bez{x}:aN J (aPZ.c x)=V (sl w6.c x.bnq):=rfl
def beA{x}:aN J ((aPZ.c x).drop 1)=V (sl aQd.c x.ay):=rfl
def beB{x}:aN (V 2) (aPZ.c x)=V (.a<|aPZ.c x):=rfl
def bes{x}:aN J (awG.c x)=V (iv x.op):=rfl
def bet{x}:aN J ((awG.c x).drop 1)=V (iv x.a):=rfl
def beu{x}:aN J ((awG.c x).drop 2)=V (iv x.b):=rfl
def bev{x}:aN J ((awG.c x).drop 3)=V (iv x.k):=rfl
def bew{x}:aN J ((awG.c x).drop 4)=V (iv x.n):=rfl
def bex{x}:aN J ((awG.c x).drop 5)=V (iv x.site):=rfl
def bey{x}:aN (V 6) (awG.c x)=V (.a<|awG.c x):=rfl
def beR{x}:aN J (bcV.c x)=V (iv x.I9):=rfl
def beS{x}:aN J ((bcV.c x).drop 1)=V (sl awG.c x.big):=rfl
def beT{x}:aN (V 2) (bcV.c x)=V (.a<|bcV.c x):=rfl
def bd9{x}:aN J (aOw.c x)=V (sl cA.c x.aQ.cells):=rfl
def bea{x}:aN J ((aOw.c x).drop 3)=V (sl cs x.aQ.bU):=rfl
def beb{x}:aN J ((aOw.c x).drop 4)=V (sl cs x.aQ.ay):=rfl
def bec{x}:aN J ((aOw.c x).drop 6)=V (sl bcV.c x.ay):=rfl
def bed{x}:aN (V 6) (aOw.c x)=V (.a<|x.aQ.c):=rfl
def bee{x}:aN (V 7) (aOw.c x)=V (.a<|aOw.c x):=rfl
def beZ{x}:aN J (aNZ.c x)=V (iv x.pc):=rfl
def be0{x}:aN J ((aNZ.c x).drop 1)=V (sl ci x.I9):=rfl
def be1{x}:aN J ((aNZ.c x).drop 2)=V (sl cl x.NA):=rfl
def be2{x}:aN (V 4) (aNZ.c x)=V (.a<|aNZ.c x):=rfl
def beC{x}:aN J ((aNV.c x).drop 3)=V (sl aoC.c x.bW.ay):=rfl
def beD{x}:aN J ((aNV.c x).drop 4)=V (sl ci x.cells):=rfl
def beE{x}:aN J ((aNV.c x).drop 5)=V (sl ci x.bU):=rfl
def beF{x}:aN J ((aNV.c x).drop 6)=V (sl aNZ.c x.ay):=rfl
def beG{x}:aN (V 4) (aNV.c x)=V (.a<|x.bW.c):=rfl
def beH{x}:aN (V 7) (aNV.c x)=V (.a<|aNV.c x):=rfl
def bpn{x}:aN J (TCh.c x)=V (iv x.aq):=rfl
def bpo{x}:aN J ((TCh.c x).drop 1)=V (iv x.arm):=rfl
def bpp{x}:aN (V 2) (TCh.c x)=V (.a<|TCh.c x):=rfl
def aRf{a l}:aN J (a::l)=V a:=rfl
def bhZ{α:Type}{a n}{l:List α}:aOz (n+1) (a::l)=aOz n l:=rfl
def aQ6{α:Type}{l:List α}:aOz 0 l=l:=rfl
def H7:=ai @ben<|ai @beo<|ai @bep<|ai @ber<|ai @a69<|ai @beI<|ai @beJ<|ai @beL<|ai @beM<|ai @beN<|ai @beO<|ai @beK<|ai @beP<|ai @beQ<|ai @bef<|ai @beg<|ai @beh<|ai @bei<|ai @bej<|ai @bek<|ai @bem<|ai @beU<|ai @beV<|ai @beW<|ai @beX<|ai @beY<|ai @bez<|ai @beA<|ai @beB<|ai @bes<|ai @bet<|ai @beu<|ai @bev<|ai @bew<|ai @bex<|ai @bey<|ai @beR<|ai @beS<|ai @beT<|ai @bd9<|ai @bea<|ai @beb<|ai @bec<|ai @bed<|ai @bee<|ai @beZ<|ai @be0<|ai @be1<|ai @be2<|ai @beC<|ai @beD<|ai @beE<|ai @beF<|ai @beG<|ai @beH<|ai @bpn<|ai @bpo<|ai @bpp<|ai @aRf<|ai @bhZ<|@aQ6
def bab{Y x}:dG Y (.a<|u7.c x)= .a (u7.c x):=by rw[aoH];rfl
def baf{Y x}:dG Y (.a<|m8.c x)= .a (m8.c x):=by rw[bkk];rfl
def baa{Y x}:dG Y (.a<|w6.c x)= .a (w6.c x):=rfl
def bad{Y x}:dG Y (.a<|aPZ.c x)= .a (aPZ.c x):=rfl
def bac{Y x}:dG Y (.a<|awG.c x)= .a (awG.c x):=rfl
def bag{Y x}:dG Y (.a<|bcV.c x)= .a (bcV.c x):=rfl
def a99{Y x}:dG Y (.a<|aOw.c x)= .a (aOw.c x):=rfl
def bai{Y x}:dG Y (.a<|aNZ.c x)= .a (aNZ.c x):=rfl
def bae{Y x}:dG Y (.a<|aNV.c x)= .a (aNV.c x):=rfl
def bah{Y x}:dG Y (.a<|bim.c x)= .a (bim.c x):=rfl
def a98{Y x}:dG Y (.a<|TCh.c x)= .a (TCh.c x):=rfl
def bba{v}:iX (.s v)=U:=rfl
def ba8{α f}{l:List α}:iX (sl f l)=U:=rfl
def bbb{x}:iX (.a<|u7.c x)=U:=by simp[iX,eN,aoH,sl]
def bbd{x}:iX (.a<|m8.c x)=U:=by simp[iX,eN,bkk,sl]
def bbc{x}:iX (.a<|aPZ.c x)=U:=rfl
def aOW:=ai @bba<|ai @ba8<|ai @bbb<|ai @bbd<|@bbc
def Fa:=ai @bab<|ai @baf<|ai @baa<|ai @bad<|ai @bac<|ai @bag<|ai @a99<|ai @bai<|ai @bae<|ai @bah<|@a98
section
variable{K:cC}{Y:ae}{i:Int}
end
abbrev qN:ByteArray:=⟨#[113]⟩
def shE:Nat->u7->Prop|0,_=>False|n+1,e=>(((e.op=1\/e.op=2)/\e.l=[])\/(e.op=3/\e.name=qN/\L e.l=1)\/(6<=e.op/\L e.l=2))/\∀x∈e.l,shE n x
theorem shE.len{n:Nat}{e}(h:shE n e):L e.l<=2:=by cases n with|zero=>exact h.elim|succ n=>rcases h.1 with⟨_,h⟩|⟨_,_,h⟩|⟨_,h⟩<;>simp[h]
theorem shE.sub{n:Nat}{e}(h:shE n e){k:Nat}(a:k<L e.l):∃m,n=m+1/\shE m (gd e.l k):=by cases n with|zero=>exact h.elim|succ n=>exact⟨n,rfl,h.2 _ (dB a)⟩
theorem shE.mono:∀{n m e},shE n e->n<=m->shE m e
 |0,_,_,h,_=>h.elim
 |n+1,0,_,_,h=>by omega
 |n+1,m+1,e,h,b=>⟨h.1,λx a=>(h.2 x a).mono<|by omega⟩
def shS:Nat->m8->Prop|0,_=>False|n+1,s=>((s.op=1\/s.op=2\/s.op=3\/s.op=14)->shE 2 s.expr)/\L s.index<=1/\(∀x∈s.index,shE 2 x)/\(s.index≠[]->s.name=qN)/\L s.expr.l<=2/\L s.body<=4/\(∀x∈s.body,shS n x)/\L s.els<=4/\(∀x∈s.els,shS n x)/\1<=s.op/\s.op<=15
def shS.up{n s}(h:shS n s):∃m,n=m+1/\(∀x∈s.body,shS m x)/\∀x∈s.els,shS m x:=by cases n with|zero=>exact h.elim|succ n=>exact⟨n,rfl,h.2.2.2.2.2.2.1,h.2.2.2.2.2.2.2.2.1⟩
def shS.at{n:Nat}{s}(h:shS n s):((s.op=1\/s.op=2\/s.op=3\/s.op=14)->shE 2 s.expr)/\L s.index<=1/\(∀x∈s.index,shE 2 x)/\(s.index≠[]->s.name=qN)/\L s.expr.l<=2/\L s.body<=4/\L s.els<=4:=by cases n with|zero=>exact h.elim|succ n=>exact⟨h.1,h.2.1,h.2.2.1,h.2.2.2.1,h.2.2.2.2.1,h.2.2.2.2.2.1,h.2.2.2.2.2.2.2.1⟩
def shS.ops{n s}(h:shS n s):1<=s.op/\s.op<=15:=by cases n with|zero=>exact h.elim|succ n=>exact h.2.2.2.2.2.2.2.2.2
theorem shS.mono:∀{n m s},shS n s->n<=m->shS m s
 |0,_,_,h,_=>h.elim
 |n+1,0,_,_,h=>by omega
 |n+1,m+1,s,⟨c,d,e,f,g,i,j,k,l,b⟩,o=>⟨c,d,e,f,g,i,λx a=>(j x a).mono (by omega),k,λx a=>(l x a).mono (by omega),b⟩
def shL(n m:Nat)(l:List m8):Prop:=L l<=m/\∀s∈l,shS n s
def shS.body{n s}(h:shS n s):∃m,n=m+1/\shL m 4 s.body/\shL m 4 s.els:=by obtain⟨m,e,a,b⟩:=h.up;exact⟨m,e,⟨h.at.2.2.2.2.2.1,a⟩,⟨h.at.2.2.2.2.2.2,b⟩⟩
def shT(t:aQd):Prop:=L t.locs<=4/\shL 4 8 t.body
def PrB(p:aPZ):Prop:=L p.bnq<1000/\L p.ay<1000/\∀t∈p.ay,L t.locs<1000
def shP(p:aPZ):Prop:=PrB p/\L p.ay<=4/\∀t∈p.ay,shT t
section
variable{i:Nat}(F:FT)
def aP7{A:Type}{b:A->dM}{c:A->cC}(k:∀a,Ct i (b a)<|c a):FT:=λys K=>∃a,ys=b a/\∀r,c a r->K r
def aRM{A:Type}{b:A->dM}{d:A->cC}(k:∀a,Ct i (b a)<|d a)(f:F=aP7 k:=by exact rfl)(j:∀a c,b a=b c->a=c:=by simp+contextual only[ij])(a:A)(Lw K:cC):fW F (b a) Lw K=(∀r,d a r->Lw r/\K r):=by subst f;apply aPo;constructor;rintro⟨c,h,e⟩;obtain rfl:=j _ _ h;exact e;intro h;exact⟨_,rfl,h⟩
def aR6{A:Type}{b:A->dM}{e:A->cC}(k:∀a,Ct i (b a)<|e a)(c:∀a,(b a).all iX=U:=by intros;exact rfl):∀ys K,aP7 k ys K->jz aS GG i ys K:=by rintro ys K ⟨a,rfl,h⟩;exact nX (k a) (c a) (λr d=>h r d)
def aRd{A B:Type}{c:A->B->dM}{d:A->B->cC}(k:∀a b,Ct i (c a b)<|d a b):FT:=λys K=>∃a b,ys=c a b/\∀r,d a b r->K r
def aWg{A B:Type}{c:A->B->dM}{f:A->B->cC}(k:∀a b,Ct i (c a b)<|f a b)(l:F=aRd k:=by exact rfl)(j:∀a b d e,c a b=c d e->a=d/\b=e:=by simp+contextual only[ij])(a:A)(b:B)(Lw K:cC):fW F (c a b) Lw K=(∀r,f a b r->Lw r/\K r):=by subst l;apply aPo;constructor;rintro⟨d,e,h,g⟩;obtain⟨rfl,rfl⟩:=j _ _ _ _ h;exact g;intro h;exact⟨_,_,rfl,h⟩
def aYm{A B:Type}{c:A->B->dM}{f:A->B->cC}(k:∀a b,Ct i (c a b)<|f a b)(d:∀a b,(c a b).all iX=U:=by intros;exact rfl):∀ys K,aRd k ys K->jz aS GG i ys K:=by rintro ys K ⟨a,b,rfl,h⟩;exact nX (k a b) (d a b) (λr e=>h r e)
def aSb{A B C:Type}{d:A->B->C->dM}{e:A->B->C->cC}(k:∀a b c,Ct i (d a b c)<|e a b c):FT:=λys K=>∃a b c,ys=d a b c/\∀r,e a b c r->K r
def a6o{A B C:Type}{d:A->B->C->dM}{l:A->B->C->cC}(k:∀a b c,Ct i (d a b c)<|l a b c)(n:F=aSb k:=by exact rfl)(j:∀a b c e f g,d a b c=d e f g->a=e/\b=f/\c=g:=by simp+contextual only[ij])(a:A)(b:B)(c:C)(Lw K:cC):fW F (d a b c) Lw K=(∀r,l a b c r->Lw r/\K r):=by subst n;apply aPo;constructor;rintro⟨e,f,g,h,m⟩;obtain⟨rfl,rfl,rfl⟩:=j _ _ _ _ _ _ h;exact m;intro h;exact⟨_,_,_,rfl,h⟩
def a7W{A B C:Type}{d:A->B->C->dM}{g:A->B->C->cC}(k:∀a b c,Ct i (d a b c)<|g a b c)(e:∀a b c,(d a b c).all iX=U:=by intros;exact rfl):∀ys K,aSb k ys K->jz aS GG i ys K:=by rintro ys K ⟨a,b,c,rfl,h⟩;exact nX (k a b c) (e a b c) (λr f=>h r f)
def aTQ{A B C D E:Type}{f:A->B->C->D->E->dM}{g:A->B->C->D->E->Prop}{h:A->B->C->D->E->cC}(k:∀a b c d e,g a b c d e->Ct i (f a b c d e) (h a b c d e)):FT:=λys K=>∃a b c d e,ys=f a b c d e/\g a b c d e/\∀r,h a b c d e r->K r
def bbn{A B C D E:Type}{f:A->B->C->D->E->dM}{p:A->B->C->D->E->Prop}{q:A->B->C->D->E->cC}(k:∀a b c d e,p a b c d e->Ct i (f a b c d e) (q a b c d e))(t:F=aTQ k:=by exact rfl)(j:∀a b c d e g l m n o,f a b c d e=f g l m n o->a=g/\b=l/\c=m/\d=n/\e=o:=by simp+contextual only[ij])(a:A)(b:B)(c:C)(d:D)(e:E)(Lw K:cC):fW F (f a b c d e) Lw K=(p a b c d e/\∀r,q a b c d e r->Lw r/\K r):=by subst t;apply aPo;constructor;rintro⟨g,l,m,n,o,h,s⟩;obtain⟨rfl,rfl,rfl,rfl,rfl⟩:=j _ _ _ _ _ _ _ _ _ _ h;exact s;intro h;exact⟨_,_,_,_,_,rfl,h⟩
def bhJ{A B C D E:Type}{f:A->B->C->D->E->dM}{m:A->B->C->D->E->Prop}{n:A->B->C->D->E->cC}(k:∀a b c d e,m a b c d e->Ct i (f a b c d e) (n a b c d e))(g:∀a b c d e,(f a b c d e).all iX=U:=by intros;exact rfl):∀ys K,aTQ k ys K->jz aS GG i ys K:=by rintro ys K ⟨a,b,c,d,e,rfl,j,h⟩;exact nX (k a b c d e j) (g a b c d e) (λr l=>h r l)
end
def bmL:AV->AV| .t vs=> .t (vs.map nrm)|x=>nrm x
theorem bdV{κ w Y β v x}(h:ba κ w Y β v x):ba κ w Y β v (bmL x):=by cases x with|t vs=>(cases h with|t d h=>refine .t (by grind) λi v c f b=>?_;grind [bE,yo])|_=>exact yo h
theorem a6f{x}:nj (gK x)=nj x:=by cases x<;>rfl
theorem aWa{x}:pF (nrm x)=pF x:=by cases x with|a cs=>grind [nrm,pF,List.all_map,a6f]|_=>first|rfl|exact a6f
def ba7{x}:kG (bmL x)=kG x:=by have h:=@aWa x;(cases x<;>first|exact h|skip);grind [bmL,kG,List.all_map,aWa]
def aDq{fn ys Q}(h:Ct fn ys λr=>Q<|bmL r):Ct fn ys Q:=by obtain⟨r,f,g,i,j⟩:=h;refine⟨bmL r,f,by rw[ba7];exact g,i,λF w d a b c=>(j F w d a b c).mono ?_⟩;grind [bdV]
def fz(Y:ae)(c:AV):AV:=gK<|dQ Y c
def fzT(Y:ae):AV->AV| .a cs=> .a (cs.map<|fz Y)|x=>fz Y x
def bcq{Y c}:(∃l t o,dQ Y c= .l l t o)\/dQ Y c=c:=by(cases c<;>first|exact .inr rfl|skip);grind [box,dQ,eN,rS]
theorem aXU{Y x}:nrm (iZ Y x)=fzT Y x:=by cases x with|a cs=>simp only[iZ,nrm,fzT,vA];rfl|m b n=>show nrm (dQ Y<|.m b n)=gK (dQ Y<|.m b n);(rcases bcq (Y:=Y) (c:= .m b n) with⟨l,t,o,h⟩|h<;>rw[h]<;>rfl)|_=>rfl
theorem a6g{Y x}(h:iX (fzT Y x)=U):pF (iZ Y x)=U:=by have b:pF (nrm<|iZ Y x)=U:=(by rw[aXU];generalize fzT Y x=y at h;cases y with|a cs=>simp only[iX,dV] at h;simp only[pF,dV];intro c d;have:=h c d;(cases c<;>first|rfl|grind [eN])|_=>first|rfl|grind [iX,eN]);rwa [aWa] at b
def aOH{Q:cC}{Y vs vs'}(h:vs.map (fzT Y)=vs')(d:vs'.all iX=U)(c:Q<|aoz vs'):aE (λr=>Q<|bmL r) Y vs:=by have b:kG (.t<|vs.map<|iZ Y)=U/\bmL (.t<|vs.map<|iZ Y)= .t vs':=(by constructor;grind [kG,List.all_map,dV,a6g,List.mem_map_of_mem];simp only[bmL,vA,<-h];grind [ja,aXU]);unfold aE jS;rcases vs with _|⟨v,_|⟨w,l⟩⟩;subst h;exact⟨rfl,c⟩;subst h;simp only[ji,mU,Cs,aqG,ru] at d;have f:=a6g d;have g:bmL (iZ Y v)=fzT Y v/\kG (iZ Y v)=pF (iZ Y v):=(by rw[<-aXU];generalize iZ Y v=y at f;cases y<;>first|exact⟨rfl,rfl⟩|grind [pF,nj]);refine⟨by simp_all,?_⟩;show Q<|bmL<|iZ Y v;rw[g.1];exact c;subst h;refine⟨b.1,?_⟩;show Q<|bmL<|.t<|(v::w::l).map<|iZ Y;rw[b.2];exact c
def aOv{Q:cC}{Y v v'}(h:fzT Y v=v')(c:iX v'=U)(b:Q v'):aE (λr=>Q<|bmL r) Y [v]:=by subst h;exact aOH (vs':=[fzT Y v]) rfl (by simp[c]) b
theorem aQ7{Y v x}(h:fzT Y v=x)(b:iX x=U):aE (λr=>bmL r=x) Y [v]:=aOv (Q:=(·=x)) h b rfl
def sA(Y:ae)(e:TypeId)(z:Nat)(a:AV)(bA:List<|dM):Prop:=(bA=[]/\a= .l [] U U)\/∃b m,a= .m b (L bA)/\box Y b=V ⟨e,z,U,I,bA++m⟩
theorem bc.p{Y e z a bA}(h:bc Y e z a bA):sA Y e z a bA:=by rcases h with h|⟨b,c,d⟩;exact .inl h;exact .inr ⟨b,[],c,by simpa using d⟩
section
variable{Y Y':ae}{e:TypeId}{z:Nat}{a:AV}{bA:List (dM)}
theorem sA.fx{ks}(f:sA Y e z a bA)(d:Fx Y Y' ks)(g:∀b∈aA a,b∉ks):sA Y' e z a bA:=by rcases f with h|⟨b,m,rfl,c⟩;exact .inl h;exact .inr ⟨b,m,rfl,d.keep b _ (g b<|by simp[aA]) c⟩
def aWt{v}:fz Y (.s v)= .s v:=rfl
def bcz{t o}:fz Y (.l bA t o)= .l bA I I:=rfl
def aBr(h:sA Y e z a bA):fz Y a= .l bA I I:=by rcases h with⟨rfl,rfl⟩|⟨b,m,rfl,c⟩;rfl;simp[fz,dQ,c,gK]
def aWs(h:sA Y e z a bA):fzT Y a= .l bA I I:=by rw[<-aBr h];rcases h with⟨rfl,rfl⟩|⟨b,m,rfl,c⟩<;>rfl
def lz(Y:ae)(c:AV):AV:=gK<|gi Y c
def aQ5{v}:lz Y (.s v)= .s v:=rfl
def aXQ{t o}:lz Y (.l bA t o)= .l bA I I:=rfl
def aOb(h:sA Y e z a bA):lz Y a= .l bA I I:=by rcases h with⟨rfl,rfl⟩|⟨b,m,rfl,c⟩;rfl;simp[lz,gi,c,gK]
theorem sA.ce(h:sA Y e z a bA):eY a=V [a]:=by rcases h with⟨_,rfl⟩|⟨b,m,rfl,_⟩<;>rfl
theorem sA.ln(h:sA Y e z a bA):fS Y a=V (iv<|L bA):=by rcases h with⟨rfl,rfl⟩|⟨b,m,rfl,c⟩;rfl;simp[fS,c]
def sA.ar(h:sA Y e z a bA):dG Y a= .l bA I I:=by rcases h with⟨rfl,rfl⟩|⟨b,m,rfl,c⟩;rfl;simp[dG,eR,gi,c,nrm,gK]
def nlP{b i j x}(h:box Y b=V x):cO Y (.p b i j)=V (.p b i j):=by simp[cO,h]
theorem qs{d by':Nat}{zs new t o K}(i:sA Y e z a bA)(k:L zs=z)(n:0<z)(c:d<L Y)(u:∀r∈bA,L r=z)(s:∀r∈new,L r=z)(p:new≠[])(q:(L bA+L new)*(by'+1)<=1099511627776)(h:∀f Y',bc Y' e z f (bA++new)->Fx Y Y' (aA a)->(∀b∈aA f,bK Y b/\b.1=d)->K f Y'):eV (apA e zs by' Y d a<|.l new t o) K:=by unfold apA;simp only[gL];rw[r9 (by grind),sz ⟨by omega,by simp[aPF,c],by simp_all⟩];rcases i with⟨rfl,rfl⟩|⟨b,m,rfl,g⟩;simp only;rw[sz ⟨by simp,by grind [lx]⟩];refine h _ _ (.inr ⟨I8 Y d,by simp,?_⟩) ((kH c).mono<|by simp) (by simp[aA];exact⟨qQ Y d,rfl⟩);grind [iy];simp only[g];rw[sz ⟨trivial,trivial,k.symm,by simp,by grind [lx]⟩];have j:d<L (kill Y b):=(by grind [yg]);refine h _ _ (.inr ⟨I8 Y d,by simp,?_⟩) (((Le g).trans<|kH j).mono<|by simp[aA]) (by simp[aA];exact⟨qQ Y d,rfl⟩);grind [List.take_left',anF,iy]
theorem slP{i:Int}{K}(g:sA Y e z a bA)(f:0<=i)(j:i<=L bA)(d:∀c,sA Y e z c (bA.take i.toNat)->aA c=aA a->K c):rV (fo z Y a J (V<|iv i) J) K:=by have k:i.toNat<=L bA:=(by omega);rcases g with⟨rfl,rfl⟩|⟨b,m,rfl,n⟩;have h:i.toNat=0:=(by grind);have:fo z Y (.l [] U U) J (V<|iv i) J=V (.l [] U U):=(by simp[fo,lM,f,qY,h]);rw[this];exact d _ (.inl ⟨by simp,rfl⟩) rfl;have:fo z Y (.m b<|L bA) J (V<|iv i) J=V (.m b i.toNat):=(by grind [fo,lM,qY]);rw[this];refine d _ (.inr ⟨b,bA.drop i.toNat++m,?_,?_⟩) rfl;simp_all;grind [bje,List.take_append_drop]
theorem aOp:∀(l) (Y),Fx Y (kills Y l) l:=by intro l;induction l with|nil=>intro Y;exact Fx.refl _ _|cons b l d=>intro Y;show Fx Y (kills (if(box Y b).isSome then kill Y b else Y) l) (b::l);cases c:box Y b with|none=>grind [Fx.mono]|some x=>exact(Le c).trans<|d<|kill Y b
end
structure Lv(Y0 Y:ae)(cs tgt:dM):Prop where
 eq:cs.map (lz Y)=tgt
 nw:∀b∈eB (.a cs),bK Y0 b
def aQm{Y zs cs tgt}(d:cs.map (lz Y)=tgt)(b:L tgt=L zs)(f:0<L zs)(g:tgt.all eN=U)(i:L zs<=1000):aX zs 1 Y [(0, .a cs)]=V (.l [tgt] U U,kills Y<|eB<|.a cs):=by have h:nrm (eR Y<|.a cs)= .a tgt:=(by simp only[eR,nrm,vA,<-d];rfl);simp only[aX,ji,mU,h,Cz,RN,cL];have c:(List.replicate 1 zs).flatten=zs:=(by simp);rw[sz ⟨by omega,f⟩,c];simp only[aly,eY,b,Nat.zero_mul,aj,dA,aPe,a7g,CE,dW,Gz,cL,aPy,g,df];simp[kC,<-b]
theorem Lv.fx{d Y Y' cs tgt ks}(h:Lv d Y cs tgt)(f:Fx Y Y' ks)(l:∀b∈eB (.a cs),b∉ks)(i:tgt.all eN=U):Lv d Y' cs tgt:=by refine⟨?_,h.nw⟩;rw[<-h.eq];refine ja λc k=>?_;have j:eN (lz Y c)=U:=(by rw[<-h.eq] at i;simp_all);cases c with|m b n=>(cases g:box Y b with|none=>grind [lz,gi,gK,eN]|some x=>have:=f.keep b x (by grind [eB,iR]) g;grind [lz,gi])|_=>rfl
def aRA{e}{z d:Nat}{zs cs Y}{K:be}(l:L zs=z)(j:L cs=z)(h:0<z)(k:d<L Y)(i:∀v Y',Fx Y Y' []->bK Y (d,v)->box Y' (d,v)=V ⟨e,z,U,U,[cs]⟩->K (.p (d,v) 0 0) Y'):eV (alA e zs Y d) λp s=>sV (aK z s p<|.a cs) λs'=>K p s':=by refine alI l h k λv o b f g=>?_;refine cy (y:=z) (cs:=cs) g rfl j (by omega) λm c n=>?_;refine i v m ((b.trans c).mono<|by grind [bK.no]) f ?_;simp_all
def stW{Y b}{z:Nat}{e o r cs K}(f:box Y b=V ⟨e,z,o,U,[r]⟩)(j:L r=z)(g:L cs=z)(d:∀Y',Fx Y Y' [b]->box Y' b=V ⟨e,z,o,U,[cs]⟩->K Y'):sV (aK z Y (.p b 0 0)<|.a cs) K:=by refine cy (y:=z) (cs:=cs) f rfl g (by omega) λh c i=>d h c ?_;simp_all
def bdJ{Y q cs}:Iy q Y (.q cs)=aN q cs:=rfl
def stC{Y b}{j z:Nat}{e o r x K}(d:box Y b=V ⟨e,z,o,U,[r]⟩)(g:eY x=V [x])(f:j<L r)(c:∀Y',Fx Y Y' [b]->box Y' b=V ⟨e,z,o,U,[r.set j x]⟩->K Y'):sV (aK 1 Y (.p b 0 j) x) K:=by grind [cy,GP]
def aPW{i ys R Lw K}(h:Ct i ys R)(b:ys.all iX=U)(c:∀r,R r->Lw r/\K r):fW (cX i) ys Lw K:=nX h b c
def a6h{x}:iX (.a<|u7.c x)=U:=by simp[iX,eN,aoH,sl]
def aS7{x}:iX (.a<|m8.c x)=U:=by simp[iX,eN,bkk,sl]
def aV2{x}(h:iX x=U):[x].all iX=U:=by simp[h]
def apQ{Y:ae}{e:TypeId}{z d by' n:Nat}{zs:dM}{a:AV}{bA new:List (dM)}{t o:Bool}{K:be}(h:sA Y e z a bA)(m:L Y=n)(q:∀r∈bA,L r=z)(p:∀r∈new,L r=z)(g:new≠[])(j:(L bA+L new)*(by'+1)<=1099511627776)(i:∀c Y',bc Y' e z c (bA++new)->Fx Y Y' (aA a)->(∀b∈aA c,bK Y b/\b.1=d)->K c Y')(s:L zs=z:=by exact rfl)(f:0<z:=by decide)(k:d<n:=by decide):eV (apA e zs by' Y d a<|.l new t o) K:=qs h s f (m▸k) q p g j i
def anu{e:TypeId}{z d n:Nat}{zs cs:dM}{Y:ae}{K:be}(h:L Y=n)(c:∀v Y',Fx Y Y' []->bK Y (d,v)->box Y' (d,v)=V ⟨e,z,U,U,[cs]⟩->K (.p (d,v) 0 0) Y')(i:L zs=z:=by exact rfl)(f:L cs=z:=by exact rfl)(b:0<z:=by decide)(g:d<n:=by decide):eV (alA e zs Y d) λp s=>sV (aK z s p<|.a cs) λs'=>K p s':=aRA i f b (h▸g) c
def isI(r:AV):Prop:=∃x:Int,r=iv x
def isB(r:AV):Prop:=∃b:Bool,r=bv b
def aPG{x}:isI (iv x)=True:=bs9 ⟨x,rfl⟩
def aNP{b}:isB (bv b)=True:=bs9 ⟨b,rfl⟩
def aP1{c}[Decidable c]{v K}:rV (if c then V v else J) K=(c/\K v):=by grind [rV]
def aWE(r:AV):Prop:=∃(x:Int) (b:Bool),r= .t [iv x,bv b]
def aQ1(r:AV):Prop:=∃x y:Int,r= .t [iv x,iv y]
def a6D{x b}:aWE (.t [iv x,bv b])=True:=bs9 ⟨x,b,rfl⟩
def aO2{x y}:aQ1 (.t [iv x,iv y])=True:=bs9 ⟨x,y,rfl⟩
def bd7{R Y x y}:aE R Y [iv x,iv y]=R (.t [iv x,iv y]):=by simp[aE,jS,iZ,dQ,kG,pF,nj]
def aTb{p n}: -1<=uo p n/\uo p n<n:=by grind [uo,List.mem_of_find?_eq_some]
def aXc(b):Ct 311 [bv b] (·=iv (if b then 1 else 0)):=by refine bgS λs0 c a=>?_;cases b<;>simp[u1,ah]
def aOT:FT:=lH aXc
def bbU:=np aOT aXc
def aXa(i n):Ct 294 [iv i,iv n] (λr=>isI r):=by refine bgQ λs0 b a=>?_;simp+contextual only[eQ,aPR,aP1,aPG];refine⟨λh=>trivial,λh=>⟨by grind,?_⟩⟩;simp+contextual only[qz 35,qz 33,eQ,aPG,aO1,aPe]
def aSe:FT:=aRd aXa
def bbS:=aWg aSe aXa
def aXg(o):Ct 262 [iv o] (·=bv (Q (1<=o)&&Q (o<=5))):=by refine bgW λs0 b a=>?_;simp+contextual only[eQ]
def aSf:FT:=lH aXg
def bbY:=np aSf aXg
def aXk(i n):Ct 232 [iv i,iv n] (·=bv (dh i n)):=by refine bg7 λs0 b a=>?_;simp+contextual only[eQ,dh]
def aN3:FT:=lI aXk
def bb2:=nq aN3 aXk
def aXm(l)(s)(f:L l<4611686018427387904):Ct 241 [sl dS.c l,st s] (λr=>isI r):=by refine bg9 λs0 e a=>?_;refine bc4 (L l) (λk=>True) trivial λk d b=>?_;simp+contextual only[qz 19,eQ,ix,rk,bh,aPG,aO1,aNG,aO5];grind [dJ,aL,gS]
def aQE:FT:=pn aXm
def bb4:=rQ aQE aXm
def aXd(w:pz)(s)(m:L w.cells<4611686018427387904):Ct 304 [.a w.c,st s] (·=iv (uo (λi=>Q<|(gd w.cells i).name=s)<|L w.cells)):=by refine bgT rfl λn l b f=>?_;refine bc4 (L w.cells) (λk=>∀j,j<k->Q ((gd w.cells j).name=s)=I) (by simp) λk g e=>?_;simp+contextual only[qz 19,eT,b,ix,bh];refine⟨λh=>⟨vp h,λd=>?_,by grind [gS,aL]⟩,λh=>?_⟩;rw[KW (aL h) d e];grind [KX,biN,bw]
def aQD:FT:=aIc aXd
def bbV:=gX aQD aXd
def aOB(l:List w6)(s:ByteArray):Int:=uo (λi=>Q<|(gd l i).name=s)<|L l
def aYi(l:List aQd)(s:ByteArray):Int:=uo (λi=>Q<|(gd l i).name=s)<|L l
def aWX(l)(s)(g:L l<4611686018427387904):Ct 270 [sl w6.c l,st s] (·=iv (aOB l s)):=by refine bgB λi f d=>?_;refine bc4 (L l) (λk=>∀j,j<k->Q ((gd l j).name=s)=I) (by simp) λk e b=>?_;simp+contextual only[qz 19,eQ,ixv,rk,H7,bh];refine⟨λh=>⟨vp h,λa=>?_,by grind [gS,aL]⟩,λh=>?_⟩;rw[aOB,KW (aL h) a b];grind [aOB,KX,biN,bw]
def aPO:FT:=aIc aWX
def bbF:=gX aPO aWX (j:=by simp+contextual only[ij,ijv])
def aW2(l)(s)(g:L l<4611686018427387904):Ct 271 [sl aQd.c l,st s] (·=iv (aYi l s)):=by refine bgG λi f d=>?_;refine bc4 (L l) (λk=>∀j,j<k->Q ((gd l j).name=s)=I) (by simp) λk e b=>?_;simp+contextual only[qz 19,eQ,ixv,rk,H7,bh];refine⟨λh=>⟨vp h,λa=>?_,by grind [gS,aL]⟩,λh=>?_⟩;rw[aYi,KW (aL h) a b];grind [aYi,KX,biN,bw]
def aP9:FT:=aIc aW2
def bbK:=gX aP9 aW2 (j:=by simp+contextual only[ij,ijv])
def aXp(n):Ct 296 [iv n] (λr=>isI r):=by refine bhe λs0 b a=>?_;simp+contextual only[eQ,aPG,aO1,aPe]
def aSh:FT:=aP7 aXp
def bb7:=aRM aSh aXp
def aWQ(n):Ct 318 [iv n] (λr=>isI r):=by refine bgt λs0 b a=>?_;simp+contextual only[eQ,aPG,aO1,aPe]
def aTZ:FT:=aP7 aWQ
def bby:=aRM aTZ aWQ
def aW6(a b):Ct 300 [iv a,iv b] (·=iv (if a≠0 then a else b)):=by refine bgK λs0 d c=>?_;simp+contextual only[eQ];simp_all
def aOi:FT:=lI aW6
def bbO:=nq aOi aW6
def aW5(b):Ct 303 [bv b] (·=iv (if b then 7 else 0)):=by refine bgJ λs0 c a=>?_;cases b<;>simp[u1,ah]
def aOS:FT:=lH aW5
def bbN:=np aOS aW5
def aWU(e:u7):Ct 313 [.a e.c] (λr=>isB r):=by refine bgy aN9 λg f b d=>?_;simp+contextual only[eS,b,H7,aNP]
def aT2:FT:=aP7 aWU
def bbC:=aRM aT2 aWU (j:=by simp+contextual only[ij,ijv])
def aWP(n):Ct 196 [iv n] (·= .a (u7.mk 1 n ⟨#[]⟩ []).c):=by refine aDq (bgs λs0 d i=>?_);refine mo d λj e f=>?_;have b:bM bti bqM [(0,iv 1),(1,iv n)]=V (.a [iv 1,iv n,sv [], .l [] U U]):=rfl;simp only[qz 2,qy 4,b,aY];refine gN f (by rw[e.1,d];decide) rfl rfl λk h g=>?_;simp only[eS,g,aN,bZ,aO6,dA,a7g,List.take_succ_cons,CE];exact aQ7 (by rw[aoH];rfl) (by rw[aoH];rfl)
def aQC:FT:=lH aWP
def bbx:=np aQC aWP
def a6F(i:awG):d0:=
 bif Q (i.op=1)||(Q (i.op=6)||(Q (i.op=10)||Q (i.op=27))) then[i.a]
 else bif Q (i.op=2)||Q (i.op=3) then[i.a,i.b]
 else bif Q (i.op=4) then[i.a,i.b,i.k]
 else bif Q (i.op=7) then[i.a,i.k]
 else bif Q (i.op=8)||Q (i.op=26) then[i.b]
 else bif Q (i.op=9) then[i.b,i.k]
 else[]
attribute[local irreducible] aX
def aRU(l:d0)(r:AV):Prop:=∃t o,r= .l (l.map ci) t o
def rLI{l Y t o}:aE (λr=>aRU l r) Y [.l (l.map ci) t o]=True:=bs9 ⟨rfl,t,o,rfl⟩
def bd0{Y t o}:aE (λr=>aRU [] r) Y [.l [] t o]=True:=bs9 ⟨rfl,t,o,rfl⟩
def aXf(i):Ct 192 [.a i.c] (λr=>aRU (a6F i) r):=by refine bgV rfl λf e b d=>?_;simp only[eS,b,H7];simp only[qz 23,iM,aY,sw];simp only[qz 21,qy 4,aI,au];simp only[be8,qz 53,iM,aY,sw];simp only[qz 51,qy 6,qy 8,qy 10,aI,au];simp only[be8,qz 95,iM,aY,sw];simp only[qz 93,qy 12,qy 14,aI,au];simp+contextual (maxSteps:=2000000) only[↓iS,eS,b,H7,a5Y,fi,xA,a6F,a7c,a5C,rLI,bd0,aO1,aPe]
def aRj:FT:=aP7 aXf
def bbX:=aRM aRj aXf (j:=by simp+contextual only[ij,ijv])
def aTp:d0:=[3,3,3,3,3,4,4,4,4,4,5,5,5,6,6,6,7,7,7,8,9,10,11,12,13,14,14,15,16,16,17,17,18,18,19,20,1,1,2,21,22,23,23]
def aXF:Ct 182 [] (λr=>aRU aTp r):=by refine bhz λs0 c b=>?_;have a:∀R,aVS s0 R=aE R s0 [.l (aTp.map ci) U U]:=λR=>(by kernel_rfl);show aVS s0 _;rw[a];exact⟨rfl,U,U,rfl⟩
def aUt:FT:=BK aXF
def bcm:=al3 aUt aXF
def aWO(s):Ct 280 [st s] (·= .a (u7.mk 2 0 s []).c):=by refine aDq (bgr λs0 d i=>?_);refine mo d λj e f=>?_;have b:bM bti bqM [(0,iv 2),(2,st s)]=V (.a [iv 2,iv 0,st s, .l [] U U]):=rfl;simp only[qz 2,qy 4,b,aY];refine gN f (by rw[e.1,d];decide) rfl rfl λk h g=>?_;simp only[eS,g,aN,bZ,aO6,dA,a7g,List.take_succ_cons,CE];exact aQ7 (by rw[aoH];rfl) (by rw[aoH];rfl)
def aQB:FT:=lH aWO
def bbw:=np aQB aWO
def aXK:d0:=[3,3,4,4,5,6,7,8,9,10,11,12,13,14,15,16,18,19,20,21,22,23,2]
def aPY(o:Int):Int:=bif Q (o<6)||Q (28<o) then 0 else gd aXK (o-6).toNat
def aXv(o):Ct 264 [iv o] (·=iv (aPY o)):=by refine bhn λs0 c b=>?_;have a:∀R,aVs (iv o) s0 R=aVt (iv o) R (.l (aXK.map ci) U U) s0:=λR=>(by kernel_rfl);show aVs (iv o) s0 _;rw[a];simp+contextual only[aVt,eQ,tf,rk,↓uL];refine⟨(by grind [aPY]),λh=>?_⟩;rw[aPY,h];simp only[cP,aNK] at h;rw[eM (by omega)<|by omega];exact⟨⟨by omega,by show o-6<23;omega⟩,rfl⟩
def aUm:FT:=lH aXv
def bcd:=np aUm aXv
def aNF:List w6:=[⟨1,0,⟨#[120]⟩,0,0,⟨#[]⟩⟩,⟨1,0,⟨#[121]⟩,0,1,⟨#[]⟩⟩,⟨2,0,⟨#[118]⟩,0,0,⟨#[]⟩⟩,⟨1,0,⟨#[113]⟩,2,0,⟨#[]⟩⟩,⟨3,0,⟨#[109]⟩,0,0,⟨#[]⟩⟩,⟨3,0,⟨#[110]⟩,0,0,⟨#[]⟩⟩,⟨4,0,⟨#[114]⟩,0,0,⟨#[]⟩⟩,⟨5,0,⟨#[99]⟩,0,0,⟨#[109]⟩⟩,⟨6,0,⟨#[102]⟩,0,0,⟨#[]⟩⟩]
def aWN:Ct 193 [] (·=sl w6.c aNF):=by refine aDq (bgk λs0 d b=>?_);have a:∀R,aUG s0 R=aE R s0 [.l (aNF.map w6.c) U U]:=λR=>(by kernel_rfl);show aUG s0 _;rw[a];exact aQ7 rfl rfl
def aSd:FT:=BJ aWN
def bbv:=al2 aSd aWN
attribute[local semireducible] aX
def bkl(l:List aP)(t:Int)(j:Nat):Nat:=L ((l.take j).filter λe=>Q<|e.aq=t)
theorem aV8{l}{t:Int}{j:Nat}(h:j<L l):bkl l t (j+1)=bkl l t j+if(gd l j).aq=t then 1 else 0:=by grind [bkl,iJ,bT,a6G]
theorem a6c{l t j}:bkl l t j<=j:=gl (fZ _ _) (by simp;omega)
def aOE(l:List aP)(i:Nat)(t n:Int):Prop:=∃j,j<i/\(gd l j).aq=t/\((gd l j).kind=3\/(gd l j).kind=23)/\(bkl l t j:Int)=n
def aXy(l)(i:Nat)(t:Int)(ns)(u:i<=L l/\L l<1000000/\L ns<4611686018427387904):Ct 124 [sl aP.c l,iv i,iv t,sl ci ns] (λr=>∃b,r=bv b/\(b=U->∀n∈ns,aOE l i t n)):=by obtain⟨y,z,A⟩:=u;refine bhq λs0 D x=>?_;refine bc4 (L ns) (λk=>∀j,j<k->aOE l i t (gd ns j)) (by simp) λk C p=>?_;simp only[qz 19,eQ];refine⟨λh=>?_,λh=>⟨U,rfl,λ_=>?_⟩⟩;(focus refine yh (λs:Bool×Nat=>[iv<|bkl l t s.2,bv s.1,iv s.2]) 2 i (λs=>s.2<=i/\(s.1=U->aOE l i t (gd ns k))) (I,0) ⟨by omega,by simp⟩ ?_;rintro⟨v,j⟩ ⟨B,E⟩;simp only[qz 67,au,eQ];refine⟨λh=>?_,λh=>⟨(by simp),λd=>?_⟩⟩;(focus have g:=aL h;have f:j<L l:=(by omega);have e:=aV8 (t:=t) f;have w:=a6c (l:=l) (t:=t) (j:=j);have nx:∀(a b:Bool) (c:Int),c=((bkl l t (j+1):Nat):Int)->(b=U->aOE l i t (gd ns k))->tI (λs:Bool×Nat=>[iv<|bkl l t s.2,bv s.1,iv s.2]) (λs=>s.2<=i/\(s.1=U->aOE l i t (gd ns k))) [iv c,bv b,iv ((j+1:Nat):Int)]/\pM 2 i [iv c,bv b,iv ((j+1:Nat):Int)]<pM 2 i [iv<|bkl l t j,bv a,iv j]:=λa b c p h=>(by subst p;exact wN (enc:=λs:Bool×Nat=>[iv<|bkl l t s.2,bv s.1,iv s.2]) (s:=(a,j)) (s':=(b,j+1)) rfl rfl rfl g ⟨g,h⟩);(cases v<;>simp+contextual only[qz 89,ix,bh,eQ,rk,H7,jA,jN,qz 87,uO,a7c,a5C]);(all_goals refine⟨dJ f,λd=>?_,λd=>?_⟩;all_goals rw[fX<|by omega]);simp_all;simp at d;rw[sz d] at e;rw[fX<|by omega];refine⟨dJ<|aL ‹_›,λ_=>dJ f,λ_ _=>dJ f,?_⟩;(cases m:Q ((bkl l t j:Int)=gd ns k)<;>cases q:Q ((gd l j).kind=3)<;>simp only[a7c,a5C,qE,xM,ru,qc,fh,kN]);simp_all;simp_all;exact nx _ _ _ (by rw[e]) λo=>⟨j,g,d, .inr (by simpa using o),by simpa using m⟩;exact nx _ _ _ (by rw[e]) λo=>⟨j,g,d, .inl (by simpa using q),by simpa using m⟩;simp_all;simp at d;rw[sz d] at e;rw[fX<|by omega];simp_all);grind [gS,aL]);grind [ou,bT,biN,bw]
def aSi:FT:=ER aXy
def bcg:=axQ aSi aXy (j:=by simp+contextual only[ij,Int.natCast_inj])
section
variable{Q:cC}{Y:ae}{xs:dM}
def bd1:(∀r,isB r->Q r)=∀b,Q (bv b):=aPo ⟨λh b=>h _ ⟨b,rfl⟩,by rintro h r ⟨b,rfl⟩;exact h b⟩
def a65:(∀r,isI r->Q r)=∀x,Q (iv x):=aPo ⟨λh b=>h _ ⟨b,rfl⟩,by rintro h r ⟨b,rfl⟩;exact h b⟩
def bd4:(∀r,aQ1 r->Q r)=∀x y,Q (.t [iv x,iv y]):=aPo ⟨λh x b=>h _ ⟨x,b,rfl⟩,by rintro h r ⟨x,b,rfl⟩;exact h x b⟩
def bdO{v w}:lo Y xs (.t [.s v, .s w])=True:=by simp[lo,uN,yv,wD]
def bcB{α}[Nonempty α]{b}{f:α->AV}{K}:gB b (λk=>∀x,k<|f x) K=∀x,K (gv b<|f x):=by(cases b);exact aPo ⟨λh x=>h,λh=>h<|Classical.choice ‹_›⟩;rfl
def bcD{α}[Nonempty α]{b S}{f:α->AV}{K}:gB b (λk=>S/\∀x,k<|f x) K=((b=U->S)/\∀x,K<|gv b<|f x):=by(cases b);exact aPo ⟨λh=>⟨(λh=>by cases h),λx=>h⟩,λh=>h.2<|Classical.choice ‹_›⟩;simp[gB,gv]
def bcC{b}{f:Bool->AV}{K}:gB b (λk=>∀x,k<|f x) K=∀x,K (gv b<|f x):=bcB
def bcE{b S}{f:Bool->AV}{K}:gB b (λk=>S/\∀x,k<|f x) K=((b=U->S)/\∀x,K<|gv b<|f x):=bcD
def rg:=ai @bcC<|@bcE
def rr:=ai @bd1<|ai @a65<|ai @bd4<|ai @bdO<|ai @AL<|ai @oJ<|ai @pG<|ai @bdJ<|@bd7
end
def a6n{a}{p:Int->Prop}:(∃k,iv a=iv k/\p k)=p a:=(by simp)
def aRB{a b:ByteArray}:aTH .neq 0 [] (st a) (st b)=V (bv<|Q<|a≠b):=by have h:=@alq a b;simp only[aTH,zP,df,bE,AV.s.injEq,mV] at h;simp only[aTH,zP,df,h,decide_not]
def a7w:dO:=(311,aOT)::(294,aSe)::(262,aSf)::(232,aN3)::(241,aQE)::(304,aQD)::(270,aPO)::(271,aP9)::(296,aSh)::(318,aTZ)::(300,aOi)::(303,aOS)::(313,aT2)::(196,aQC)::(192,aRj)::(182,aUt)::(280,aQB)::(264,aUm)::(193,aSd)::(124,aSi)::apC
def aOh:eJ a7w:=vl (nH aXc) (vl (aYm aXa)<|vl (nH aXg)<|vl (nI aXk)<|vl (aN0 aXm)<|vl (aCb aXd)<|vl (aCb aWX)<|vl (aCb aW2)<|vl (aR6 aXp)<|vl (aR6 aWQ)<|vl (nI aW6)<|vl (nH aW5)<|vl (aR6 aWU<|λ_=>by simp only[Cs,aqG,aOW,Bool.and_self])<|vl (nH aWP)<|vl (aR6 aXf)<|vl (apN aXF)<|vl (nH aWO)<|vl (nH aXv)<|vl (apM aWN)<|vl (aM6 aXy)<|Rk)
def aOX:=ai @bbU<|ai @bbS<|ai @bbY<|ai @bb2<|ai @bb4<|ai @bbV<|ai @bbF<|ai @bbK<|ai @bb7<|ai @bby<|ai @bbO<|ai @bbN<|ai @bbC<|ai @bbx<|ai @bbX<|ai @bcm<|ai @bbw<|ai @bcd<|ai @bbv<|ai @bcg<|@fsR
section
attribute[local irreducible] aX
def a9j:=kW 8 []
def bgR{a a1}:=y0 aOh func295 a9j [a,a1]
def a9h:=kW 36 []
def bgP{a a1 b}:=y0 aOh func297 a9h [a,a1,b]
def bgZ{c0 a1 b}:=y1 31 6 3 aOh func261 at1 c0 [.a c0,a1,b]
def a9B:=kW 15 [(3,([1,5],[0])),(6,([1],[0,5]))]
def bg8{a a1}:=y0 aOh func231 a9B [a,a1]
def a9P:=kW 18 [(3,([7],[2,3,6])),(10,([40],[2]))]
def bho{c0 b}:=y2 264 6 2 251 4 3 aOh func265 a9P c0 b [.a c0, .a b]
def bgz{c0}:=y1 308 6 1 aOh func268 a9j c0 [.a c0]
def a85:=kW 26 [(20,([56],[3,7]))]
def bgD{c0 a1 b}:=y1 196 2 3 aOh func314 a85 c0 [.a c0,a1,b]
def a89:=kW 33 [(4,([4,5,6,7,8],[0])),(7,([4,5,6,7],[0,8])),(15,([4,5,6,7],[0,8,9])),(17,([39],[0,4,5,6,7,8,9,36])),(19,([47],[0,4,5,6,7,8,9,36]))]
def bgH{a}:=y0 aOh func237 a89 [a]
def a9d:=kW 29 [(3,([4],[1])),(12,([6],[1])),(21,([8],[1,6,7]))]
def bgL{c0}:=y1 196 2 1 aOh func238 a9d c0 [.a c0]
def a8H:=kW 9 [(4,([3,4],[0]))]
def bgd{a}:=y0 aOh func60 a8H [a]
def bgi{c b}:=y1 272 4 3 aOh func195 at1 b [c, .a b]
def bgj{d b c}:=y2 272 4 4 272 4 5 aOh func279 at1 b c [d, .a b, .a c]
def a94:=kW 11 [(4,([3,10],[8,9])),(7,([3],[8,9,10]))]
def bhE{c0}:=y1 40 7 1 aOh func229 a94 c0 [.a c0]
end
def aRV{a b}:mL (bv U) a b=V a:=rfl
def bcW{a b}:mL (bv I) a b=V b:=rfl
def aXX{P:Int->Prop}{Q:cC}:(∀r,(∃k:Int,r=iv k/\P k)->Q r)=∀k,P k->Q (iv k):=(by grind)
def bd8{a b c d e f g h i j k}:aN (V 11) [a,b,c,d,e,f,g,h,i,j,k]=V (.a [a,b,c,d,e,f,g,h,i,j,k]):=rfl
def rkx{s}:aN (V 3) (aoC.c s)=V (.a<|aoC.c s):=rfl
def aXb(o a):Ct 295 [iv o,iv a] (λr=>aWE r):=by refine bgR λs0 c b=>?_;simp+contextual only[eQ,aEn,aOX,ar,a6D,QV,aO1,aPe]
def aUb:FT:=aRd aXb
def bbT:=aWg aUb aXb
def aW9(o a b):Ct 297 [iv o,iv a,iv b] (λr=>aWE r):=by refine bgP λs0 d c=>?_;simp+contextual only[eQ,aPR,a5N,aP1,aOX,ar,a6D,QV,aO1,aPe,aO5,aNK,aBY,brW,not_false_iff]
def aUa:FT:=aSb aW9
def bbR:=a6o aUa aW9
def aXj(w:pz)(b n):Ct 261 [.a w.c,iv b,iv n] (λr=>isB r):=by refine bgZ rfl λg f d e=>?_;simp+contextual only[eT,d,ix,ar,aOX,DR,aNP];grind [dX]
def aSg:FT:=aSb aXj
def bb1:=a6o aSg aXj
def aXl(l)(a:Int)(n:L l<1000000):Ct 231 [sl awG.c l,iv a] (λr=>isB r):=by refine bg8 λs0 m i=>?_;have nx:∀(a b:Int) (k:Nat),k<L l+1->tI (λs:Int×Nat=>[iv s.1,iv s.2]) (λs=>s.2<=L l+1) [iv b,iv ((k+1:Nat):Int)]/\pM 1 (L l+1) [iv b,iv ((k+1:Nat):Int)]<pM 1 (L l+1) [iv a,iv k]:=λa b k e=>wN (enc:=λs:Int×Nat=>[iv s.1,iv s.2]) (s:=(a,k)) (s':=(b,k+1)) rfl rfl rfl e e;refine yh (λs:Int×Nat=>[iv s.1,iv s.2]) 1 (L l+1) (λs=>s.2<=L l+1) (a,0) (by simp) ?_;rintro⟨f,k⟩ e;simp+contextual only[qz 39,qz 41,qz 19,be8,au,eQ,ixv,rk,H7,ar,aOX,aNP,aO1,aO5,rr];intro j h;have g:k<L l+1:=(by grind);have d:aF (L l) f:=(by simp at h;exact⟨by omega,by omega⟩);rw[fX<|by omega];exact⟨d,λ_=>⟨d,λ_=>⟨d,nx _ _ _ g⟩,λ_=>nx _ _ _ g⟩⟩
def aUe:FT:=pn aXl
def bb3:=rQ aUe aXl (j:=by simp+contextual only[ij,ijv])
def a8e(i:awG)(s:aNZ):Prop:=i.op=7\/i.op=9->aF (L s.I9) i.k
def aXw(i)(s)(b:a8e i s):Ct 265 [.a i.c, .a s.c] (λr=>isI r):=by refine bho rfl rfl λj g d e f=>?_;simp+contextual only[qz 63,qz 65,qz 21,qz 23,be8,au,eT,d,e,ix,H7,ar,aOX,aPG,aO1,aPe,aO5,rr];simp only[aBY,aNK,sr,aQl,aO1,aNG];exactλ_ _=>⟨λh=>b<|.inl h,λ_ h=>b<|.inr h⟩
def aUn:FT:=pn aXw
def bce:=rQ aUn aXw (j:=by simp+contextual only[ij,ijv])
def aWV(d:w6):Ct 268 [.a d.c] (λr=>isB r):=by refine bgz rfl λg f b e=>?_;simp+contextual only[eS,b,H7,ar,aOX,aRB,aNP,aO1,aPe]
def aT3:FT:=aP7 aWV
def bbD:=aRM aT3 aWV (j:=by simp+contextual only[ij,ijv])
def slc{Y K}{i:Int}{l}:rV (fo 1 Y (sl cs l) J (V<|iv i) J) K=((0<=i/\i<=L l)/\K (sl cs<|l.take i.toNat)):=aIk λ_=>rfl
def aWZ(p)(t)(s)(e:PrB p):Ct 314 [.a p.c,iv t,st s] (λr=>∃k,r=iv k/\(k=5->0<=aOB p.bnq s)):=by obtain⟨g,j,l⟩:=e;refine bgD rfl λq o b f=>?_;have d:=aTb (p:=λi=>Q<|(gd p.bnq i).name=s) (n:=L p.bnq);have m:∀t:Int,L (gd p.ay t.toNat).locs<4611686018427387904:=λt=>(by by_cases h:t.toNat<L p.ay;grind [dB];rw[gd,List.getD_eq_getElem?_getD,List.getElem?_eq_none<|by omega];decide);rw[<-aOB] at d;simp+contextual only[qz 123,qz 125,be8,au,eT,b,ixv,H7,ar,aOX,a6n];simp only[aF];(try simp only[aBY,aNK,bN,bik,aNS,brW]);grind
def aT5:FT:=vn aWZ
def bbH:=zZ aT5 aWZ (j:=by simp+contextual only[ij,ijv])
def aW3(l)(N:L l<1000):Ct 237 [sl w6.c l] (λr=>aQ1 r):=by
 refine bgH λs0 D G=>?_
 refine jD (α:=Int×Int×Int×Int) (λs i=>[iv s.1,iv s.2.1,iv s.2.2.1,iv s.2.2.2,iv i]) 4 (L l) (λ_ _ Y=>L Y=4096) (s0:=(0,0,0,0)) D ?_
 rintro k ⟨a,b,c,d⟩ Y M e
 have nx:∀(x y z u:Int) Y',L Y'=4096->k<L l->yI (λ(s:Int×Int×Int×Int) i=>[iv s.1,iv s.2.1,iv s.2.2.1,iv s.2.2.2,iv i]) (L l) (λ_ _ Y=>L Y=4096) [iv x,iv y,iv z,iv u,iv<|dq.wrap<|(k:Int)+1] Y'/\gM 4 (L l) [iv x,iv y,iv z,iv u,iv<|dq.wrap<|(k:Int)+1] Y'<gM 4 (L l) [iv a,iv b,iv c,iv d,iv k] Y:=λx y z u Y' m g=>
  dR (mk:=λ(s:Int×Int×Int×Int) i=>[iv s.1,iv s.2.1,iv s.2.2.1,iv s.2.2.2,iv i]) (s:=(a,b,c,d)) (s':=(x,y,z,u)) (λ_ _=>rfl) g (by omega) m
 have t:∀{Y:ae} {K:cC} {i:Int},rV (fo 6 Y (sl w6.c l) J (V<|iv i) J) K=((0<=i/\i<=L l)/\K (sl w6.c<|l.take i.toNat)):=aIk λ_=>rfl
 simp only[qz 25,au,eQ,aO2,rr,aO1,aO5,qz 47,qy 2,ixv,bh,H7]
 intro h
 have f:=aL h
 refine⟨dJ f,anu e λv F w E A=>?_⟩
 have o:=w.len.trans e
 have j:(0:Int)<=k/\(k:Int)<=L l:=(by omega)
 have C:=aTb (p:=λi=>Q<|(gd (l.take k) i).name=(gd l k).on) (n:=L<|l.take k)
 have q:L (l.take k)<4611686018427387904:=by simp;omega
 have B:Q (aOB (l.take k) (gd l k).on<0)=I->aF (L l) (aOB (l.take k) (gd l k).on):=λh=>by
  simp only[aNK] at h
  have H:L (l.take k)<=L l:=by simp only[gC];omega
  exact⟨by omega,by have:=C.2;rw[aOB];omega⟩
 simp+contextual only[t,bh,eT,A,H7,ar,aOX,rr,aO2,aO1,aO5,qz 45,qz 93,qz 117,qz 119,qz 105,qz 107,qz 95,qz 4,j,ixv,B,nx,f,o,q,aRW,aPe]
def aT7:FT:=om aW3
def bbL:=aUy aT7 aW3 (j:=by simp+contextual only[ij,ijv])
def aW7(p)(B:PrB p):Ct 238 [.a p.c] (λr=>aQ1 r):=by refine bgL rfl λm t o D=>?_;obtain⟨E,G,y⟩:=B;have w:∀{Y:ae} {K:cC} {i:Int},rV (fo 4 Y (sl aQd.c p.ay) J (V<|iv i) J) K=((0<=i/\i<=L p.ay)/\K (sl aQd.c<|p.ay.take i.toNat)):=aIk λ_=>rfl;refine yV (L p.ay) (λ_ _ Y=>Fx m Y []) (Fx.refl _ _) ?_;rintro k _ Y A F;have e:=F.kq o;have f:=F.len.trans t;simp only[qz 19,qy 4,au,eT,e,H7,ixv,bh];refine⟨λh=>⟨vp h,anu f λv n d x g=>?_⟩,λh=>?_⟩;have b:=aL h;have l:=d.kq e;have q:(0:Int)<=k/\(k:Int)<=L p.ay:=(by omega);have u:L (p.ay.take k)<4611686018427387904:=(by simp;omega);have nx:=dR (mk:=λ(_:Unit) i=>[iv i]) (p:=0) (s:=()) (s':=()) (Inv:=λ_ _ Y=>Fx m Y []) (Y:=Y) (Y':=n) (λ_ _=>rfl) b (by omega)<|F.trans d;simp+contextual only[qz 6,w,bh,eS,l,g,H7,ar,aOX,rr,aO2,aO1,aO5,q,u,nx];omega;refine yV (L p.ay) (λ_ _ Y=>Fx m Y []) F ?_;rintro k _ Y A F;have e:=F.kq o;have f:=F.len.trans t;simp only[qz 73,qy 8,au,eT,e,H7,ixv,bh,rr,aO2,aO1,aO5];refineλh=>⟨vp h,anu f λv n d x g=>?_⟩;have b:=aL h;have l:=d.kq e;simp+contextual only[qz 10,eS,g,H7,rr,aO2,aO1,aNG];intro H;have C:=y _<|dB b;refine bc4 (L (gd p.ay k).locs) (λ_=>True) trivial λj M _=>?_;simp+contextual only[qz 127,au,eT,l,g,H7,ix,bh,ar,aOX,rr,aO2,aO1,slc];refine⟨λz=>?_,λz=>dR (mk:=λ(_:Unit) i=>[iv i]) (s:=()) (s':=()) (λ_ _=>rfl) b (by omega)<|F.trans d⟩;grind [aL,dJ,gS]
def aT9:FT:=om aW7
def bbP:=aUy aT9 aW7 (j:=by simp+contextual only[ij,ijv])
def cu(x:Int):dM:=[.s<|.int .u8 x]
def a6E{Y K}{i:Int}{l}:rV (cz 1 Y (sl cu l)<|iv i) K=(aF (L l) i/\K (.q<|cu<|gd l i.toNat)):=aBz λ_=>rfl
theorem bcP{x y:Int}:(cu x=cu y)=(x=y):=by simp[cu]
def aQZ{l l'}:(sl cu l=sl cu l')=(l=l'):=(by grind [kL,bcP])
def aWH(l)(t:L l<1000):Ct 60 [sl cu l] (λr=>∃cs:List TCh,r=sl TCh.c cs/\L cs=L l):=by refine aDq (bgd λs0 n o=>?_);refine jD (α:=AV) (λa i=>[a,iv i]) 1 (L l) (λk a Y=>L Y=4096/\∃cs:List TCh,L cs=k/\bc Y 170 2 a (cs.map TCh.c)) (s0:= .l [] U U) ⟨n,[],rfl,bc.nil⟩ ?_;rintro k a Y q ⟨b,cs,m,d⟩;simp+contextual only[qz 25,qy 2,au,eQ,a6E,bh,cu,qM,aS6,aPR,a5N,aP1];refine⟨λh=>⟨vp h,by decide,vp h,by decide,by decide,?_⟩,λh=>?_⟩;generalize(dq.wrap<|gd l k).tmod 4=x;generalize dq.wrap ((dq.wrap<|(dq.wrap<|gd l k).tdiv 4).tmod 5-1)=y;have e:bM bu7 brL [(0,iv x),(1,iv y)]=V (.a<|TCh.c ⟨x,y⟩):=rfl;have f:aX bu0 1 Y [(0, .a<|TCh.c ⟨x,y⟩)]=V (.l ([(⟨x,y⟩:TCh)].map TCh.c) U U,Y):=ua rfl rfl rfl (by decide) rfl (by decide);simp only[e,f,aY,bQ];refine apQ d.p b (by grind [TCh.c]) (by grind [TCh.c]) (by simp) (by simp;omega) λj Y' g F N=>?_;refine dT (by first|rfl|(simp[eL,okT,tok,lb,cq,Qh,zt,dC,pP,dK];done)) ?_;simp only[eQ];refine dR (mk:=λa i=>[a,iv i]) (s:=a) (s':=j) (λ_ _=>rfl) (aL h) (by omega) ⟨F.len.trans b,cs++[⟨x,y⟩],by simp[m],by simp_all⟩;exact aOv (Q:=λr=>∃cs:List TCh,r=sl TCh.c cs/\L cs=L l) (aWs d.p) (by simp[iX,eN]) ⟨cs,rfl,by grind⟩
def aTT:FT:=om aWH
def bbp:=aUy aTT aWH (j:=by simp+contextual only[ij,aQZ])
def aWL(s)(e):Ct 195 [st s, .a e.c] (·= .a (m8.mk 1 0 s ⟨#[]⟩ [] e [] []).c):=by refine aDq (bgi aN9 λp j f o=>?_);refine I7 j λv q d m g=>?_;have i:=d.kq f;have b:bM brN alz [(0,iv 1),(2,st s),(5, .a e.c)]=V (.a [iv 1,iv 0,st s,sv [], .l [] U U,iv e.op,iv e.n,st e.name,sl u7.c e.l, .l [] U U, .l [] U U]):=(by rw[aoH];rfl);simp only[qz 4,qy 6,eQ,i,H7,b];refine stW g rfl rfl λr k h=>?_;simp only[eQ,h,bd8];exact aQ7 (by rw[bkk];rfl) (by rw[bkk];rfl)
def aPN:FT:=lI aWL
def bbt:=nq aPN aWL (j:=by simp+contextual only[ij,ijv])
def aWM(o)(a b):Ct 279 [iv o, .a a.c, .a b.c] (·= .a (u7.mk o 0 ⟨#[]⟩ [a,b]).c):=by refine aDq (bgj aN9 aN9 λt p h i s=>?_);refine I7 p λv g d r j=>?_;have m:=d.kq h;have n:=d.kq i;have f:aX btx 2 g [(0, .a a.c),(1, .a b.c)]=V (.l [a.c,b.c] U U,g):=(by rw[aoH (x:=a),aoH (x:=b)];kernel_rfl);simp only[qz 6,eQ,m,n,H7,f];have e:bM bti bqM [(0,iv o),(3, .l [a.c,b.c] U U)]=V (.a [iv o,iv 0,sv [], .l [a.c,b.c] U U]):=rfl;simp only[qz 8,qy 10,e,aY];refine stW j rfl rfl λu q k=>?_;simp only[eQ,k,uS];exact aQ7 (by rw[aoH (x:= .mk o 0 ⟨#[]⟩ [a,b])];rfl) (by rw[aoH (x:= .mk o 0 ⟨#[]⟩ [a,b])];rfl)
def aRg:FT:=za aWM
def bbu:=KP aRg aWM (j:=by simp+contextual only[ij,ijv])
def aXG(s:I5)(E:L s.bW.ay<1000):Ct 229 [.a s.c] (λr=>∃l:d0,r=sl ci l/\L l<=L s.bW.ay):=by refine aDq (bhE rfl λj w o B=>?_);simp only[eT,o];refine jD (α:=AV) (λa i=>[a,iv i]) 1 (L s.bW.ay) (λk a Y=>Fx j Y []/\∃l:d0,L l<=k/\bc Y 3 1 a (l.map ci)/\∀q∈aA a,bK j q) (s0:= .l [] U U) ⟨Fx.refl _ _,[],by simp,bc.nil,by simp[aA]⟩ ?_;rintro k a Y D ⟨F,l,C,f,u⟩;have d:=F.len.trans w;simp only[qz 25,au,eQ,qz 47,qy 4,ix,bh,rkx,rr];refine⟨λh=>⟨vp h,anu d λv A b z t=>?_⟩,λh=>?_⟩;have e:=aL h;have x:=b.len.trans d;simp+contextual only[qz 6,qy 8,qy 10,eT,t,a5Y,qz 45];refine⟨λ_=>?_,λ_=>dR (mk:=λa i=>[a,iv i]) (s:=a) (s':=a) (λ_ _=>rfl) e (by omega) ⟨F.trans b,l,by omega,f.fx b (by simp),u⟩⟩;refine qs (f.fx b<|by simp).p rfl (by decide) (by omega) pU pU (by simp) (by simp;omega) λn Y' g m y=>?_;refine dR (mk:=λa i=>[a,iv i]) (s:=a) (s':=n) (λ_ _=>rfl) e (by omega) ⟨((F.trans b).trans m).mono λq G=> .inr ?_,l++[(k:Int)],by simp;omega,by simp_all,by grind [bK.old]⟩;grind [bK.no];exact aOv (Q:=λr=>∃l:d0,r=sl ci l/\L l<=L s.bW.ay) (aWs f.p) (by simp[iX,eN]) ⟨l,rfl,by omega⟩
def aSk:FT:=om aXG
def bcn:=aUy aSk aXG
def a7x:dO:=(295,aUb)::(297,aUa)::(261,aSg)::(231,aUe)::(265,aUn)::(268,aT3)::(314,aT5)::(237,aT7)::(238,aT9)::(60,aTT)::(195,aPN)::(279,aRg)::(229,aSk)::a7w
def aNH:eJ a7x:=vl (aYm aXb) (vl (a7W aW9)<|vl (a7W aXj)<|vl (aN0 aXl)<|vl (aN0 aXw)<|vl (aR6 aWV)<|vl (By aWZ)<|vl (rj aW3)<|vl (rj aW7)<|vl (rj aWH)<|vl (nI aWL<|λ_ _=>by simp only[Cs,aqG,aOW,Bool.and_self])<|vl (Rs aWM<|λ_ _ _=>by simp only[Cs,aqG,aOW,Bool.and_self])<|vl (rj aXG)<|aOh)
def aD6:=ai @bbT<|ai @bbR<|ai @bb1<|ai @bb3<|ai @bce<|ai @bbD<|ai @bbH<|ai @bbL<|ai @bbP<|ai @bbp<|ai @bbt<|ai @bbu<|ai @bcn<|@aOX
section
attribute[local irreducible] aX
def bgO{c0 a1 b c d}:=y1 196 2 5 aNH func301 a8V c0 [.a c0,a1,b,c,d]
def a86:=kW 10 [(4,([4,5,6],[1]))]
def bgE{c0}:=y1 272 4 1 aNH func315 a86 c0 [.a c0]
def bgA{a}:=y0 aNH func239 a8H [a]
def a8X:=kW 14 [(7,([4],[1]))]
def bgv{c0}:=y1 272 4 1 aNH func312 a8X c0 [.a c0]
def a9D:=kW 35 [(11,([59],[2,3,6])),(14,([78],[2,3,6])),(19,([98],[2,3,6])),(23,([108],[2,3,6]))]
def bha{c0 b}:=y2 31 6 2 264 6 3 aNH func230 a9D c0 b [.a c0, .a b]
end
def aW8(p)(t)(s)(a b)(e:PrB p):Ct 301 [.a p.c,iv t,st s,iv a,iv b] (λr=>∃k,r=iv k/\(k=0->a=5->b=5->0<=aOB p.bnq s)):=by refine bgO rfl λh g d f=>?_;simp+contextual only[eQ,d,H7,ar,Fa,aD6,e,aXX,a6n];grind
def aOd:FT:=aTQ aW8
def bbQ:=bbn aOd aW8 (j:=by simp+contextual only[ij,ijv])
def aW0(e)(f:∃n,shE n e):Ct 315 [.a e.c] (λr=>aQ1 r):=by obtain⟨n,f⟩:=f;induction n generalizing e with|zero=>exact f.elim|succ n j=>have i:=f.len;refine bgE aN9 λp o g m=>?_;refine yh (λs:Int×Int×Nat=>[iv s.1,iv s.2.1,iv s.2.2]) 2 (L e.l) (λ_=>True) (1,0,0) trivial ?_;rintro⟨a,b,k⟩ _;simp only[qz 25,au,eS,g,H7,ixv,bh,rr,jM,kU,jt,Fa,aO2,aO1,aO5];intro h;have d:=aL h;refine⟨dJ d,aPW (j _<|f.2 _<|dB d) (aV2 a6h) ?_⟩;rintro r ⟨x,y,rfl⟩;simp only[eQ,rr,aRW,aNG];exact wN (enc:=λs:Int×Int×Nat=>[iv s.1,iv s.2.1,iv s.2.2]) (s:=(a,b,k)) (s':=(_,_,k+1)) (by rw[fX<|by omega]) rfl rfl d trivial
def aT6:FT:=om aW0
def bbI:=aUy aT6 aW0 (j:=by simp+contextual only[ij,ijv])
def aWW(l)(d:∃n,shL n 8 l):Ct 239 [sl m8.c l] (λr=>isI r):=by obtain⟨n,d⟩:=d;induction n using Nat.strongRecOn generalizing l with|ind n f=>obtain⟨j,g⟩:=d;refine bgA λs0 o i=>?_;simp only[eQ];refine yh (λs:Int×Nat=>[iv s.1,iv s.2]) 1 (L l) (λ_=>True) (L l,0) trivial ?_;rintro⟨a,k⟩ _;simp only[qz 25,au,eQ,ixv,rr,H7,bh,jM,kU,jt,alg,aPG,aO1,aO5];intro h;have b:=aL h;obtain⟨m,rfl,g1,e⟩:=(g _<|dB b).body;refine⟨dJ b,aPW (f m (by omega) _ ⟨by have:=g1.1;omega,g1.2⟩) rfl ?_⟩;rintro r ⟨x,rfl⟩;simp only[eQ,AL,aNG];refine⟨dJ b,aPW (f m (by omega) _ ⟨by have:=e.1;omega,e.2⟩) rfl ?_⟩;rintro r ⟨y,rfl⟩;simp only[eQ,AL,aNG];exact wN (enc:=λs:Int×Nat=>[iv s.1,iv s.2]) (s:=(a,k)) (s':=(_,k+1)) (by rw[fX<|by omega]) rfl rfl b trivial
def aT4:FT:=om aWW
def bbE:=aUy aT4 aWW (j:=by simp+contextual only[ij,ijv])
def aWS(e)(f:∃n,shE n e):Ct 312 [.a e.c] (λr=>isB r):=by obtain⟨n,f⟩:=f;induction n generalizing e with|zero=>exact f.elim|succ n p=>have o:=f.len;refine bgv aN9 λu t g q=>?_;dsimp only;generalize m:@qp _ 43 ⟨_⟩=Lw;have d:lR [iv 0] Lw:=(by rw[<-m];refine bc4 (L e.l) (λ_=>True) trivial λk s _=>?_;simp only[qz 43,au,eS,g,H7,ixv,bh,rr,jM,kU,jt,Fa,aNP,aO1,aO5];intro h;have i:=aL h;refine⟨dJ i,aPW (p _<|f.2 _<|dB i) (aV2 a6h) ?_⟩;rintro r ⟨x,rfl⟩;simp only[eQ,AL,aNG,aO1];grind [gS]);have b:e.op=2\/e.op=3\/(e.op≠2/\e.op≠3):=(by omega);rcases b with b|b|⟨j,b⟩;simp+contextual only[eS,g,H7,ar,aD6,rr,aRB,aNP,aO1,b,boV,d,aRV,Bool.and_self,↓jN];simp+contextual only[eS,g,H7,ar,aD6,rr,aRB,aNP,aO1,b,boV,bqJ,Bool.or_true,d,Int.reduceEq,aRV,Bool.and_self,↓jA];simp+contextual only[eS,g,H7,ar,aD6,rr,aRB,aNP,aO1,j,b,bqJ,d,bcW,Bool.and_self,↓jA,↓jN]
def aRh:FT:=om aWS
def bbA:=aUy aRh aWS (j:=by simp+contextual only[ij,ijv])
def aXn(w:pz)(i:awG):Ct 230 [.a w.c, .a i.c] (λr=>isB r):=by refine bha rfl rfl λg f b d e=>?_;simp+contextual (maxSteps:=2000000) only[qz 141,qz 143,qz 117,qz 119,qz 87,qz 89,qz 69,qz 71,be8,au,eT,b,d,ix,H7,ar,aD6,rr,aNP,DR,aO1,aPe];(try simp only[aBY,aNK,bN,bik,aNS,brW]);(repeat' (first|apply ai|intro _));all_goals first|omega|trivial
def aUf:FT:=aRd aXn
def bb5:=aWg aUf aXn (j:=by simp+contextual only[ij,ijv])
def a7y:dO:=(301,aOd)::(315,aT6)::(239,aT4)::(312,aRh)::(230,aUf)::a7x
def aR1:eJ a7y:=vl (bhJ aW8) (vl (rj aW0<|λ_=>by simp only[Cs,aqG,aOW,Bool.and_self])<|vl (rj aWW<|λ_=>by simp only[Cs,aqG,aOW,Bool.and_self])<|vl (rj aWS<|λ_=>by simp only[Cs,aqG,aOW,Bool.and_self])<|vl (aYm aXn)<|aNH)
def aRO:=ai @bbQ<|ai @bbI<|ai @bbE<|ai @bbA<|ai @bb5<|@aD6
section
attribute[local irreducible] aX
def a9a:=kW 13 [(2,([7],[1,3,5])),(8,([7,8],[1,3,5]))]
def bgI{c0 a1 b}:=y2 196 2 3 272 4 5 aR1 func316 a9a c0 b [.a c0,a1, .a b]
def a8Y:=kW 23 []
def bgw{c0}:=y1 274 11 1 aR1 func298 a8Y c0 [.a c0]
def a8Z:=kW 10 [(3,([3],[0]))]
def bgx{a}:=y0 aR1 func269 a8Z [a]
def a9F:=kW 30 [(7,([8],[1,3,5,7])),(23,([11],[1,3,5,7,8,10]))]
def bhb{c0 a1 b}:=y2 31 6 3 247 2 5 aR1 func186 a9F c0 b [.a c0,a1, .a b]
end
def aW4(p)(t)(e)(d:PrB p/\∃n,shE n e):Ct 316 [.a p.c,iv t, .a e.c] (λr=>isI r):=by obtain⟨j,n,d⟩:=d;induction n generalizing e with|zero=>exact d.elim|succ n q=>have o:=d.len;refine bgI rfl aN9 λw v g i u=>?_;dsimp only;generalize m:@qp _ 49 ⟨_⟩=Lw;have f:∀x:Int,lR [iv x,iv 0] Lw:=(by intro x;rw[<-m];refine yh (λs:Int×Nat=>[iv s.1,iv s.2]) 1 (L e.l) (λ_=>True) (x,0) trivial ?_;rintro⟨a,k⟩ _;simp+contextual only[qz 49,au,eS,g,i,H7,ixv,bh,rr,jM,kU,jt,Fa,aPG,tW,aO1,aO5];intro h;have b:k<L e.l:=(by simp_all);refine⟨dJ b,aPW (q _<|d.2 _<|dB b) (by simp only[Cs,aqG,aOW,Bool.and_self]) ?_⟩;rintro r ⟨y,rfl⟩;simp only[AL,aNG];exact wN (enc:=λs:Int×Nat=>[iv s.1,iv s.2]) (s:=(a,k)) (s':=(y,k+1)) (by grind [fX]) rfl rfl b trivial);simp+contextual only[be8,qz 17,qz 15,au,eS,g,i,H7,aRO,j,aXX,ar,Fa,f,aO1,aPe]
def aT8:FT:=vn aW4
def bbM:=zZ aT8 aW4 (j:=by simp+contextual only[ij,ijv])
def aX1(n:Nat)(h:∀s,shS n s->Ct 298 [.a s.c] isB)(l)(i:L l<=8)(hs:∀s∈l,shS n s):Ct 269 [sl m8.c l] isB:=by refine bgx λs0 e f=>?_;refine bc4 (L l) (λ_=>True) trivial λk g _=>?_;simp only[qz 19,au,eQ,ixv,bh,rr,H7,jM,kU,jt,Fa,aNP,aO1,aO5];intro d;have b:=aL d;refine⟨dJ b,aPW (h _<|hs _<|dB b) (aV2 aS7) ?_⟩;rintro r ⟨x,rfl⟩;simp only[eQ,AL,aNG,aO1];grind [gS]
set_option maxHeartbeats 8000000 in
def a7f:∀(n:Nat) (s:m8),shS n s->Ct 298 [.a s.c] isB:=by intro n;induction n with|zero=>intro s h;exact h.elim|succ n o=>intro s l;have A:=l.at;obtain⟨m,C,g1,q⟩:=l.body;obtain rfl:n=m:=(by omega);refine bgw biw λd B f z=>?_;have hI:Q ((L s.index:Int)=1)=U->∃n,shE n (gd s.index 0):=(by grind [dB]);have u:s.op=1\/s.op=2\/s.op=3\/s.op=14->∃n,shE n s.expr:=(by grind);have k:fW (cX 269) [sl m8.c s.body] (lo d [sl m8.c s.body]) (λb=>gR (gP U b) (λg=>g<|AV.p (1,1) 0 10) λt=>gR (gP U b) (λg=>rV (Iy J d t) λv=>g v) λe=>gR (gP U b) (λg=>fW (cX 269) [dG d e] (lo d [e]) λv=>g v) λi=>rV (mL b i<|bv I) λj=>aE isB d [j]):=(by refine aPW (aX1 n o _ (by omega) g1.2) rfl ?_;rintro r ⟨x,rfl⟩;(cases x);simp only[eQ,AL,bcW,aNP,jN,aNG];simp only[eQ,AL,aNG,jA,f,H7,alg,aRV];refine aPW (aX1 n o _ (by omega) q.2) rfl ?_;rintro r ⟨y,rfl⟩;simp only[AL,u1,aNP,aNG]);have cs:(Q (s.op<1)||Q (15<s.op))=U\/s.op=1\/s.op=2\/s.op=3\/s.op=4\/s.op=5\/s.op=6\/s.op=7\/s.op=8\/s.op=9\/s.op=10\/s.op=11\/s.op=12\/s.op=13\/s.op=14\/s.op=15:=(by grind);rcases cs with h|h|h|h|h|h|h|h|h|h|h|h|h|h|h|h;simp+contextual only[eS,f,H7,h,aNP,↓iC];trace_state;all_goals(try have w:=u<|by omega);simp+contextual only[eT,f,H7,ar,Fa,aRO,rr,rg,ixv,Gx,aRB,aNP,h,k,boV,bqJ,Int.reduceLT,Int.reduceEq,Int.reduceLE,brW,btR,bvW,aRV,bcW,↓jA,↓jN,Bool.and_self,aO1,aO5];(try simp only[aF,aBY,aNK,bN,fH,cP,bik,aNS,eH,fK]);simp_all
def a6L(s)(b:∃n,shS n s):Ct 298 [.a s.c] (λr=>isB r):=by obtain⟨n,b⟩:=b;exact a7f n s b
def a8a:FT:=om a6L
def aWT(l)(a:∃n,shL n 8 l):Ct 269 [sl m8.c l] (λr=>isB r):=by obtain⟨n,a⟩:=a;exact aX1 n (a7f n) l a.1 a.2
def aT1:FT:=om aWT
def bbB:=aUy aT1 aWT (j:=by simp+contextual only[ij,ijv])
def aYh(c:bcV):Prop:=0<=c.I9/\c.I9<=32/\∀k,k<L c.big->∀j∈a6F (gd c.big k),0<=j/\j<c.I9
def aTv{P:Bool->Prop}{Q:cC}:(∀r,(∃b:Bool,r=bv b/\P b)->Q r)=∀b,P b->Q (bv b):=(by grind)
def aPA{a}{p:Bool->Prop}:(∃k,bv a=bv k/\p k)=p a:=(by simp)
def bd5{l}{Q:cC}:(∀r,aRU l r->Q r)=∀t o,Q (.l (l.map ci) t o):=QS
def bdN{Y}{x:awG}{r}:lo Y [.a x.c] r=True:=by simp[lo,nA,eB,iR,awG.c]
def aXo(w:pz)(t:Int)(c)(H:L c.big<1000000):Ct 186 [.a w.c,iv t, .a c.c] (λr=>∃b,r=bv b/\(b=U->aYh c)):=by refine bhb rfl rfl λK E z g P=>?_;simp+contextual only[eS,g,H7,ar,aPA,eE,aQl,aO1];intro f;refine yV (L c.big) (λk _ Y=>Fx K Y []/\∀u,u<k->∀j∈a6F (gd c.big u),0<=j/\j<c.I9) ⟨Fx.refl _ _,by simp⟩ ?_;rintro k _ Y W ⟨F,hI⟩;have p:=F.len.trans E;have B:=F.kq z;have l:=F.kq g;simp only[qz 43,qy 6,au,eT,l,H7,ixv,bh,aPA];refine⟨λh=>⟨vp h,anu p λv O e N A=>?_⟩,λh _=>?_⟩;have q:=aL h;have C:=e.kq B;have m:=e.kq l;simp+contextual only[qz 8,au,eT,C,m,A,ix,H7,ar,Fa,aRO,rr,rg,aPA,bd5,bdN,H,eE,aQl,aO1];refineλx y _=>⟨(by grind [dX]),λ_ _ X o=>?_⟩;refine bc4 (L<|a6F<|gd c.big k) (λi=>∀d,d<i->0<=gd (a6F<|gd c.big k) d/\gd (a6F<|gd c.big k) d<c.I9) (by simp) λi T S=>?_;have G:L (a6F<|gd c.big k)<=3:=(by grind [a6F]);simp only[qz 139,au,eT,tf,H7,m,bh,ar,aRO,rr,aPA,eE,aQl,aO1];refine⟨(by grind [dJ,aL,gS,dh]),λR=>?_⟩;refine dR (mk:=λ(_:Unit) i=>[iv i]) (s:=()) (s':=()) (λ_ _=>rfl) q (by omega) ⟨F.trans e,a6p hI λj D=>?_⟩;obtain⟨d,M,rfl⟩:=ou D;grind [bT,biN,bw];simp at f;have n:k=L c.big:=(by grind);subst n;exact⟨by omega,by omega,hI⟩
def aUg:FT:=vn aXo
def bb6:=zZ aUg aXo (j:=by simp+contextual only[ij,ijv])
def a7z:dO:=(316,aT8)::(298,a8a)::(269,aT1)::(186,aUg)::a7y
def aTB:eJ a7z:=vl (By aW4<|λ_ _ _=>by simp only[Cs,aqG,aOW,Bool.and_self]) (vl (rj a6L<|λ_=>by simp only[Cs,aqG,aOW,Bool.and_self])<|vl (rj aWT<|λ_=>by simp only[Cs,aqG,aOW,Bool.and_self])<|vl (By aXo)<|aR1)
def aQT:=ai @bbM<|ai @bbB<|ai @bb6<|@aRO
section
attribute[local irreducible] aX
def a8W:=kW 27 [(3,([3],[1])),(11,([4],[1])),(18,([6],[1,4,5]))]
def bgu{c0}:=y1 196 2 1 aTB func236 a8W c0 [.a c0]
def bgC{c0 a1 b}:=y2 196 2 3 272 4 5 aTB func302 a8V c0 b [.a c0,a1, .a b]
def a9p:=kW 13 [(6,([3],[1]))]
def bgX{c0}:=y1 129 7 1 aTB func119 a9p c0 [.a c0]
end
def aWR(p)(u:shP p):Ct 236 [.a p.c] (λr=>isB r):=by obtain⟨⟨A,B,C⟩,D,o⟩:=u;refine bgu rfl λw t e z=>?_;refine bc4 (L p.bnq) (λ_=>True) trivial λk q _=>?_;simp+contextual only[qz 19,au,eT,e,H7,ixv,bh,ar,Fa,aQT,rr,aNP,aO1];refine⟨λh=>⟨vp h,by grind [gS,aL]⟩,λ_=>?_⟩;refine yV (L p.ay) (λ_ _ Y=>Fx w Y []) (Fx.refl _ _) ?_;rintro k _ Y q F;have n:=F.kq e;have f:=F.len.trans t;simp only[qz 67,qy 4,qy 6,au,eT,n,H7,ixv,bh,aNP,aO1,aO5];intro h;have d:=aL h;refine⟨dJ d,anu f λv y l x m=>?_⟩;have g:=o _<|dB d;refine bc4 (L (gd p.ay k).locs) (λ_=>True) trivial λj E _=>?_;simp+contextual only[qz 109,au,eT,m,H7,ix,bh,ar,aQT,rr,rg,aNP,aO1];refine⟨λh=>⟨vp h,λ_=>gS (aL h) (by have:=g.1;omega) trivial⟩,λ_=>⟨λ_=>⟨4,g.2⟩,λb _=>dR (mk:=λ(_:Unit) i=>[iv i]) (s:=()) (s':=()) (λ_ _=>rfl) d (by omega)<|F.trans l⟩⟩
def aT0:FT:=om aWR
def bbz:=aUy aT0 aWR (j:=by simp+contextual only[ij,ijv])
def aWY(p)(t)(e)(f:PrB p/\∃n,shE n e):Ct 302 [.a p.c,iv t, .a e.c] (λr=>isI r):=by refine bgC rfl aN9 λi h b d g=>?_;simp+contextual only[eQ,b,d,H7,ar,Fa,aQT,f,rr,aPG,aO1,aPe]
def aP8:FT:=vn aWY
def bbG:=zZ aP8 aWY (j:=by simp+contextual only[ij,ijv])
def aPU(c:aOw):Prop:=mQ c.aQ=U/\L c.ay=L c.aQ.ay/\∀t∈c.ay,aYh t
def aOc(c:aOw):Prop:=L c.ay<1000/\∀t∈c.ay,L t.big<1000000
def aXh(c)(f:aOc c):Ct 119 [.a c.c] (λr=>∃b,r=bv b/\(b=U->aPU c)):=by obtain⟨i,e⟩:=f;refine bgX rfl λp n d g=>?_;simp+contextual only[eS,d,H7,ar,aQT,rr,aPA,eE,aQl,aO1];intro o;refine bc4 (L c.ay) (λk=>∀j,j<k->aYh (gd c.ay j)) (by simp) λk m l=>?_;simp+contextual only[qz 37,au,eT,d,H7,ixv,bh,ar,Fa,aQT,rr,aTv,aPA,eE,aQl,aO1];refine⟨λh=>⟨vp h,e _<|dB<|aL h,by grind [gS,aL]⟩,λh _=>⟨?_,?_,?_⟩⟩;simp_all;grind;grind [ou,bT,biN,bw]
def aRk:FT:=om aXh
def bbZ:=aUy aRk aXh (j:=by simp+contextual only[ij,ijv])
def aYb:dO:=(236,aT0)::(302,aP8)::(119,aRk)::a7z
def aTC:eJ aYb:=vl (rj aWR) (vl (By aWY<|λ_ _ _=>by simp only[Cs,aqG,aOW,Bool.and_self])<|vl (rj aXh)<|aTB)
def aQU:=ai @bbz<|ai @bbG<|ai @bbZ<|@aQT
section
attribute[local irreducible] aX
def a9e:=kW 11 [(3,([9],[0,1,2,3]))]
def bgM{a a1 b c}:=yB aTC func299 a9e [a,a1,b,c]
def a9f:=kW 56 [(12,([67],[0,3,5,6,7,8,9,30])),(17,([91],[0,3,5,6,7,8,9,30])),(24,([119],[0,3,5,6,7,8,9,30])),(51,([14],[0,3,5,6]))]
def bgN{c b}:=yB1 274 11 3 aTC func272 a9f b [c, .a b]
def a5F:=kW 22 [(3,([6],[0,1])),(9,([8],[0,1,6,7])),(16,([8,9],[0,1,6]))]
def aRq a a1 s0 R:=(.mk _:NF<|zF GGV aYb a5F Tryz.f240 [a,a1] [] s0<|QDb Tryz.f240 R).p
def a7S{a a1:AV}{s0:ae}{R:be}(hs:L s0=4096)(h:aRq a a1 s0 R):EB 240 [a,a1] s0 R:=aTc<|zB a5F (aQ9 aTC) func240 h
end
def aV6{fn xs Y d K}{P:Value->Prop}(i:uQ.elem fn=U)(h:∃r b,((∃v,r= .s v/\P v)/\Fx Y b [])/\cZ aS GG fn xs Y r b)(g:∀v,P v->K (.s v) Y):cB fn xs Y d K:=by obtain⟨r,b,⟨⟨v,rfl,j⟩,c⟩,f⟩:=h;exact aS2 i ⟨_,b,⟨rfl,c⟩,f⟩<|g v j
section
variable{Y:ae}{e:TypeId}{z:Nat}{a:AV}{bA:List (dM)}
theorem ixG{i:Int}{K}(d:sA Y e z a bA)(c:aF (L bA) i)(h:∀b m,a= .m b (L bA)->box Y b=V ⟨e,z,U,I,bA++m⟩->K (.p b i.toNat 0)):rV (cz z Y a<|iv i) K:=by have f:=c.1;have g:=c.2;rcases d with⟨rfl,rfl⟩|⟨b,m,rfl,j⟩;grind;grind [cz,rV]
theorem stG{b}{i:Nat}{cs K}(c:box Y b=V ⟨e,z,U,I,bA⟩)(m:i<L bA)(n:∀r∈bA,L r=z)(k:L cs=z)(l:cs.all eN=U)(h:nrm (eR Y<|.a cs)= .a cs)(hI:eB (.a cs)=[])(g:∀Y',Fx Y Y' [b]->box Y' b=V ⟨e,z,U,I,bA.set i cs⟩->K Y'):sV (aK z Y (.p b i 0)<|.a cs) K:=by have d:bA[i]?=V bA[i]:=(by simp);have j:bA[i].length=z:=(by simp_all);have f:aK z Y (.p b i 0) (.a cs)=V (wr Y b ⟨e,z,U,I,bA.set i cs⟩):=(by simp only[aK,aBG,c,eE,brP,hI,kills,aRl,h,pW,eY,d];grind);rw[f];exact g _ (wc c)<|lO c
theorem aQz{b}{i j:Nat}{x r K}(c:box Y b=V ⟨e,z,U,I,bA⟩)(h:bA[i]?=V r)(l:j<L r)(g:eY (nrm<|eR Y x)=V [nrm<|eR Y x])(k:eN (nrm<|eR Y x)=U)(hI:eB x=[])(f:∀Y',Fx Y Y' [b]->box Y' b=V ⟨e,z,U,I,bA.set i<|r.set j<|nrm<|eR Y x⟩->K Y'):sV (aK 1 Y (.p b i j) x) K:=by have d:aK 1 Y (.p b i j) x=V (wr Y b ⟨e,z,U,I,bA.set i<|r.set j<|nrm<|eR Y x⟩):=(by simp only[aK,aBG,c,eE,brP,hI,kills,aRl,pW,g,h,bZ,aO6];grind [GP]);rw[d];exact f _ (wc c)<|lO c
end
def bxL{e}{z d:Nat}{cs Y K}(h:L cs=z)(g:0<z)(b:d<L Y)(f:∀v Y',Fx Y Y' []->bK Y (d,v)->box Y' (d,v)=V ⟨e,z,U,U,[cs]⟩->K (.p (d,v) 0 0) Y'):eV (bxA e z Y d<|.a cs) K:=by have c:bxA e z Y d (.a cs)=V (.p (I8 Y d) 0 0,put Y d ⟨e,z,U,U,[cs]⟩):=(by grind [bxA,eY,aPF]);rw[c];exact f _ _ (kH b) (qQ Y d)<|iy b
def gfP{Y b T e}{z ze j d by':Nat}{cs zs a bA new t o}{K:AV->be}(B:box Y b=V ⟨T,z,U,U,[cs]⟩)(G:j<L cs)(w:sA Y e ze a bA)(i:b∉aA a)(O:L zs=ze)(k:0<ze)(D:d<L Y)(M:∀r∈bA,L r=ze)(H:∀r∈new,L r=ze)(v:new≠[])(h:(L bA+L new)*(by'+1)<=1099511627776)(C:b.1≠d)(A:∀c Y',box Y' b=V ⟨T,z,U,U,[cs.set j c]⟩->bc Y' e ze c (bA++new)->Fx Y Y' (b::aA a)->(∀q∈aA c,bK Y q/\q.1=d)->K (.p b 0 j) c Y'):eV (apA e zs by' Y d a<|.l new t o) λx s=>rV (iQ j s<|.p b 0 0) λy=>sV (aK 1 s y x) (K y x):=by refine qs w O k D M H v h λc Y' g F N=>?_;have f:=F.keep _ _ i B;have E:iQ j Y' (.p b 0 0)=V (.p b 0 j):=(by simp[iQ,f]);simp only[E,aY];refine stC f g.p.ce G λn m u=>?_;have P:b∉aA c:=(by grind);refine A c n u (by grind [bc.fx]) ((F.trans m).mono λq R=>?_) N;grind
def bfa{α:Type}{l}{x y:α}:(l++[x]).set (L l) y=l++[y]:=by simp
structure Wk(Y:ae)(b:Id)(p:aPZ)(al:List m8)(n:Nat)(a s t:AV):Prop where
 bx:∃th:Int,box Y b=V ⟨305,6,U,U,[[sl w6.c p.bnq,sl aQd.c p.ay,iv th,a,s,t]]⟩
 ga:sA Y 274 11 a (al.map m8.c)
 gs:∃l:List ByteArray,sA Y 9 1 s (l.map cs)/\L l<=n
 gt:∃l:List ByteArray,sA Y 9 1 t (l.map cs)/\L l<=n
 la:L al<=6
 le:L Y=4096
 sb:b.1=60
 sa:∀q∈aA a,q.1=42
 ss:∀q∈aA s,q.1=204
 st:∀q∈aA t,q.1=262
section
variable{Y Y':ae}{b:Id}{p:aPZ}{al:List m8}{n:Nat}{a s t:AV}
theorem Wk.fx{ks}(W:Wk Y b p al n a s t)(F:Fx Y Y' ks)(d:b∉ks)(e:∀q∈aA a,q∉ks)(f:∀q∈aA s,q∉ks)(h:∀q∈aA t,q∉ks):Wk Y' b p al n a s t:=by obtain⟨o,i⟩:=W.bx;obtain⟨l,g,j⟩:=W.gs;obtain⟨m,c,k⟩:=W.gt;exact⟨⟨o,F.keep _ _ d i⟩,W.ga.fx F e,⟨l,g.fx F f,j⟩,⟨m,c.fx F h,k⟩,W.la,F.len.trans W.le,W.sb,W.sa,W.ss,W.st⟩
theorem Wk.fx0(W:Wk Y b p al n a s t)(F:Fx Y Y' []):Wk Y' b p al n a s t:=(by grind [Wk.fx])
theorem Wk.mono{m}(W:Wk Y b p al n a s t)(h:n<=m):Wk Y b p al m a s t:=by obtain⟨l,g,e⟩:=W.gs;obtain⟨k,c,d⟩:=W.gt;exact⟨W.bx,W.ga,⟨l,g,by omega⟩,⟨k,c,by omega⟩,W.la,W.le,W.sb,W.sa,W.ss,W.st⟩
theorem ixL{i:Int}{K α}[Inhabited α]{f}{l:List α}{z:Nat}{e}(d:sA Y e z a<|l.map f)(c:aF (L l) i)(w:∀x,L (f x)=z)(g:∀y,(∀q,Iy q Y y=aN q (f<|gd l i.toNat))->(∀j q,rV (iQ j Y y) q=q (match y with| .p b k o=> .p b k (o+j)|y=>y))->K y):rV (cz z Y a<|iv i) K:=by refine ixG d (by grind) λb m v h=>g _ (λq=>?_) (λj q=>?_);have r:=c.1;have u:=c.2;grind [gd,List.getElem?_append_left,List.getElem?_eq_getElem,bT,Iy,iE];simp[iQ,h,rV]
def bdi(W:Wk Y b p al n a s t)(x y)(q):∃r c,((∃v,r= .s v/\∃u:Bool,v= .bool u)/\Fx Y c [])/\cZ aS GG 299 [.p b 0 0,iv x,iv y,st q] Y r c:=by refine bgM W.le ?_;refine yV (L al) (λ_ _ Y'=>Fx Y Y' []) (Fx.refl _ _) ?_;rintro k _ c B F;have e:=W.fx0 F;obtain⟨C,g⟩:=e.bx;have j:∀u Y',Fx Y Y' []->aNR (λr c=>(∃v,r= .s v/\∃u:Bool,v= .bool u)/\Fx Y c []) Y' [bv u]:=λu Y' d=>⟨⟨_,rfl,u,rfl⟩,d⟩;simp only[qz 19,qy 2,au,nlP g,eS,g,H7,e.ga.ln,bJ];refine⟨λh=>?_,λ_=>j _ _ F⟩;have f:=aL h;refine ixL e.ga (dJ f) (λ_=>biw) λD o _=>?_;simp only[o,bh,H7,aY];refine aRA rfl biw (by decide) (by rw[e.le];decide) λv A l z m=>?_;have d:=F.trans l;simp+contextual only[qz 4,au,eS,m,H7,j _ _ d,aO1,aNG];have w:=W.la;exactλ_=>dR (mk:=λ(_:Unit) i=>[iv i]) (s:=()) (s':=()) (λ_ _=>rfl) f (by omega) d
theorem aRE(W:Wk Y b p al n a s t){x y c d K}(e:∀u,K (bv u) Y):cB 299 [.p b 0 0,iv x,iv y,st c] Y d K:=aV6 rfl (bdi W x y c) (by simp_all)
def aPr(Y:ae)(b:Id)(p:aPZ)(al:List m8)(n:Nat)(a s t:AV)(r:AV)(c:ae):Prop:=∃(e:Int) (s' d:AV),r=iv e/\Wk c b p al (n+1) a s' d/\Fx Y c (b::(aA s++aA t))/\(∀q∈aA s',q∈aA s\/bK Y q)/\∀q∈aA d,q∈aA t\/bK Y q
theorem aPr.no(W:Wk Y b p al n a s t)(F:Fx Y Y' [])(e):aPr Y b p al n a s t (iv e) Y':=⟨e,s,t,rfl,(W.fx0 F).mono (by omega),F.mono (by simp),λ_ h=> .inl h,λ_ h=> .inl h⟩
def bd6{Q:cC}:(∀r,(∃k:Int,r=iv k)->Q r)=∀k,Q (iv k):=a65
def a52{x}:aX zd9 1 Y [(0,st x)]=V (.l ([x].map cs) U U,Y):=iz
set_option maxHeartbeats 8000000 in
theorem bdl(W:Wk Y b p al n a s t)(O:PrB p){m:Nat}{x:m8}(hx:shS m x)(hn:n<100000):∃r Y1,aPr Y b p al n a s t r Y1/\cZ aS GG 272 [.p b 0 0, .a x.c] Y r Y1:=by have hw:=W;have ha:=hx.at;obtain⟨b1,B⟩:=b;obtain rfl:b1=60:=W.sb;refine bgN W.le biw λs2 v3 K2 a0 nf2 b3=>?_;have F2:Fx Y s2 []:=K2.fx [];have T:=W.fx0 F2;obtain⟨th,D⟩:=T.bx;have rp:∀{l:dM},aN (V 2) (sl w6.c p.bnq::sl aQd.c p.ay::l)=V (.a p.c):=rfl;simp only[qy 4,nlP D,eS,D,rp,H7];refine anu T.le λv5 A E aQ b5=>?_;have f:=T.fx0 E;have X:=E.kq b3;have F:=F2.trans E;obtain⟨th,D⟩:=f.bx;have aZ:cO A (.p (60,B) 0 0)=V (.p (60,B) 0 0):=nlP D;obtain⟨ls,N,aX⟩:=f.gs;obtain⟨lt,H,aY⟩:=f.gt;have aK:dG A s=sl Ab.cs ls:=N.ar;have aL:dG A t=sl Ab.cs lt:=H.ar;refine dT (by first|rfl|(simp[eL,okT,tok,lb,cq,Qh,zt,dC,pP,dK];done)) ?_;refine aRE f λtx=>?_;simp only[qz 8];refine aRE f λaR=>?_;simp only[qz 10];refine aRE f λlp=>?_;have dn:∀e:Int,aNR (aPr Y (60,B) p al n a s t) A [iv e]:=λe=>aPr.no W F e;have hI:∀y∈x.index,∃n,shE n y:=(by grind);have hX:x.op=1\/x.op=2\/x.op=3\/x.op=14->∃n,shE n x.expr:=(by grind);have an:=aTb (p:=λi=>Q<|(gd p.bnq i).name=x.name) (n:=L p.bnq);have ah:(x.op=1\/x.op=2\/x.op=3\/x.op=4\/x.op=5\/x.op=6\/x.op=7\/x.op=8\/x.op=9\/x.op=10\/x.op=11\/x.op=12\/x.op=13\/x.op=14)\/(x.op≠1/\x.op≠2/\x.op≠3/\x.op≠4/\x.op≠5/\x.op≠6/\x.op≠7/\x.op≠8/\x.op≠9/\x.op≠10/\x.op≠11/\x.op≠12/\x.op≠13/\x.op≠14):=(by omega);have lock:∀(i j:Int) (d:Nat) (k:Int),gF (!tx) (λk=>cB 299 [AV.p (60,B) 0 0,iv i,iv j,st x.name] A d λax av=>k ax av) A λaz C=>rV (mL (bv tx) (bv U) az) λR=>fW aOS [dG C R] (lo C [R]) λS=>fW aOi [AV.s<|Value.int dq k,dG C S] (lo C [iv k,S]) λaB=>aNR (aPr Y (60,B) p al n a s t) C [aB]:=(by intro i j d k;(cases tx);simp only[kN,gF,a7c];refine aRE f λu=>?_;simp only[u0,ar,aQU,dn,aPe];simp only[gF,a5C,aRV,u0,ar,aQU,dn,aPe]);simp only[qz 12,eS,X,H7];rcases ah with(h|h|h|h|h|h|h|h|h|h|h|h|h|h)|⟨g1,g2,g3,g4,g5,g6,g7,g8,g9,aT,aU,z,aV,aW⟩;(all_goals(try have am:=hX<|by omega);simp+contextual only[qz 309,qy 26,qz 311,qz 147,qy 20,qz 149,qz 105,qz 107,qz 75,qz 77,be8,au,eT,H7,ar,Fa,aQU,rr,ixv,Gx, *,boV,bqJ,Int.reduceEq,brW,↓iC,↓iB,aXX,bd6,aO1,aO5,eE,sr,aQl,bc5]);intro h0 k;have:0<L x.index:=(by grind);exact⟨⟨by omega,by omega⟩,hI _<|dB this⟩;(any_goals intro k hk h0;have ap:k=0:=(by simp_all);refine⟨by have:=O.1;omega,⟨hk ap,an.2⟩,aRE f λu=>?_⟩;cases tx<;>cases u<;>simp+contextual only[qz 18,eS,X,H7,ar,aQU,dn,aRV,bcW,jA,jN,aPe]);intro k hk;refine⟨by have:=O.2.1;omega,λ_=>⟨by omega,λ_=>?_⟩⟩;simp only[a52,bQ];refine apQ N f.le oX oX (by simp) (by simp;omega) λs' aq z o af=>?_;have w:=o.keep _ _ (λg=>by have:=f.ss _ g;simp at this) D;simp only[qz 22,nlP w,eS,w];refine stC w z.p.ce (by simp) λP v G=>?_;refine dT (by first|rfl|(simp[eL,okT,tok,lb,cq,Qh,zt,dC,pP,dK];done)) ?_;have M:∀q∈aA s',q∉[((60,B):Id)]:=(by grind);refine⟨0,s',t,rfl,⟨⟨th,G⟩,(f.ga.fx o<|λq g K=>by grind [Wk.sa,Wk.ss]).fx v (λq g e=>by grind [Wk.sa]),⟨ls++[x.name],by rw[dg];exact z.p.fx v M,by simp;omega⟩,⟨lt,(H.fx o<|λq g K=>by grind [Wk.st,Wk.ss]).fx v (λq g e=>by grind [Wk.st]),by omega⟩,f.la,v.len.trans<|o.len.trans f.le,rfl,f.sa,(by grind),f.st⟩,((F.trans o).trans v).mono<|λq g=> .inl ?_,(by grind [bK.old]),λq g=> .inl g⟩;grind;intro k _;have:=O.2.1;omega;(focus refineλk=>⟨λ_=>by omega,λ_=>?_,λ_=>?_⟩;all_goals simp only[a52,bQ];refine apQ H f.le oX oX (by simp) (by simp;omega) λt' aq z o af=>?_;have w:=o.keep _ _ (λg=>by have:=f.st _ g;simp at this) D;have Z:=o.keep _ _ (λg=>by have:=f.st _ g;simp at this) X;have d5:=o.keep _ _ (λg=>by have:=f.st _ g;simp at this) b5;simp only[qz 28,nlP w,eS,w];refine stC w z.p.ce (by simp) λP v G=>?_;have Z:=v.kq Z;have d5:=v.kq d5;refine dT (by first|rfl|(simp[eL,okT,tok,lb,cq,Qh,zt,dC,pP,dK];done)) ?_;have M:∀q∈aA t',q∉[((60,B):Id)]:=(by grind);have ak:∀e:Int,aPr Y (60,B) p al n a s t (iv e) P:=(by intro e;refine⟨e,s,t',rfl,⟨⟨th,G⟩,(f.ga.fx o<|λq g K=>by grind [Wk.sa,Wk.st]).fx v (λq g e=>by grind [Wk.sa]),⟨ls,(N.fx o<|λq g K=>by grind [Wk.ss,Wk.st]).fx v (λq g e=>by grind [Wk.ss]),by omega⟩,⟨lt++[x.name],by rw[dg];exact z.p.fx v M,by simp;omega⟩,f.la,v.len.trans<|o.len.trans f.le,rfl,f.sa,f.ss,by grind⟩,((F.trans o).trans v).mono<|λq g=> .inl ?_,λq g=> .inl g,by grind [bK.old]⟩;grind);simp only[eS,Z,d5,H7,ar,Fa,aQU,O,am,rr,aPe];exactλ_=>ak _)
theorem baX(W:Wk Y b p al n a s t)(h:PrB p){m x}(j:shS m x)(i:n<100000){d K}(v:∀(e) (s' g) f,Wk f b p al (n+1) a s' g->Fx Y f (b::(aA s++aA t))->(∀q∈aA s',q∈aA s\/bK Y q)->(∀q∈aA g,q∈aA t\/bK Y q)->K (iv e) f):cB 272 [.p b 0 0, .a x.c] Y d K:=by refine jH rfl (bdl W h j i) ?_;rintro r f ⟨e,s',g,rfl,k,l,o,u⟩;grind [Fx.len]
def bS:Nat->Nat|0=>0|m+1=>1+8*bS m
def aR9(Y:ae)(b:Id)(p:aPZ)(al:List m8)(n:Nat)(a s t:AV)(r:AV)(c:ae):Prop:=∃(e l:Int) (d s' f:AV),r= .t [iv e,iv l]/\Wk c b p al n d s' f/\Fx Y c (b::(aA a++(aA s++aA t)))/\(∀q∈aA d,q∈aA a\/bK Y q)/\(∀q∈aA s',q∈aA s\/bK Y q)/\∀q∈aA f,q∈aA t\/bK Y q
theorem bc8(hB:PrB p):∀(m:Nat) {Y al} {n:Nat} {a s t l},Wk Y b p al n a s t->shL m 8 l->n+L l*bS m<100000->
  ∃r Y1,aR9 Y b p al (n+L l*bS m) a s t r Y1/\cZ aS GG 240 [.p b 0 0,sl m8.c l] Y r Y1:=by
 intro m
 induction m with
 |zero=>
  intro Y al n a s t l W hs hn
  have:=List.eq_nil_iff_forall_not_mem.2 λx hx=>hs.2 x hx
  subst this
  refine a7S W.le ?_
  simp only[aRq]
  refine yV 0 (λ_ _ Y'=>Y'=Y) rfl ?_
  rintro k _ Y1 hk rfl
  simp only[qz 19,qy 2,au,eQ,aO6]
  refine⟨λh=>by simp at h;omega,λ_=>⟨0,0,a,s,t,rfl,W.mono (by omega),Fx.refl _ _,λ_ h=> .inl h,λ_ h=> .inl h,λ_ h=> .inl h⟩⟩
 |succ m ih=>
  intro Y al n a s t l W hs hn
  obtain⟨b1,g⟩:=b
  obtain rfl:b1=60:=W.sb
  refine a7S W.le ?_
  simp only[aRq]
  refine yV (L l) (λk _ Y'=>∃C s' E,Wk Y' (60,g) p al (n+k*bS (m+1)) C s' E/\Fx Y Y' ((60,g)::(aA a++(aA s++aA t)))/\(∀q∈aA C,q∈aA a\/bK Y q)/\(∀q∈aA s',q∈aA s\/bK Y q)/\∀q∈aA E,q∈aA t\/bK Y q) (by grind [Fx.refl]) ?_
  rintro k _ Y1 hk ⟨a1,s1,t1,W1,F1,i1,i2,i3⟩
  have b8:k*bS (m+1)<=L l*bS (m+1):=qo _ hk
  have aN:∀(e ln:Int) (C s' E:AV) Y',Wk Y' (60,g) p al (n+L l*bS (m+1)) C s' E->Fx Y Y' ((60,g)::(aA a++(aA s++aA t)))->(∀q∈aA C,q∈aA a\/bK Y q)->(∀q∈aA s',q∈aA s\/bK Y q)->(∀q∈aA E,q∈aA t\/bK Y q)->aNR (aR9 Y (60,g) p al (n+L l*bS (m+1)) a s t) Y' [iv e,iv ln]:=λe ln C s' E Y' h1 h2 h3 h4 h5=>⟨e,ln,C,s',E,rfl,h1,h2,h3,h4,h5⟩
  simp only[qz 19,qy 2,au,eQ,ixv,bh,rr,H7]
  refine⟨λh=>⟨vp h,aRA rfl biw (by decide) (by rw[W1.le];decide) λv s2 F2 N2 aK=>?_⟩,by grind⟩
  have an:=aL h
  have W2:=W1.fx0 F2
  have hx:=hs.2 _<|dB an
  obtain⟨m',cn,g1,g2⟩:=hx.body
  obtain rfl:m=m':=by omega
  have bC:n+k*bS (m+1)+(1+8*bS m)<=n+L l*bS (m+1):=by
   have h9:(k+1)*bS (m+1)<=L l*bS (m+1):=qo _ an
   grind [tN,bS]
  have n7:∀{C s' E:AV} {Y':ae} {bi:List m8} {n':Nat},Wk Y' (60,g) p bi n' C s' E->∀(v:Nat),((7,v):Id)∉((60,g):Id)::(aA C++(aA s'++aA E)):=λW v o=>by
   simp only[eW,dF,iK] at o
   rcases o with h|h|h|h
   ·omega
   ·have:=W.sa _ h;simp at this
   ·have:=W.ss _ h;simp at this
   ·have:=W.st _ h;simp at this
  generalize cp:gd l k=x at*
  simp only[qz 4,eQ,aK,H7]
  refine baX W2 hB hx (by omega) λe s3 t3 Y3 z F3 j2 j3=>?_
  have b3:=F3.keep _ _ (λo=>n7 W2 v<|by simp only[eW,dF] at o⊢;rcases o with h|h|h;exact .inl h;exact .inr<|.inr<|.inl h;exact .inr<|.inr<|.inr h) aK
  have Z:Fx Y Y3 ((60,g)::(aA a++(aA s++aA t))):=((F1.trans F2).trans F3).mono (by grind [bK.no])
  have aQ:∀q∈aA s3,q∈aA s\/bK Y q:=(by grind [bK.old])
  have aR:∀q∈aA t3,q∈aA t\/bK Y q:=(by grind [bK.old])
  obtain⟨th,ag⟩:=z.bx
  have bn:=z.la
  have ew:dq.wrap ((L al:Int)+1)=((L al+1:Nat):Int):=fX (by omega)
  simp+contextual only[qz 6,be8,qz 59,qz 57,qy 8,au,nlP ag,eS,ag,aRf,bhZ,aQ6,z.ga.ln,bJ,b3,H7,ew,Int.reduceEq,brW,btR,boV,↓iC]
  have ab:=λe ln=>aN e ln _ _ _ _ (z.mono<|by omega) Z i1 aQ aR
  refine⟨λ_=>ab _ _,λh6=>⟨λ_=>ab _ _,λ_=>?_⟩⟩
  have cm:L al+1<=6:=by grind
  have bq:aX brU 1 Y3 [(0,.a [iv 0,iv 0,sv [],sv [],.l [] U U,iv 0,iv 0,sv [],.l [] U U,.l [] U U,.l [] U U])]=V (.l [brU] U U,Y3):=by kernel_rfl
  simp only[bq,bQ]
  refine apQ z.ga z.le (qW λ_=>biw) (by simp) (by simp) (by simp;omega) λa4 Y4 g4 F4 N4=>?_
  rcases g4 with⟨h8,_⟩|⟨q,bm,o⟩
  ·simp at h8
  subst bm
  have aO:=(N4 q<|by simp[aA]).2
  have bu:=(N4 q<|by simp[aA]).1
  obtain⟨q1,q2⟩:=q
  simp only at aO
  subst aO
  have na:∀{u:Nat} {r:Nat},r≠42->((r,u):Id)∉aA a1:=λj o=>j<|z.sa _ o
  have b4:=F4.keep _ _ (na<|by decide) b3
  have bo:=F4.keep _ _ (na<|by decide) ag
  have aB:L (al.map m8.c++[brU])=L al+1:=by simp
  have br:∀{K:cC},K (.p (42,q2) (L al) 0)->rV (cz 11 Y4 (.m (42,q2)<|L<|al.map m8.c++[brU])<|iv (L al:Int)) K:=λ{K} hK=>by
   simp only[cz,Int.natCast_nonneg,a7g,o,aPy,bh,aB,Nat.lt_succ_self,aPe,rV]
   exact hK
  simp only[qz 10]
  refine br ?_
  refine stG o (by simp) (by intro r j;simp only[dF,dN,cE] at j;rcases j with⟨y,_,rfl⟩|rfl;exact biw;rfl) biw (by rw[bkk];rfl) (by rw[bkk];rfl) (by rw[bkk];rfl) λY5 F5 aP=>?_
  have aW:(al.map m8.c++[brU]).set (L al) (m8.c x)=(al++[x]).map m8.c:=by
   have:=bfa (l:=al.map m8.c) (x:=brU) (y:=m8.c x)
   rw[bJ] at this
   rw[this];simp
  rw[aW] at aP
  have b5:=F5.kq b4
  have T:=F5.kq bo
  simp only[qz 12,nlP T,eS,T]
  refine stC T rfl (by simp) λY6 F6 bp=>?_
  have b6:=F6.kq b5
  have co:=F6.kq aP
  have bt:zt (.a x.c)=[]:=by rw[bkk];rfl
  refine dT (by simp only[lbV,aBG,T,o,a7g,eE,brP,Cz,RN,bt];simp[eL,lb,zt,dC,dK]) ?_
  have aa:Fx Y3 Y6 (aA a1++[(60,g)]):=((F4.trans F5).trans F6).mono λr j=>by
   simp only[dF,cE] at j⊢
   grind [bK.no]
  have a5:=(Z.trans aa).mono λr j=>by
   rcases dF.1 j with h|h
   ·exact .inl h
   ·rcases dF.1 h with h|h
    ·rcases i1 r h with h|h
     ·grind
     ·exact .inr h.no
    grind
  have aM:∀r:Id,r.1≠42->r.1≠60->r∉aA a1++[((60,g):Id)]:=(by grind)
  obtain⟨ls,gs,am⟩:=z.gs
  obtain⟨lt,af,S⟩:=z.gt
  have W6:Wk Y6 (60,g) p (al++[x]) (n+k*bS (m+1)+1) (.m (42,q2)<|L<|al.map m8.c++[brU]) s3 t3:=by
   refine⟨⟨th,bp⟩, .inr ⟨(42,q2),[],by simp,by grind⟩,⟨ls,gs.fx aa<|λr j=>aM r (by grind [Wk.ss])<|by grind [Wk.ss],am⟩,⟨lt,af.fx aa<|λr j=>aM r (by grind [Wk.st])<|by grind [Wk.st],S⟩,by simp;omega,F6.len.trans<|F5.len.trans<|F4.len.trans z.le,rfl,by simp[aA],z.ss,z.st⟩
  have a0:=bu.old Z
  have ac:∀{B:ae} {N:Nat} {M D F:AV} {l':List m8} {d:Nat} {K:be},Wk B (60,g) p (al++[x]) N M D F->shL m 4 l'->N<=n+k*bS (m+1)+(1+4*bS m)->Fx Y B ((60,g)::(aA a++(aA s++aA t)))->(∀q∈aA M,q∈aA a\/bK Y q)->(∀q∈aA D,q∈aA s\/bK Y q)->(∀q∈aA F,q∈aA t\/bK Y q)->
    (∀(e ln:Int) (H s9 t9:AV) (G:ae),Wk G (60,g) p (al++[x]) (N+4*bS m) H s9 t9->Fx B G ((60,g)::(aA M++(aA D++aA F)))->Fx Y G ((60,g)::(aA a++(aA s++aA t)))->(∀q∈aA H,q∈aA a\/bK Y q)->(∀q∈aA s9,q∈aA s\/bK Y q)->(∀q∈aA t9,q∈aA t\/bK Y q)->K (.t [iv e,iv ln]) G)->cB 240 [.p (60,g) 0 0,sl m8.c l'] B d K:=by
   intro B N M D F l' d K A ak hN X ar O P hK
   have h4:L l'*bS m<=4*bS m:=qo _ ak.1
   refine jH rfl (ih A ⟨by have:=ak.1;omega,ak.2⟩<|by omega) ?_
   rintro r G ⟨e,ln,H,s9,t9,rfl,R,w,v1,v2,v3⟩
   refine⟨w.len,hK e ln H s9 t9 G (R.mono<|by omega) w ((X.trans w).mono λr j=>?_) (λq o=>(v1 q o).elim (ar q) λh=> .inr<|h.old X) (λq o=>(v2 q o).elim (O q) λh=> .inr<|h.old X)<|λq o=>(v3 q o).elim (P q) λh=> .inr<|h.old X⟩
   rcases dF.1 j with h|h
   ·exact .inl h
   ·simp only[eW,dF] at h⊢
    rcases h with h|h|h|h
    ·grind
    ·exact(ar r h).elim (by grind) λh=> .inr h.no
    ·exact(O r h).elim (by grind) λh=> .inr h.no
    ·exact(P r h).elim (by grind) λh=> .inr h.no
  simp only[eS,b6,H7]
  refine ac W6 g1 (by omega) a5 (by simp[aA];exact .inr a0) aQ aR λe' ln H s9 t9 G R G9 w v1 v2 v3=>?_
  have b9:=G9.keep _ _ (n7 W6 v) b6
  simp only[qz 16,rr,aY]
  refine bpl (λf=>∀(e ln:Int) {B:ae} {N:Nat} {M D F:AV},Wk B (60,g) p (al++[x]) N M D F->N<=n+k*bS (m+1)+(1+8*bS m)->Fx Y B ((60,g)::(aA a++(aA s++aA t)))->(∀q∈aA M,q∈aA a\/bK Y q)->(∀q∈aA D,q∈aA s\/bK Y q)->(∀q∈aA F,q∈aA t\/bK Y q)->f [iv e,iv ln] B) ?_ λf ao=>?_
  ·intro e ln B N M D F A hN X ar O P
   obtain⟨th,ah⟩:=A.bx
   have e1:dq.wrap (((L al+1:Nat):Int)-1)=(L al:Int):=by grind [eM]
   simp only[qz 99,nlP ah,eS,ah,aRf,bhZ,aQ6,A.ga.ln,bJ,a6G,bZ,aO6,e1]
   refine slP A.ga (by omega) (by simp;omega) λH g9 i9=>?_
   have ht:((al++[x]).map m8.c).take ((L al:Int).toNat)=al.map m8.c:=by simp
   rw[ht] at g9
   refine stC ah g9.ce (by simp) λG w b9=>?_
   have d9:∀r:Id,r.1≠60->r∉[((60,g):Id)]:=(by grind)
   obtain⟨ls,gs,am⟩:=A.gs
   obtain⟨lt,af,S⟩:=A.gt
   have R:Wk G (60,g) p al N H D F:=⟨⟨th,b9⟩,g9.fx w<|λr j=>(by grind [Wk.sa]),⟨ls,gs.fx w<|λr j=>(by grind [Wk.ss]),am⟩,⟨lt,af.fx w<|λr j=>(by grind [Wk.st]),S⟩,bn,w.len.trans A.le,rfl,λr j=>A.sa r<|i9▸j,A.ss,A.st⟩
   have aJ:=(X.trans w).mono λr j=>by
    rcases dF.1 j with h|h
    ·exact .inl h
    ·exact .inl (by simp at h;simp[h])
   have u9:∀q∈aA H,q∈aA a\/bK Y q:=(by grind)
   simp only[qz 20,au,eQ]
   refine⟨λ_=>aN _ _ _ _ _ _ (R.mono<|by omega) aJ u9 O P,λ_=>?_⟩
   refine dR (mk:=λ(_:Unit) i=>[iv i]) (s:=()) (s':=()) (λ_ _=>rfl) an (by have:=hs.1;omega) ⟨H,D,F,R.mono ?_,aJ,u9,O,P⟩
   grind [tN,bS]
  simp only[qz 101,eS,b9,H7]
  refine⟨λ_=>?_,λ_=>ao _ _ R (by omega) w v1 v2 v3⟩
  refine ac R g2 (by omega) w v1 v2 v3 λe2 cq cl cr cs ck bc cj a3 w1 w2 w3=>?_
  simp only[qz 18,rr,aY]
  exact ao _ _ bc (by omega) a3 w1 w2 w3
theorem baR(i:PrB p){m:Nat}{l}(W:Wk Y b p al n a s t)(hs:shL m 8 l)(j:n+L l*bS m<100000){d:Nat}{K}(x:∀(e ln:Int) (g s' h) f,Wk f b p al (n+L l*bS m) g s' h->Fx Y f (b::(aA a++(aA s++aA t)))->(∀q∈aA g,q∈aA a\/bK Y q)->(∀q∈aA s',q∈aA s\/bK Y q)->(∀q∈aA h,q∈aA t\/bK Y q)->K (.t [iv e,iv ln]) f):cB 240 [.p b 0 0,sl m8.c l] Y d K:=by refine jH rfl (bc8 i m W hs j) ?_;rintro r f ⟨e,ln,g,s',h,rfl,k,o,u,v,w⟩;grind [Fx.len]
end
def a7A:dO:=aYb
def a7k:eJ a7A:=aTC
def aWi:=@aQU
section
attribute[local irreducible] aX
def a87:=kW 37 [(18,([8,9],[1])),(28,([11],[1,10]))]
def bgF{c0}:=y1 196 2 1 a7k func188 a87 c0 [.a c0]
end
def bdo{p}(f:shP p):Ct 188 [.a p.c] aQ1:=by
 have g:=f.1
 have P:=g.1
 have h2:=g.2.1
 refine bgF rfl λs2 R j h0=>?_
 simp+contextual only[eS,j,H7,ar,Fa,aWi,f,P,g,rr,aO2,aO1]
 intros
 refine yh (λs:Int×Nat=>[iv s.1,iv s.2]) 1 (L p.ay) (λ_=>True) (0,0) trivial ?_
 rintro⟨c,k⟩ _
 simp+contextual only[qz 109,au,eT,j,H7,ixv,bh,ar,aWi,rr,aO2,aO1]
 refine⟨λh=>⟨vp h,⟨4,(f.2.2 _<|dB<|aL h).2⟩,λx=>wN (enc:=λs:Int×Nat=>[iv s.1,iv s.2]) (s:=(c,k)) (s':=(_,k+1)) (by rw[fX<|by grind]) rfl rfl (aL h) trivial⟩,λ_ _=>?_⟩
 have z:bM bvb [(0,2),(2,1),(3,1),(4,1),(5,1)] [(0, .a p.c)]=V (.a [sl w6.c p.bnq,sl aQd.c p.ay,iv 0, .l [] U U, .l [] U U, .l [] U U]):=rfl
 simp only[z,aY]
 refine bxL rfl (by decide) (by omega) λv T o N3 M=>?_
 have A:=o.len.trans R
 have W3:Wk T (60,v) p [] 0 (.l [] U U) (.l [] U U) (.l [] U U):=⟨⟨0,M⟩, .inl ⟨rfl,rfl⟩,⟨[], .inl ⟨rfl,rfl⟩,by simp⟩,⟨[], .inl ⟨rfl,rfl⟩,by simp⟩,by simp,A,rfl,by simp[aA],by simp[aA],by simp[aA]⟩
 have c3:=o.kq j
 refine yV (L p.ay) (λk _ Y=>∃a s t,Wk Y (60,v) p [] (k*10000) a s t/\box Y (1,1)=V ⟨196,2,U,U,[p.c]⟩) (by grind) ?_
 rintro k _ Y hk ⟨a,s,t,W,q⟩
 obtain⟨th,m⟩:=W.bx
 simp only[qz 169,au,eS,q,nlP m,m,H7,rr,aO2,aO1,aO5]
 intro h
 have d:=aL h
 have E:=f.2.2 _<|dB d
 have ab:=f.2.1
 refine stC m rfl (by simp) λX b N=>?_
 have u:=b.kq q
 have G:Wk X (60,v) p [] (k*10000) a s t:=by
  obtain⟨ls,w,B⟩:=W.gs
  obtain⟨S,y,n⟩:=W.gt
  have d9:∀r:Id,r.1≠60->r∉[((60,v):Id)]:=(by simp_all)
  exact⟨⟨k,N⟩,W.ga.fx b<|λr D=>(by grind [Wk.sa]),⟨ls,w.fx b<|λr D=>(by grind [Wk.ss]),B⟩,⟨S,y.fx b<|λr D=>(by grind [Wk.st]),n⟩,W.la,b.len.trans W.le,rfl,W.sa,W.ss,W.st⟩
 simp only[qz 6,eT,u,H7,ixv,bh]
 have aa:bS 4=585:=rfl
 have hm:L (gd p.ay k).body*bS 4<=8*bS 4:=qo _ E.2.1
 refine⟨dJ d,baR g G E.2 (by omega) λe ln K s' Z s5 H F _ _ _=>?_⟩
 have O:=F.keep _ _ (λC=>by
  simp only[eW,dF,iK] at C
  rcases C with h|h|h|h
  ·omega
  ·have:=W.sa _ h;simp at this
  ·have:=W.ss _ h;simp at this
  ·have:=W.st _ h;simp at this) u
 simp only[qz 8,au,eQ,rr,aO2,aO1,aNG]
 exactλ_=>dR (mk:=λ(_:Unit) i=>[iv i]) (s:=()) (s':=()) (λ_ _=>rfl) d (by omega) ⟨K,s',Z,H.mono (by omega),O⟩
def a59{p}(f:shP p):∃x:Int×Int,Ct 188 [.a p.c] (·= .t [iv x.1,iv x.2]):=by obtain⟨r,⟨e,l,rfl⟩,b,d⟩:=bdo f;exact⟨(e,l),_,rfl,b,d⟩
noncomputable def chk(p:aPZ):Int×Int:=@dite _ (shP p) (Classical.propDecidable _) (λh=>Classical.choose<|a59 h) λ_=>(0,0)
def aW1(p)(b:shP p):Ct 188 [.a p.c] (·= .t [iv (chk p).1,iv (chk p).2]):=by rw[chk,dif_pos b];exact Classical.choose_spec<|a59 b
def aRi:FT:=mT aW1
def bbJ:=oK aRi aW1 (j:=by simp+contextual only[ij,ijv])
def a7B:dO:=(188,aRi)::a7A
def aX4:eJ a7B:=vl (pg aW1)<|a7k
def aWj:=ai @bbJ<|@aWi
section
attribute[local irreducible] aX
def a9E:=kW 11 [(3,([0,2,10],[1,3]))]
def a7U{a a1 b c}:=yB aX4 func242 a9E [a,a1,b,c]
def a9q:=kW 32 [(8,([6],[1,2,3])),(11,([],[1,2,3,6])),(14,([39],[1,2,3,6,7,31])),(17,([8],[1,2,3,6,7])),(21,([65],[1,2,3,6,7,31])),(26,([9],[1,2,3]))]
def bgY{c0}:=y1 196 2 1 aX4 func189 a9q c0 [.a c0]
end
def SiR(Y:ae)(a:AV)(N:Nat)(r:AV)(d:ae):Prop:=∃(a':AV) (e:Int) (l':List dL),r= .t [a',iv e]/\sA d 181 3 a' (l'.map dL.c)/\L l'<=N/\Fx Y d (aA a)/\(∀q∈aA a',q∈aA a\/bK Y q)/\∀q∈aA a',q∈aA a\/q.1=27
def bdu(u:Int):∀(m:Nat) {Y a} {n:Int} {l:List dL} {st},L Y=4096->sA Y 181 3 a (l.map dL.c)->shL m 8 st->L l+L st*bS m<100000->
  ∃r f,SiR Y a (L l+L st*bS m) r f/\cZ aS GG 242 [a,iv u,iv n,sl m8.c st] Y r f:=by
 intro m
 induction m with
 |zero=>
  intro Y a n l st y g hs hn
  have:=List.eq_nil_iff_forall_not_mem.2 λx O=>hs.2 x O
  subst this
  refine a7U y ?_
  refine jD (α:=AV×Int) (λs i=>[s.1,iv s.2,iv i]) 2 0 (λ_ s Y'=>Y'=Y/\s.1=a) (s0:=(a,n)) ⟨rfl,rfl⟩ ?_
  rintro k ⟨a',n'⟩ f hk ⟨rfl,rfl⟩
  simp only[qz 19,qy 2,au,eQ,aO6]
  exact⟨λh=>by simp at h;omega,λ_=>⟨_,_,l,rfl,g,by omega,Fx.refl _ _,λ_ h=> .inl h,λ_ h=> .inl h⟩⟩
 |succ m ih=>
  intro Y a n l st y g hs hn
  refine a7U y ?_
  refine jD (α:=AV×Int) (λs i=>[s.1,iv s.2,iv i]) 2 (L st) (λk s Y'=>∃l':List dL,sA Y' 181 3 s.1 (l'.map dL.c)/\L l'<=L l+k*bS (m+1)/\Fx Y Y' (aA a)/\(∀q∈aA s.1,q∈aA a\/bK Y q)/\∀q∈aA s.1,q∈aA a\/q.1=27) (s0:=(a,n)) (by grind [Fx.refl]) ?_
  rintro k ⟨a1,o⟩ f hk ⟨l1,g1,aB,M,i1,p1⟩
  simp only at g1 i1 p1
  have z:=M.len.trans y
  simp only[qz 19,qy 2,au,eQ,ixv,bh,rk,H7]
  refine⟨λh=>⟨vp h,?_⟩,λh=>⟨a1,o,l1,rfl,g1,by grind,M,i1,p1⟩⟩
  have e:=aL h
  have O:=hs.2 _<|dB e
  obtain⟨m',aE,b1,b2⟩:=O.body
  obtain rfl:m=m':=by omega
  have af:L l+k*bS (m+1)+(1+8*bS m)<=L l+L st*bS (m+1):=by
   have h9:(k+1)*bS (m+1)<=L st*bS (m+1):=qo _ e
   grind [bS]
  generalize H:gd st k=x at*
  have W:bM bub aM7 [(0,iv u),(1,iv o),(2,iv x.line)]=V (.a<|dL.c ⟨u,o,x.line⟩):=rfl
  have X:aX bt2 1 f [(0, .a<|dL.c ⟨u,o,x.line⟩)]=V (.l ([(⟨u,o,x.line⟩:dL)].map dL.c) U U,f):=ua rfl rfl rfl (by decide) rfl (by decide)
  simp only[W,aY,X,bQ]
  refine apQ g1 z (by grind [dL.c]) (by grind [dL.c]) (by simp) (by simp;omega) λa2 Y2 T R N2=>?_
  have aq:=R.len.trans z
  rw[<-dg] at T
  have P:Fx Y Y2 (aA a):=(M.trans R).mono (by grind [bK.no])
  have v:∀{D:ae} {a3:AV} {n3:Int} {E:List dL} {G:List m8} {d:Nat} {K:be},sA D 181 3 a3 (E.map dL.c)->shL m 4 G->L E<=L l+k*bS (m+1)+(1+4*bS m)->Fx Y D (aA a)->(∀q∈aA a3,q∈aA a\/bK Y q)->(∀q∈aA a3,q∈aA a\/q.1=27)->
    (∀(a4:AV) (F:Int) (B:List dL) (j:ae),sA j 181 3 a4 (B.map dL.c)->L B<=L E+4*bS m->Fx Y j (aA a)->(∀q∈aA a4,q∈aA a\/bK Y q)->(∀q∈aA a4,q∈aA a\/q.1=27)->K (.t [a4,iv F]) j)->cB 242 [a3,iv u,iv n3,sl m8.c G] D d K:=by
   intro D a3 n3 E G d K g3 A aC S i3 p3 hK
   have h4:L G*bS m<=4*bS m:=qo _ A.1
   refine jH rfl (ih (S.len.trans y) g3 ⟨by have:=A.1;omega,A.2⟩<|by omega) ?_
   rintro r j ⟨a4,F,B,rfl,N,Z,C,i4,p4⟩
   exact⟨C.len,hK a4 F B j N (by omega) ((S.trans C).mono<|by grind [bK.no]) (by grind [bK.old])<|by grind⟩
  simp only[qz 4,au,eQ,ixv,bh,rk,H7,H]
  refine⟨dJ e,v T.p b1 (by simp;omega) P (by grind [bK.old]) (by grind) λa4 F B j N Z C i4 p4=>?_⟩
  simp only[qz 6,au,rr,eQ,ixv,bh,H7,H]
  refine⟨dJ e,v N b2 (by grind) C i4 p4 λa5 n5 l5 Y5 g5 aD F5 i5 p5=>?_⟩
  simp only[qz 8,au,rr,eQ]
  refine dR (mk:=λ(s:AV×Int) i=>[s.1,iv s.2,iv i]) (s:=(a1,o)) (s':=(a5,n5)) (λ_ _=>rfl) e (by have:=hs.1;omega) ⟨l5,g5,?_,F5,i5,p5⟩
  grind [bS]
structure Wo(Y:ae)(b:Id)(w:pz)(a0 a1 a2 a3 a4 a5:AV):Prop where
 bx:box Y b=V ⟨31,6,U,U,[[a0,a1,a2,a3,a4,a5]]⟩
 g0:sA Y 175 5 a0 (w.cells.map cA.c)
 g1:sA Y 177 2 a1 (w.ak.map dS.c)
 g2:sA Y 179 2 a2 (w.bC.map aPI.c)
 g3:sA Y 9 1 a3 (w.bU.map cs)
 g4:sA Y 9 1 a4 (w.ay.map cs)
 g5:sA Y 181 3 a5 (w.dU.map dL.c)
 p0:∀q∈aA a0,q.1=63
 p1:∀q∈aA a1,q.1=77
 p2:∀q∈aA a2,q.1=92
 p3:∀q∈aA a3,q.1=37
 p4:∀q∈aA a4,q.1=110
 p5:∀q∈aA a5,q.1=27
 sb:b.1=3
 le:L Y=4096
section
variable{Y Y':ae}{b:Id}{w:pz}{a0 a1 a2 a3 a4 a5 a':AV}
theorem Wo.fx0(W:Wo Y b w a0 a1 a2 a3 a4 a5)(F:Fx Y Y' []):Wo Y' b w a0 a1 a2 a3 a4 a5:=⟨F.kq W.bx,W.g0.fx F (by simp),W.g1.fx F (by simp),W.g2.fx F (by simp),W.g3.fx F (by simp),W.g4.fx F (by simp),W.g5.fx F (by simp),W.p0,W.p1,W.p2,W.p3,W.p4,W.p5,W.sb,F.len.trans W.le⟩
theorem Wo.up0{new}(W:Wo Y b w a0 a1 a2 a3 a4 a5)(e:box Y' b=V ⟨31,6,U,U,[[a',a1,a2,a3,a4,a5]]⟩)(g:bc Y' 175 5 a'<|(w.cells++new).map cA.c)(F:Fx Y Y' (b::aA a0))(N:∀q∈aA a',bK Y q/\q.1=63):Wo Y' b {w with cells:=w.cells++new} a' a1 a2 a3 a4 a5:=by have d:∀q:Id,q.1≠3->q.1≠63->q∉b::aA a0:=λq f h a=>(by grind [Wo.sb,Wo.p0]);exact⟨e,g.p,W.g1.fx F<|λq a=>(by grind [Wo.p1]),W.g2.fx F<|λq a=>(by grind [Wo.p2]),W.g3.fx F<|λq a=>(by grind [Wo.p3]),W.g4.fx F<|λq a=>(by grind [Wo.p4]),W.g5.fx F<|λq a=>(by grind [Wo.p5]),(by grind),W.p1,W.p2,W.p3,W.p4,W.p5,W.sb,F.len.trans W.le⟩
theorem Wo.up1{new}(W:Wo Y b w a0 a1 a2 a3 a4 a5)(e:box Y' b=V ⟨31,6,U,U,[[a0,a',a2,a3,a4,a5]]⟩)(g:bc Y' 177 2 a'<|(w.ak++new).map dS.c)(F:Fx Y Y' (b::aA a1))(N:∀q∈aA a',bK Y q/\q.1=77):Wo Y' b {w with ak:=w.ak++new} a0 a' a2 a3 a4 a5:=by have d:∀q:Id,q.1≠3->q.1≠77->q∉b::aA a1:=λq f h a=>(by grind [Wo.sb,Wo.p1]);exact⟨e,W.g0.fx F<|λq a=>(by grind [Wo.p0]),g.p,W.g2.fx F<|λq a=>(by grind [Wo.p2]),W.g3.fx F<|λq a=>(by grind [Wo.p3]),W.g4.fx F<|λq a=>(by grind [Wo.p4]),W.g5.fx F<|λq a=>(by grind [Wo.p5]),W.p0,(by grind),W.p2,W.p3,W.p4,W.p5,W.sb,F.len.trans W.le⟩
theorem Wo.up2{new}(W:Wo Y b w a0 a1 a2 a3 a4 a5)(e:box Y' b=V ⟨31,6,U,U,[[a0,a1,a',a3,a4,a5]]⟩)(g:bc Y' 179 2 a'<|(w.bC++new).map aPI.c)(F:Fx Y Y' (b::aA a2))(N:∀q∈aA a',bK Y q/\q.1=92):Wo Y' b {w with bC:=w.bC++new} a0 a1 a' a3 a4 a5:=by have d:∀q:Id,q.1≠3->q.1≠92->q∉b::aA a2:=λq f h a=>(by grind [Wo.sb,Wo.p2]);exact⟨e,W.g0.fx F<|λq a=>(by grind [Wo.p0]),W.g1.fx F<|λq a=>(by grind [Wo.p1]),g.p,W.g3.fx F<|λq a=>(by grind [Wo.p3]),W.g4.fx F<|λq a=>(by grind [Wo.p4]),W.g5.fx F<|λq a=>(by grind [Wo.p5]),W.p0,W.p1,(by grind),W.p3,W.p4,W.p5,W.sb,F.len.trans W.le⟩
theorem Wo.up3{new}(W:Wo Y b w a0 a1 a2 a3 a4 a5)(c:box Y' b=V ⟨31,6,U,U,[[a0,a1,a2,a',a4,a5]]⟩)(g:bc Y' 9 1 a'<|(w.bU++new).map cs)(F:Fx Y Y' (b::aA a3))(N:∀q∈aA a',bK Y q/\q.1=37):Wo Y' b {w with bU:=w.bU++new} a0 a1 a2 a' a4 a5:=by have d:∀q:Id,q.1≠3->q.1≠37->q∉b::aA a3:=λq e f a=>(by grind [Wo.sb,Wo.p3]);exact⟨c,W.g0.fx F<|λq a=>(by grind [Wo.p0]),W.g1.fx F<|λq a=>(by grind [Wo.p1]),W.g2.fx F<|λq a=>(by grind [Wo.p2]),g.p,W.g4.fx F<|λq a=>(by grind [Wo.p4]),W.g5.fx F<|λq a=>(by grind [Wo.p5]),W.p0,W.p1,W.p2,(by grind),W.p4,W.p5,W.sb,F.len.trans W.le⟩
theorem Wo.up4{new}(W:Wo Y b w a0 a1 a2 a3 a4 a5)(c:box Y' b=V ⟨31,6,U,U,[[a0,a1,a2,a3,a',a5]]⟩)(g:bc Y' 9 1 a'<|(w.ay++new).map cs)(F:Fx Y Y' (b::aA a4))(N:∀q∈aA a',bK Y q/\q.1=110):Wo Y' b {w with ay:=w.ay++new} a0 a1 a2 a3 a' a5:=by have d:∀q:Id,q.1≠3->q.1≠110->q∉b::aA a4:=λq e f a=>(by grind [Wo.sb,Wo.p4]);exact⟨c,W.g0.fx F<|λq a=>(by grind [Wo.p0]),W.g1.fx F<|λq a=>(by grind [Wo.p1]),W.g2.fx F<|λq a=>(by grind [Wo.p2]),W.g3.fx F<|λq a=>(by grind [Wo.p3]),g.p,W.g5.fx F<|λq a=>(by grind [Wo.p5]),W.p0,W.p1,W.p2,W.p3,(by grind),W.p5,W.sb,F.len.trans W.le⟩
end
def WBd(w:pz):Prop:=L w.cells<100000/\L w.ak<100000/\L w.bC<100000/\L w.bU<100000/\L w.ay<100000/\L w.dU<100000
def bbe:∀k,k<9->(gd aNF k).size<=4:=by decide
def rwW{a b c d e f}:aN (V 6) [a,b,c,d,e,f]=V (.a [a,b,c,d,e,f]):=rfl
def aXi(p)(hp:shP p/\p.bnq=aNF):Ct 189 [.a p.c] (λr=>∃w:pz,r= .a w.c/\WBd w/\((chk p).1=0->∃c∈w.cells,c.name=qN)):=by
 obtain⟨hp,hd⟩:=hp
 refine aDq (bgY rfl λs2 hl b1 h0=>?_)
 simp only[qy 4]
 refine I7 hl λv2 s4 F4 N4 b2=>?_
 have aB:=F4.len.trans hl
 refine I7 aB λC s6 F6 N6 H=>?_
 have c1:=F6.kq<|F4.kq b1
 have c2:=F6.kq b2
 have bB:=F6.len.trans aB
 have W6:Wo s6 (3,C) ⟨[],[],[],[],[],[]⟩ (.l [] U U) (.l [] U U) (.l [] U U) (.l [] U U) (.l [] U U) (.l [] U U):=⟨H, .inl ⟨rfl,rfl⟩, .inl ⟨rfl,rfl⟩, .inl ⟨rfl,rfl⟩, .inl ⟨rfl,rfl⟩, .inl ⟨rfl,rfl⟩, .inl ⟨rfl,rfl⟩,by simp[aA],by simp[aA],by simp[aA],by simp[aA],by simp[aA],by simp[aA],rfl,bB⟩
 have aT:∀{Y:ae} {w:pz} {a0 a1 a2 a3 a4 a5:AV} {r:dM},Wo Y (3,C) w a0 a1 a2 a3 a4 a5->box Y (2,v2)=V ⟨31,6,U,U,[r]⟩->L r=6->WBd w->((chk p).1=0->∃c∈w.cells,c.name=qN)->
   aw 6 Y (.p (3,C) 0 0) λt=>sV (aK 6 Y (.p (2,v2) 0 0) t) λaF=>aw 6 aF (.p (2,v2) 0 0) λbd=>aE (λr=>∃w:pz,bmL r= .a w.c/\WBd w/\((chk p).1=0->∃c∈w.cells,c.name=qN)) aF [bd]:=by
  intro Y w a0 a1 a2 a3 a4 a5 r W hb hr hB y
  simp only[aC5,W.bx,aww,aBF,df,axE,awx,rwW,aY,↓uL]
  refine stW hb hr rfl λY' F b'=>?_
  simp only[b',aww,aBF,df,awx,rwW,aY]
  have d:∀q:Id,q.1≠2->q∉[((2,v2):Id)]:=(by simp_all)
  refine aOv (Q:=λr=>∃w:pz,r= .a w.c/\WBd w/\((chk p).1=0->∃c∈w.cells,c.name=qN)) (v':= .a w.c) ?_ rfl ⟨w,rfl,hB,y⟩
  simp only[fzT,ji,mU,aBr<|W.g0.fx F λq y=>(by grind [Wo.p0]),aBr<|W.g1.fx F λq y=>(by grind [Wo.p1]),aBr<|W.g2.fx F λq y=>(by grind [Wo.p2]),aBr<|W.g3.fx F λq y=>(by grind [Wo.p3]),aBr<|W.g4.fx F λq y=>(by grind [Wo.p4]),aBr<|W.g5.fx F λq y=>(by grind [Wo.p5])]
  rfl
 simp+contextual only[qz 6,qy 8,eQ,c1,H7,ar,Fa,aWj,hp,rr]
 refine⟨λbD=>aT W6 c2 rfl (by simp[WBd]) (λh=>by simp[h] at bD),λcj=>?_⟩
 have h9:L p.bnq=9:=by rw[hd];rfl
 obtain⟨Inv,ax⟩:∃g:Nat->Unit->ae->Prop,g=λk _ Y=>∃(w:pz) (a0 a1 a2 a3 a4 a5:AV) (r:dM),Wo Y (3,C) w a0 a1 a2 a3 a4 a5/\box Y (1,1)=V ⟨196,2,U,U,[p.c]⟩/\box Y (2,v2)=V ⟨31,6,U,U,[r]⟩/\L r=6/\L w.cells<=4*k/\L w.ak<=k/\L w.bC<=k/\L w.bU<=k/\w.ay=[]/\w.dU=[]/\(3<k->∃c∈w.cells,c.name=qN):=⟨_,rfl⟩
 refine yV (L p.bnq) Inv (by rw[ax];exact⟨_,_,_,_,_,_,_,_,W6,c1,c2,rfl,by simp,by simp,by simp,by simp,rfl,rfl,by simp⟩) ?_
 rintro k _ Y hk hi
 rw[ax] at hi
 obtain⟨w,a0,a1,a2,a3,a4,a5,r,W,d1,d2,hr,n0,n1,n2,n3,n4,n5,y⟩:=hi
 simp only[qz 49,au,eS,d1,H7]
 refine⟨λh=>biR (λe=>∀{Y':ae} {X:pz} {x0 x1 x2 x3 x4 x5:AV},Wo Y' (3,C) X x0 x1 x2 x3 x4 x5->box Y' (1,1)=V ⟨196,2,U,U,[p.c]⟩->box Y' (2,v2)=V ⟨31,6,U,U,[r]⟩->L X.cells<=4*(k+1)->L X.ak<=k+1->L X.bC<=k+1->L X.bU<=k+1->X.ay=[]->X.dU=[]->(3<k+1->∃c∈X.cells,c.name=qN)->e [] Y') ?_ λe af=>?_,λh=>?_⟩
 ·intro Y' X x0 x1 x2 x3 x4 x5 g1 g2 A g4 g5 g6 g7 g8 g9 cg
  simp only[qz 69,au,eQ]
  exact dR (mk:=λ(_:Unit) i=>[iv i]) (s:=()) (s':=()) (λ_ _=>rfl) (aL h) (by omega) (by grind)
 ·simp only[qz 71,qy 10,eT,d1,H7,ixv,bh]
  refine⟨vp h,anu W.le λv7 R F1 N1 e7=>?_⟩
  have ac:=aL h
  have o:=W.fx0 F1
  have e1:=F1.kq d1
  have e2:=F1.kq d2
  have cn:(gd p.bnq k).size<=4:=by rw[hd];exact bbe k (by omega)
  have cm:k=3->(gd p.bnq k).kind=1/\(gd p.bnq k).name=qN:=by rintro rfl;rw[hd];exact⟨rfl,rfl⟩
  generalize ci:gd p.bnq k=m at*
  have ep:∀{Y':ae} {j:Nat} {a:AV} {T z:Nat} {bq:Bool} {rs:List (dM)} {q:Id},Fx R Y' ((3,C)::aA a)->(∀q∈aA a,q.1=j)->q.1≠3->q.1≠j->box R q=V ⟨T,z,U,bq,rs⟩->box Y' q=V ⟨T,z,U,bq,rs⟩:=λF hj E ck hb=>F.keep _ _ (by grind) hb
  have nb:∀{a:AV} {j:Nat},(∀q∈aA a,q.1=j)->j≠3->((3,C):Id)∉aA a:=(by grind)
  have ad:k≠3->3<k+1->∃c∈w.cells,c.name=qN:=(by grind)
  have bs:dG R a1=sl dS.c w.ak:=o.g1.ar
  have N:∀{a:AV} {j:Nat},(∀q∈aA a,q.1=j)->∀q:Id,q.1≠3->q.1≠j->q∉((3,C):Id)::aA a:=(by grind)
  have kc:(m.kind=1\/m.kind=2)\/(m.kind=3\/m.kind=4)\/m.kind=5\/(m.kind≠1/\m.kind≠2/\m.kind≠3/\m.kind≠4/\m.kind≠5):=by omega
  have az:m.kind≠1->k≠3:=(by omega)
  rcases kc with h|h|h|⟨h1,h2,E,h4,h5⟩
  ·rcases h with h|h
   all_goals
    simp only[qz 12,be8,qz 89,qz 87,qz 131,qz 129,qy 20,qy 32,au,eS,e7,o.bx,H7,ar,eE,sr,aQl,bc5,aO5,h,boV,bqJ,Int.reduceEq,↓iC,↓iB]
    obtain⟨M,hM⟩:∃M:Int,M=if 1>m.size then 1 else m.size:=⟨_,rfl⟩
    have ch:1<=M/\M<=4:=by omega
    refine yV M.toNat (λS _ Y'=>∃(new:List cA) (x0:AV),Wo Y' (3,C) {w with cells:=w.cells++new} x0 a1 a2 a3 a4 a5/\box Y' (1,1)=V ⟨196,2,U,U,[p.c]⟩/\box Y' (2,v2)=V ⟨31,6,U,U,[r]⟩/\box Y' (7,v7)=V ⟨308,6,U,U,[m.c]⟩/\L new=S/\(0<S->∃c∈new,c.name=m.name)) ⟨[],a0,by simpa using o,e1,e2,e7,rfl,by simp⟩ ?_
    rintro S _ Y2 cl ⟨new,x0,v,f1,f2,f7,bb,bF⟩
    simp only[qz 103,qy 14,au,eS,f7,v.bx,H7,aRW,<-hM]
    refine⟨λh2=>?_,λh2=>?_⟩
    ·have ba:S<M.toNat:=by grind
     have Z:bM bsT aOs [(0,st m.name),(1,iv S),(2,iv m.size),(3,bv<|Q<|m.kind=2),(4,iv m.init)]=V (.a<|cA.c ⟨m.name,S,m.size,Q<|m.kind=2,m.init⟩):=rfl
     have D:∀{x:cA},aX btZ 1 Y2 [(0, .a<|cA.c x)]=V (.l ([x].map cA.c) U U,Y2):=λ{x}=>ua rfl rfl rfl (by decide) rfl (by decide)
     simp only[Z,aY,D,bQ]
     refine gfP (j:=0) v.bx (by simp) v.g0 (nb v.p0<|by decide) rfl (by decide) (by rw[v.le];decide) (qW (f:=cA.c) (z:=5) λ_=>rfl) (qW (f:=cA.c) (z:=5) λ_=>rfl) (by simp) (by simp;omega) (by simp) λa' Y3 H A u P=>?_
     simp only[qz 18,au,eQ]
     rw[<-dg] at A
     have N:∀{q:Id},q.1≠3->q.1≠63->q∉((3,C):Id)::aA x0:=λE br y=>by
      rcases eW.1 y with h|h
      ·rw[h] at E;exact E rfl
      ·exact br (v.p0 _ h)
     have B:=v.up0 (new:=[⟨m.name,S,m.size,Q<|m.kind=2,m.init⟩]) H A u P
     refine dR (mk:=λ(_:Unit) i=>[iv i]) (s:=()) (s':=()) (λ_ _=>rfl) ba (by omega) ⟨new++[⟨m.name,S,m.size,Q<|m.kind=2,m.init⟩],a',by grind,u.keep _ _ (by grind) f1,u.keep _ _ (by grind) f2,u.keep _ _ (by grind) f7,by simp[bb],by simp⟩
    ·have cb:S=M.toNat:=by grind
     refine af v f1 f2 (by simp;omega) (by grind) (by grind) (by grind) n4 n5 λE=>?_
     by_cases h4:k=3
     ·obtain⟨c,hc,bt⟩:=bF (by omega)
      grind
     ·obtain⟨c,hc,bt⟩:=ad h4 E
      grind
  ·have E:=az (by omega)
   rcases h with h|h
   all_goals
    simp only[qz 12,be8,qz 89,qz 87,qz 131,qz 129,qy 20,qy 32,au,eS,e7,o.bx,H7,ar,eE,sr,aQl,bc5,aO5,h,boV,bqJ,Int.reduceEq,↓iC,↓iB]
    have Z:∀{rw:Bool},bM btf brL [(0,st m.name),(1,bv rw)]=V (.a<|dS.c ⟨m.name,rw⟩):=λ{rw}=>rfl
    have D:∀{x:dS},aX bt0 1 R [(0, .a<|dS.c x)]=V (.l ([x].map dS.c) U U,R):=λ{x}=>ua rfl rfl rfl (by decide) rfl (by decide)
    simp only[Z,aY,D,bQ]
    refine gfP (j:=1) o.bx (by simp) o.g1 (nb o.p1<|by decide) rfl (by decide) (by rw[o.le];decide) (qW (f:=dS.c) (z:=2) λ_=>rfl) (qW (f:=dS.c) (z:=2) λ_=>rfl) (by simp) (by simp;omega) (by simp) λa' Y3 H A u P=>?_
    rw[<-dg] at A
    exact af (o.up1 (new:=[⟨m.name,_⟩]) H A u P) (u.keep _ _ (N o.p1 _ (by simp)<|by simp) e1) (u.keep _ _ (N o.p1 _ (by simp)<|by simp) e2) (by grind) (by simp;omega) (by grind) (by grind) n4 n5<|ad E
  ·have E:=az (by omega)
   simp only[qz 12,be8,qz 89,qz 87,qz 131,qz 129,qy 20,qy 26,au,eS,e7,o.bx,H7,bs,ar,aWj,rr,eE,aQl,bc5,h,boV,bqJ,Int.reduceEq,↓iC,↓iB]
   refine⟨by omega,λx=>?_⟩
   have Z:bM bua brL [(0,st m.name),(1,iv x)]=V (.a<|aPI.c ⟨m.name,x⟩):=rfl
   have D:∀{x:aPI},aX bt1 1 R [(0, .a<|aPI.c x)]=V (.l ([x].map aPI.c) U U,R):=λ{x}=>ua rfl rfl rfl (by decide) rfl (by decide)
   simp only[Z,aY,D,bQ]
   refine gfP (j:=2) o.bx (by simp) o.g2 (nb o.p2<|by decide) rfl (by decide) (by rw[o.le];decide) (qW (f:=aPI.c) (z:=2) λ_=>rfl) (qW (f:=aPI.c) (z:=2) λ_=>rfl) (by simp) (by simp;omega) (by simp) λa' Y3 H A u P=>?_
   rw[<-dg] at A
   simp only[qz 30]
   refine dT (by first|rfl|(simp[eL,okT,tok,lb,cq,Qh,zt,dC,pP,dK];done)) ?_
   exact af (o.up2 (new:=[⟨m.name,x⟩]) H A u P) (u.keep _ _ (N o.p2 _ (by simp)<|by simp) e1) (u.keep _ _ (N o.p2 _ (by simp)<|by simp) e2) (by grind) (by grind) (by simp;omega) (by grind) n4 n5<|ad E
  ·simp only[qz 12,be8,qz 89,qz 87,qz 131,qz 129,qy 20,qy 32,au,eS,e7,o.bx,H7,ar,eE,aQl,bc5,h1,h2,E,h4,h5,bqJ,↓iB]
   have E:=az h1
   have D:aX zd9 1 R [(0,st m.name)]=V (.l ([m.name].map cs) U U,R):=iz
   simp only[D,bQ]
   refine gfP (j:=3) o.bx (by simp) o.g3 (nb o.p3<|by decide) rfl (by decide) (by rw[o.le];decide) oX oX (by simp) (by simp;omega) (by simp) λa' Y3 H A u P=>?_
   rw[<-dg] at A
   exact af (o.up3 (new:=[m.name]) H A u P) (u.keep _ _ (N o.p3 _ (by simp)<|by simp) e1) (u.keep _ _ (N o.p3 _ (by simp)<|by simp) e2) (by grind) (by grind) (by grind) (by simp;omega) n4 n5<|ad E
 ·have bz:k=9:=by grind
  subst bz
  clear hk h
  refine yV (L p.ay) (λk _ Y=>∃(O:pz) (a4 a5:AV),Wo Y (3,C) O a0 a1 a2 a3 a4 a5/\O.cells=w.cells/\O.ak=w.ak/\O.bC=w.bC/\O.bU=w.bU/\box Y (1,1)=V ⟨196,2,U,U,[p.c]⟩/\box Y (2,v2)=V ⟨31,6,U,U,[r]⟩/\L O.ay<=k/\L O.dU<=k*5000) (by grind) ?_
  rintro k _ Y2 hk ⟨O,x4,x5,v,w0,w1,w2,w3,f1,f2,m4,m5⟩
  have co:=hp.2.1
  simp only[qz 157,qy 38,qy 48,au,eT,f1,v.bx,H7,ixv,bh]
  refine⟨λh=>⟨vp h,?_⟩,λh=>?_⟩
  rotate_left
  ·have:=aT v f2 hr (by simp only[WBd,w0,w1,w2,w3];omega) (λ_=>by rw[w0];exact y<|by omega)
   simp only[u1,v.bx,H7,↓uL] at this
   exact this
  have ac:=aL h
  have aR:=(hp.2.2 _<|dB ac).2
  generalize bG:gd p.ay k=tk at*
  have D:aX zd9 1 Y2 [(0,st tk.name)]=V (.l ([tk.name].map cs) U U,Y2):=iz
  simp only[D,bQ]
  have nb:∀{a:AV} {j:Nat},(∀q∈aA a,q.1=j)->j≠3->((3,C):Id)∉aA a:=(by grind)
  have N:∀{a:AV} {j:Nat},(∀q∈aA a,q.1=j)->∀q:Id,q.1≠3->q.1≠j->q∉((3,C):Id)::aA a:=(by grind)
  refine gfP (j:=4) v.bx (by simp) v.g4 (nb v.p4<|by decide) rfl (by decide) (by rw[v.le];decide) oX oX (by simp) (by simp;omega) (by simp) λa' Y3 H A u P=>?_
  rw[<-dg] at A
  have B:=v.up4 (new:=[tk.name]) H A u P
  have h1:=u.keep _ _ (N v.p4 _ (by simp)<|by simp) f1
  have h2:=u.keep _ _ (N v.p4 _ (by simp)<|by simp) f2
  have b7:bS 4=585:=rfl
  have hm:L tk.body*bS 4<=8*bS 4:=qo _ aR.1
  simp only[qz 42]
  refine dT (by first|rfl|(simp[eL,okT,tok,lb,cq,Qh,zt,dC,pP,dK];done)) ?_
  simp only[eT,B.bx,h1,H7,ixv,bh,bG]
  refine⟨dJ ac,jH rfl (bdu k 4 (n:=0) B.le B.g5 aR<|by grind) ?_⟩
  rintro cp Y4 ⟨aJ,n',l',rfl,g4,aB,F4,i4,p4⟩
  refine⟨F4.len,?_⟩
  have p5:∀q∈aA aJ,q.1=27:=λq y=>(by grind [Wo.p5])
  have bo:∀q:Id,q.1≠27->q∉aA x5:=λq h y=>h<|B.p5 q y
  have b4:=F4.keep _ _ (bo _<|by simp) B.bx
  simp only[qz 44,rr,aY,u1,b4,aj]
  refine stC b4 g4.ce (by simp) λY5 F5 b5=>?_
  simp only[qz 46]
  refine dT (by first|rfl|(simp[eL,okT,tok,lb,cq,Qh,zt,dC,pP,dK];done)) ?_
  have cf:∀q:Id,q.1≠3->q∉[((3,C):Id)]:=(by grind)
  have G:Fx Y3 Y5 (aA x5++[(3,C)]):=F4.trans F5
  have K:∀q:Id,q.1≠27->q.1≠3->q∉aA x5++[((3,C):Id)]:=(by grind)
  have W5:Wo Y5 (3,C) {O with ay:=O.ay++[tk.name],dU:=l'} a0 a1 a2 a3 a' aJ:=⟨b5,B.g0.fx G<|λq y=>K q (by grind [Wo.p0])<|by grind [Wo.p0],B.g1.fx G<|λq y=>K q (by grind [Wo.p1])<|by grind [Wo.p1],B.g2.fx G<|λq y=>K q (by grind [Wo.p2])<|by grind [Wo.p2],B.g3.fx G<|λq y=>K q (by grind [Wo.p3])<|by grind [Wo.p3],B.g4.fx G<|λq y=>K q (by grind)<|by grind,g4.fx F5 (by grind),B.p0,B.p1,B.p2,B.p3,B.p4,p5,rfl,F5.len.trans<|F4.len.trans B.le⟩
  simp only[eQ]
  refine dR (mk:=λ(_:Unit) i=>[iv i]) (s:=()) (s':=()) (λ_ _=>rfl) ac (by omega) ⟨_,a',aJ,W5,w0,w1,w2,w3,G.keep _ _ (by grind) h1,G.keep _ _ (by grind) h2,by simp;omega,?_⟩
  grind
def aUd:FT:=om aXi
def bb0:=aUy aUd aXi (j:=by simp+contextual only[ij,ijv])
def aYc:dO:=(189,aUd)::a7B
def aX5:eJ aYc:=vl (rj aXi)<|aX4
def aQV:=ai @bb0<|@aWj
section
attribute[local irreducible] aX
def a5E:=kW 28 [(7,([7],[2,3,4,5,6])),(13,([],[2,3,4,5,6,7,8])),(16,([9],[2,3,4,5,6,7,8])),(21,([],[2,3,4,5,6,7,8]))]
def aUA a s0 R:=(.mk _:NF<|zF GGV aYc a5E Tryz.f123 [a] [] s0<|I3 Tryz.f123 R).p
def bgf{a:AV}{R:cC}(h:∀s0:ae,L s0=4096->(∀k,aZ s0 k=mO)->aUA a s0 R):Fn aS GG 123 [a] R:=by refine fnV (uq ready (aQ9 aX5) func123 (an:=a5E) (by kernel_rfl)<|Eq.mpr (show ZF aS GGV aYc a5E Tryz.f123 [a] R=(aUA a (ly Tryz.f123) R) by kernel_rfl) ?_);exact h _ uB<|i8 _
def a9m:=kW 32 [(9,([8,9],[1,2,7])),(21,([12],[1,2,7,8,9,10,11])),(27,([14],[1,2,7,8,9,10,11,12,13]))]
def bgU{c0}:=y1 196 2 1 aX5 func122 a9m c0 [.a c0]
end
section
attribute[local irreducible] aX
def bgg{a a1}:=yB aNH func115 ato [a,a1]
def bgo{a a1}:=yB aNH func281 at1 [a,a1]
def bgm{a a1}:=yB aNH func278 atB [a,a1]
def bgl{a a1 b}:=yB aNH func282 auF [a,a1,b]
def a8R:=kW 47 [(13,([],[4,7]))]
def bgp{a a1}:=yB aNH func244 a8R [a,a1]
def a8S:=kW 9 [(4,([7,8],[0,1,2]))]
def aZ9 d(I1:aG)(m1:bu) e b a:=aV (gt d 1) (iv 1) λc=>I1 [b,c] a/\m1 [b,c] a<m1 d e
def aUQ a I1 m1 f d b:=eV (aX brU 1 b [(0,d)]) λe c=>eV (apA 274 brN 176 c 30 (gt a 0) e)<|aZ9 a I1 m1 f
def aRp k d a1 R I1 m1 b c:=Rg->aU (gt b 1) k λt3=>Qct t3 (gt b 1) λl=>Qot t3 (QbE l<|iv 0) λm=>Qct t3 m λa=>Qcf a d λe=>aC a (rV<|cO c e) λf=>bn a 2 c f λg=>aC a (aO .gtr g<|iv 0) λh=>Qot t3 (aD a (bv U) h) λi=>aD t3 i (bv I) λj=>ah j (cB 244 [d,a1] c 28<|aUQ b I1 m1 c)<|aNR R c [gt b 0]
def aUP a a1 b s0 R:=lV [.l [] U U,iv 0] s0<|aRp b a a1 R
def bgq{a a1 b:AV}{s0:ae}{R:be}(hs:L s0=4096)(h:aUP a a1 b s0 R):EB 194 [a,a1,b] s0 R:=zB a8S aNH func194 h
end
end Go.Ab
