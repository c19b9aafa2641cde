/- Part of the proof of EncodeAny, made short by a program: CPO LPP Plain Secs CPP LPQ. -/
import Derived.Test.YtokoambdbclaaaaGreatDoorS
set_option linter.all false
set_option maxRecDepth 100000
open Bool renaming and_eq_false_iff->pk,and_eq_true->bN,and_false->qc,eq_false_or_eq_true->sq,false->I,false_and->kM,false_eq_true->eE,not_eq_false'->fK,not_eq_true'->eH,or_eq_false_iff->cP,or_eq_true->fH,true->U,true_eq_false->sr
open Decidable renaming decide->Q
open Function renaming comp->RC
open Go.IntKind renaming i64->dq
open Go.Proofs.Tryz renaming prog->aS
open Int renaming toNat_natCast->bh,toNat_of_nonneg->kA
open List renaming Pairwise->Cr,append_assoc->cC,append_nil->cL,drop_zero->ip,filter_append->me,filter_eq_nil_iff->RK,filter_eq_self->GA,flatMap_cons->Cz,getD_eq_getElem?_getD->eI,getElem?_append_right->xf,getElem?_eq_getElem->eC,getElem?_map->fp,getElem_drop->aqQ,getElem_map->xi,getElem_mem->qj,length->L,length_append->bq,length_cons->bZ,length_drop->oz,length_filter_le->fZ,length_map->bJ,length_nil->bO,length_range->sz,length_take->gC,map_append->dg,map_congr_left->ja,map_flatMap->RT,map_id->zr,map_map->vA,map_set->vB,mem_append->dF,mem_cons->eW,mem_filter->jW,mem_flatMap->iI,mem_iff_getElem->RU,mem_map->dN,mem_of_mem_drop->CB,mem_range->fq,mem_singleton->cE,nil_append->dW,nodup_append->xl,nodup_range->GM,range->aH,set_append_right->CD,set_cons_zero->RY,take_length->gV
open Nat renaming eq_zero_or_pos->oD,le_antisymm->bP,le_of_lt->GR,le_refl->dA,le_trans->gl,lt_or_ge->jj,min_eq_left->rD,mul_le_mul->xn,reduceAdd->dc,sub_self->tM,zero_add->aj,zero_le->mh
open Option renaming none->J,some->V
namespace Go.Ab
open Go Go.RowKit Go.Proofs
section
variable{Y:ae}{b:Id}{w:am}{ns:List ap}{out:List (List Int)}{n wk a:AV}{bm bo:Id}{f:Nat->AV}{d:Nat}{K:be}
theorem aDN(C:bD Y b w ns out n wk a bm bo f)(M:jb w ns)(D:tP w)(g:∀k,k<L w.ac->aF (L w.aQ.ay) (gd w.ac k).aq)(W:L w.ac<=16){x:Int}(o:aF (L w.ac) x)(S:L out+L (jK ns w x)<90000000):∃r h,mS Y b w ns out (jK ns w x) n wk a bm bo f r h/\cZ aS GG wf [.p b 0 0,iv x] Y r h:=by have hn:=M.ln;have av:=o.1;have aw:=o.2;have e:x.toNat<L w.ac:=(by omega);simp only[jK,bq] at S;refine aKr C.le ?_;simp only[HH,↓uL];refine anz C M g W (by omega) o λa1 h B X=>?_;have u:=B.bx;simp only[Xx,dy u,u0,u1,u,eT,rk,ix,aj,↓uL];refine⟨o,?_⟩;refine cV B.le λv Y2 F2 N2 b2=>?_;refine cy (y:=7) (cs:=aP.c (gd w.ac x.toNat)) b2 rfl rfl (by decide) λN F3 b3=>?_;have P:box N (4,v)=V ⟨59,7,U,U,[aP.c (gd w.ac x.toNat)]⟩:=b3;have q:Fx h N []:=F2.tn F3 N2.no;have G:=B.fx q;simp only[Xw,u0,u1,P,rk,aj,↓uL];refine Qp G W (D.dl _ e).1 (g _ e) D.ct (D.c0 _ (g _ e)) (D.dl _ e).2 λt=>?_;have T:=D.dp _ e;have z:jK ns w x=jc ns w x++(aH (L (fg w (gd w.ac x.toNat).aq (gd w.ac x.toNat).dI))).flatMap (pC ns (fg w (gd w.ac x.toNat).aq (gd w.ac x.toNat).dI)):=rfl;generalize hL:fg w (gd w.ac x.toNat).aq (gd w.ac x.toNat).dI=Lw at*;have ar:L Lw<90000000:=(by have:L Lw=L ((aH (L Lw)).flatMap (pC ns Lw)):=(by clear hL z S T;generalize L Lw=m;induction m with|zero=>rfl|succ m ih=>rw[cr,bq,<-ih];rfl);omega);simp only[Xv,gT,u0,↓uL];refine yV (L Lw) (λj _ H=>∃O,bD H b w ns (out++jc ns w x++(aH j).flatMap (pC ns Lw)) n wk O bm bo f/\Ad Y H b a O) ⟨a1,by simpa using G,X.fxn q⟩ ?_;rintro j _ Y4 R ⟨a4,E,F⟩;have l4:=fU (f:=pC ns Lw) R;simp only[Xy,au,aI,u0,u1,tf,rk,qM,bh,↓uL];refine⟨λl=>⟨bA l,?_⟩,λl=>?_⟩;have A:=aL l;obtain⟨q1,q2⟩:=T _ (dB A);refine AQ E hn (M.fx _ q1 q2) ?_;simp only[Xu,f7,bQ,Xt,↓uL];refine gc E (by simp only[bq];omega) [_] (by simp) λa5 Y5 C5 Z=>?_;simp only[Xs,au,cS,aY,↓uL];refine dR (p:=0) (mk:=λ_ i=>[iv i]) (s:=()) (s':=()) (λ_ _=>rfl) A (by omega) ⟨a5,?_,F.trans Z⟩;rw[cr,<-cC];exact C5;simp only[bz,ew];refine⟨a4,rfl,?_,F⟩;rw[z,<-cC,<-bP R (bw l)];exact E
theorem Qq(C:bD Y b w ns out n wk a bm bo f)(M:jb w ns)(D:tP w)(g:∀k,k<L w.ac->aF (L w.aQ.ay) (gd w.ac k).aq)(j:L w.ac<=16){x:Int}(l:aF (L w.ac) x)(i:L out+L (jK ns w x)<90000000)(h:∀e c,bD c b w ns (out++jK ns w x) n wk e bm bo f->Ad Y c b a e->K (.t []) c):cB wf [.p b 0 0,iv x] Y d K:=n6 rfl (aDN C M D g j l i) h
def Ky(ns:List ap)(w:am)(g:cJ):List (List Int):=[[lE ns g.ea],[lE ns g.eb],[lB ns g.ea g.eb]]++(aH (L w.ac)).flatMap (jJ ns g.eb)++(aH (L (aR ns 5))).flatMap λj=>kF ns g.ea (gd (aR ns 5) j)
theorem aDH(C:bD Y b w ns out n wk a bm bo f)(M:jb w ns)(Wk:sE w ns)(hw:L w.ac<=16){g:cJ}(ha:aF (L w.ac) g.ea)(hb:aF (L w.ac) g.eb)(aB:g.ea≠g.eb)(ho:L out<90000000):∃r Y1,mS Y b w ns out (Ky ns w g) n wk a bm bo f r Y1/\cZ aS GG Ao [.p b 0 0, .a g.c] Y r Y1:=by have v:=M.ln;have a7:=Wk.ln;refine aKl C.le rfl λs2 v3 K2 a9 nf b3=>?_;have F2:Fx Y s2 []:=K2.fx [];have W:=C.fx F2;have t:((3,v3):Id)≠b:=(by intro e;have:=C.sb;rw[<-e] at this;simp at this);simp only[Hu,u0,u1,b3,rk,aj,↓uL];refine gq W v (M.ex _ ha) ?_;simp only[f7,bQ,Wa,↓uL];refine gc W (by omega) [_] (by simp) λa1 Y1 X A1=>?_;have F:=A1.keep b3 t (W.ne b3 (.inl rfl));simp only[V9,u0,u1,F,rk,aj,↓uL];refine gq X v (M.ex _ hb) ?_;simp only[f7,bQ,V8,↓uL];refine gc X (by simp;omega) [_] (by simp) λa2 Y2 Z A2=>?_;have G:=A2.keep F t (X.ne F (.inl rfl));simp only[Wi,u0,u1,G,rk,aj,↓uL];refine kg Z v (M.bf _ _ ha hb aB) ?_;simp only[f7,bQ,Wh,↓uL];refine gc Z (by simp;omega) [_] (by simp) λa3 Y3 C3 A3=>?_;have ax:=A3.keep G t (Z.ne G (.inl rfl));have P:=C3.bx;have al:Ad Y Y3 b a a3:=Ad.pre F2 ((A1.trans A2).trans A3);simp only[Wg,dy P,u0,u1,P,eT,rk,aj,cT,↓uL];have ol:∀k,L ((aH k).flatMap (jJ ns g.eb))<=k:=λk=>(by have:=jo (f:=jJ ns g.eb) (m:=1) (l:=aH k) λe _=>(by unfold jJ;split<;>simp);simpa using this);refine yV (L w.ac) (λk _ x=>∃E,bD x b w ns (out++[[lE ns g.ea],[lE ns g.eb],[lB ns g.ea g.eb]]++(aH k).flatMap (jJ ns g.eb)) n wk E bm bo f/\Ad Y x b a E/\box x (3,v3)=V ⟨42,6,U,U,[g.c]⟩) ⟨a3,by simpa using C3,al,ax⟩ ?_;rintro k _ Y4 hk ⟨a4,u,T,q⟩;simp only[Wn,au,aI,u0,u1,di,Wl,q,rk,aj,↓uL];refine⟨λh=>⟨λy=>?_,λy=>?_⟩,λh=>?_⟩;have o:=aL h;have S:=of_decide_eq_true y;have:=ol k;refine gq u v (M.ex _ (dJ o)) ?_;simp only[Wd,de v,aY,u0,u1,q,rk,aj,au,↓uL];refine kg u v (M.bf _ _ (dJ o) hb S) ?_;simp only[Wc,fi,bQ,Wb,↓uL];refine gc u (by simp only[bq,bZ,bO];omega) [_,_] (by simp) λO Y5 D B=>?_;simp only[V7,↓uL];refine dT ?_ ?_;have:=C.sb;clear t;obtain⟨a0,a6⟩:=b;simp only at this;subst this;simp[eL,lb,cq,cD,dC,dK];simp only[Hw,aI,au,cS,aY,↓uL];refine dR (p:=0) (mk:=λ_ i=>[iv i]) (s:=()) (s':=()) (λ_ _=>rfl) o (by omega) ⟨O,?_,T.trans B,B.keep q t (u.ne q (.inl rfl))⟩;rw[cr,<-cC,jJ,if_pos S];exact D;simp only[Hw,aI,au,cS,aY,↓uL];refine dR (p:=0) (mk:=λ_ i=>[iv i]) (s:=()) (s':=()) (λ_ _=>rfl) (aL h) (by omega) ⟨a4,?_,T,q⟩;rw[cr,<-cC,jJ,if_neg (of_decide_eq_false y),cL];exact u;have H:k=L w.ac:=bP hk (bw h);subst H;have R:=u.bx;have:=ol (L w.ac);simp only[dy R,u0,u1,R,eT,aj,ke u.gw,bJ,↓uL];have wl:∀k,L ((aH k).flatMap λj=>kF ns g.ea (gd (aR ns 5) j))<=k:=λk=>(by have:=jo (f:=λj=>kF ns g.ea (gd (aR ns 5) j)) (m:=1) (l:=aH k) λe _=>(by unfold kF;split<;>simp);simpa using this);refine yV (L (aR ns 5)) (λk _ x=>∃E,bD x b w ns (out++[[lE ns g.ea],[lE ns g.eb],[lB ns g.ea g.eb]]++(aH (L w.ac)).flatMap (jJ ns g.eb)++(aH k).flatMap λj=>kF ns g.ea (gd (aR ns 5) j)) n wk E bm bo f/\Ad Y x b a E/\box x (3,v3)=V ⟨42,6,U,U,[g.c]⟩) ⟨a4,by simpa using u,T,q⟩ ?_;rintro k _ Y5 hk ⟨O,D,B,ay⟩;simp only[Wm,au,aI,u0,u1,di,Wj,↓uL];refine⟨λh=>?_,λh=>?_⟩;have o:=aL h;have:=wl k;have aC:gd (aR ns 5) k∈ns:=(jW.1 (dB o)).1;rw[qB D.gw o];refine cV D.le λv6 Y6 F6 N6 d6=>?_;refine cy (cs:=ap.c (gd (aR ns 5) k)) d6 rfl rfl (by decide) λY7 F7 d7=>?_;have az:box Y7 (6,v6)=V ⟨66,3,U,U,[ap.c (gd (aR ns 5) k)]⟩:=d7;have z:Fx Y5 Y7 []:=F6.tn F7 N6.no;have N:=D.fx z;have A:=z.kq ay;have aE:aN (V 3) (ap.c (gd (aR ns 5) k))=V (.a (ap.c (gd (aR ns 5) k))):=rfl;simp only[Wf,u0,u1,az,A,aE,rk,aj,↓uL];refine⟨λy=>?_,λy=>?_⟩;refine lq N v aC ?_;simp only[We,de v,aY,f7,bQ,↓uL];refine gc N (by simp only[bq,bZ,bO];omega) [_] (by simp) λa8 Y8 C8 A8=>?_;simp only[Hv,aI,au,cS,aY,↓uL];refine dR (p:=0) (mk:=λ_ i=>[iv i]) (s:=()) (s':=()) (λ_ _=>rfl) o (by omega) ⟨a8,?_,(B.fxn z).trans A8,A8.keep A t (N.ne A (.inl rfl))⟩;rw[cr,<-cC,kF,if_pos (of_decide_eq_true y)];exact C8;simp only[Hv,aI,au,cS,aY,↓uL];refine dR (p:=0) (mk:=λ_ i=>[iv i]) (s:=()) (s':=()) (λ_ _=>rfl) o (by omega) ⟨O,?_,B.fxn z,A⟩;rw[cr,<-cC,kF,if_neg (of_decide_eq_false y),cL];exact N;have H:k=L (aR ns 5):=bP hk (bw h);subst H;simp only[bz,ew];refine⟨O,rfl,?_,B⟩;simpa[Ky] using D
theorem aEg(C:bD Y b w ns out n wk a bm bo f)(M:jb w ns)(j:sE w ns)(q:L w.ac<=16){g:cJ}(l:aF (L w.ac) g.ea)(m:aF (L w.ac) g.eb)(i:g.ea≠g.eb)(o:L out<90000000)(k:∀h e,bD e b w ns (out++Ky ns w g) n wk h bm bo f->Ad Y e b a h->K (.t []) e):cB Ao [.p b 0 0, .a g.c] Y d K:=n6 rfl (aDH C M j q l m i o) k
theorem slW{x:AV}{l:List ap}{k:Nat}(y:bc Y 66 3 x (l.map ap.c))(A:k<L l):∃s,fo 3 Y x (V (iv ((k+1:Nat):Int))) J J=V s/\∀e,bc e 66 3 x (l.map ap.c)->fS e s=V (iv (L (l.drop (k+1))))/\∀j,j<L (l.drop (k+1))->∀K:bd,(rV (cz 3 e s (iv j)) λt=>rV (ef (V 3) e t) K)=K (.a (ap.c (gd (l.drop (k+1)) j))):=by rcases y with⟨p,_⟩|⟨q,rfl,r⟩;simp at p;subst p;simp at A;have o:lM (V (iv ((k+1:Nat):Int)))=V (V (k+1)):=(by show(if 0<=((k+1:Nat):Int) then V (V ((k+1:Nat):Int).toNat) else J)=_;rw[if_pos (by omega)];simp);by_cases h:k+1=L l;refine⟨.l [] I I,?_,λe _=>⟨?_,λj i=>?_⟩⟩;simp only[fo,o];simp[lM,qY,r,h];simp[fS,h];simp[h] at i;refine⟨.g 2 q (k+1) (L l-(k+1)),?_,λe u=>?_⟩;simp only[fo,o];simp[lM,qY,r,h,show k+1<=L l by omega];have m:box e q=V ⟨66,3,U,I,l.map ap.c⟩:=(by have:=u.ids q (by simp[aA]);exact this);refine⟨?_,λj i K=>?_⟩;simp[fS,m,oz];rw[oz] at i;have v:k+1+j<L l:=(by omega);have z:gd (l.drop (k+1)) j=l[k+1+j]:=(by rw[bT (by rw[oz];exact i),aqQ]);simp[cz,m,i,rV,ef,iE,aN,v,z,ap.c]
theorem aDJ(C:bD Y b w ns out n wk a bm bo f)(M:jb w ns)(Wk:sE w ns)(hw:L w.ac<=16)(ho:L out<500000000):∃r Y1,mS Y b w ns out (((aH (L (aR ns 5))).flatMap λk=>iW ns (gd (aR ns 5) k))++((aH (L (aR ns 5))).flatMap (lP ns (aR ns 5))++((aH (L (aR ns 5))).flatMap (lQ ns w (aR ns 5))++((aH (L (aR ns 5))).flatMap λk=>qw ns w (gd (aR ns 5) k))))) n wk a bm bo f r Y1/\cZ aS GG DE [.p b 0 0] Y r Y1:=by have t:=M.ln;have cc:=Wk.ln;refine aKn C.le ?_;have Z:=C.bx;have ao:∀x∈aR ns 5,x∈ns:=λx hx=>(jW.1 hx).1;have be:=Wk.ok;have D:∀{x:ap},aN (V 3) (ap.c x)=V (.a (ap.c x)):=rfl;have B1:∀k,L ((aH k).flatMap λk=>iW ns (gd (aR ns 5) k))<=k*3:=λk=>(by have:=jo (f:=λk=>iW ns (gd (aR ns 5) k)) (m:=3) (l:=aH k) λe _=>(by unfold iW;split<;>simp);simpa using this);simp only[Hy,dy Z,u0,u1,Z,eT,aj,ke C.gw,bJ,↓uL];refine yV (L (aR ns 5)) (λk _ o=>∃q,bD o b w ns (out++(aH k).flatMap λk=>iW ns (gd (aR ns 5) k)) n wk q bm bo f/\Ad Y o b a q) ⟨a,by simpa using C,Ad.refl _ _ _⟩ ?_;rintro k _ Y1 hk ⟨a1,C1,A1⟩;have l1:=B1 k;simp only[WZ,au,aI,u0,u1,di,WW,↓uL];refine⟨λh=>?_,λh=>?_⟩;have g:=aL h;obtain⟨o1,o2,o3⟩:=be _ (dB g);rw[qB C1.gw g];refine cV C1.le λv2 Y2 F2 N2 d2=>?_;refine cy (cs:=ap.c (gd (aR ns 5) k)) d2 rfl rfl (by decide) λY3 F3 d3=>?_;have av:box Y3 (3,v2)=V ⟨66,3,U,U,[ap.c (gd (aR ns 5) k)]⟩:=d3;have aZ:Fx Y1 Y3 []:=F2.tn F3 N2.no;have W:=C1.fx aZ;have A3:=A1.fxn aZ;have am:((3,v2):Id)≠b:=(by intro e;have:=C.sb;rw[<-e] at this;simp at this);have O:=ao _ (dB g);have ak:∀Y8 a8,bD Y8 b w ns (out++(aH k).flatMap (λk=>iW ns (gd (aR ns 5) k))++iW ns (gd (aR ns 5) k)) n wk a8 bm bo f->Ad Y Y8 b a a8->HB [iv k] (yI (α:=Unit) (λ_ i=>[iv i]) (L (aR ns 5)) λk _ o=>∃q,bD o b w ns (out++(aH k).flatMap λk=>iW ns (gd (aR ns 5) k)) n wk q bm bo f/\Ad Y o b a q) (gM 0 (L (aR ns 5))) Y1 [] Y8:=(by intro Y8 a8 C8 A8;simp only[HB,aI,au,cS,aY,↓uL];refine dR (p:=0) (mk:=λ_ i=>[iv i]) (s:=()) (s':=()) (λ_ _=>rfl) g (by omega) ⟨a8,?_,A8⟩;rw[cr,<-cC];exact C8);generalize gd (aR ns 5) k=x at*;simp only[Ww,u0,u1,av,D,↓uL];refine lq W t O ?_;simp only[Wv,de t,aY,u0,u1,av,rk,aj,↓uL];refine gq W t (M.ex _ o1) ?_;simp only[Wu,fi,bQ,Wt,↓uL];refine gc W (by simp only[bq];omega) [_,_] (by simp) λa4 R u A4=>?_;have S:=A4.keep av am (W.ne av (.inl rfl));have kb:∀{p:Prop},(∀G T,b=(G,T)->G=18->p)->p:=λh=>h b.1 b.2 rfl C.sb;simp only[WS,↓uL];refine dT ?_ ?_;have:=C.sb;clear am ak;obtain⟨G,T⟩:=b;simp only at this;subst this;simp[eL,lb,cq,cD,dC,dK];simp only[u0,u1,S,rk,D,aj,↓uL];refine⟨λh0=>?_,λh0=>?_⟩;have ba:=of_decide_eq_true h0;obtain⟨p1,p2⟩:=o3 ba;refine lq u t O ?_;simp only[WR,de t,aY,u0,u1,S,rk,aj,↓uL];refine gq u t (M.ex _ p1) ?_;simp only[WQ,fi,bQ,WP,↓uL];refine gc u (by simp only[bq,bZ,bO];omega) [_,_] (by simp) λa5 X v P=>?_;have d5:=P.keep S am (u.ne S (.inl rfl));simp only[WO,↓uL];refine dT ?_ ?_;have:=C.sb;clear am ak kb;obtain⟨G,T⟩:=b;simp only at this;subst this;simp[eL,lb,cq,cD,dC,dK];simp only[u0,u1,d5,D,↓uL];refine lq v t O ?_;simp only[WN,de t,aY,u0,u1,d5,rk,aj,↓uL];refine kg v t (M.bf _ _ p1 o1 p2) ?_;simp only[WM,fi,bQ,WD,↓uL];refine gc v (by simp only[bq,bZ,bO];omega) [_,_] (by simp) λa6 Y6 C6 A6=>?_;simp only[Ws,↓uL];refine dT ?_ (ak Y6 a6 ?_ (((A3.trans A4).trans P).trans A6));have:=C.sb;clear am ak kb;obtain⟨G,T⟩:=b;simp only at this;subst this;simp[eL,lb,cq,cD,dC,dK];rw[iW,if_pos ba];simpa using C6;refine ak R a4 ?_ (A3.trans A4);rw[iW,if_neg (of_decide_eq_false h0),cL];exact u;have H:k=L (aR ns 5):=bP hk (bw h);subst H;have a7:=C1.bx;simp only[dy a7,u0,u1,a7,eT,aj,ke C1.gw,bJ,↓uL];generalize bb:out++(aH (L (aR ns 5))).flatMap (λk=>iW ns (gd (aR ns 5) k))=O1 at*;have b2:L O1<500010000:=(by rw[<-bb,bq];omega);have B2:∀k,L ((aH k).flatMap (lP ns (aR ns 5)))<=k*1000:=λk=>(by have:=jo (f:=lP ns (aR ns 5)) (m:=1000) (l:=aH k) λe _=>(by have h1:=jo (f:=λj=>ju ns (gd (aR ns 5) e) (gd ((aR ns 5).drop (e+1)) j)) (m:=1) (l:=aH (L ((aR ns 5).drop (e+1)))) λj _=>(by unfold ju;split<;>simp);refine gl h1 ?_;rw[sz,oz];omega);simpa using this);refine yV (L (aR ns 5)) (λk _ o=>∃q,bD o b w ns (O1++(aH k).flatMap (lP ns (aR ns 5))) n wk q bm bo f/\Ad Y o b a q) ⟨a1,by simpa using C1,A1⟩ ?_;rintro k _ Y2 hk ⟨a2,B,A2⟩;have l2:=B2 k;simp only[WX,au,aI,u0,u1,↓uL];refine⟨λh=>?_,λh=>?_⟩;have g:=aL h;have O:=ao _ (dB g);rw[qB B.gw g];refine cV B.le λv5 Y3 F3 N3 d3=>?_;refine cy (cs:=ap.c (gd (aR ns 5) k)) d3 rfl rfl (by decide) λR F4 S=>?_;have aM:box R (5,v5)=V ⟨66,3,U,U,[ap.c (gd (aR ns 5) k)]⟩:=S;have ab:Fx Y2 R []:=F3.tn F4 N3.no;have u:=B.fx ab;have af:=u.bx;obtain⟨s,hs,N⟩:=slW u.gw g;have an:((5,v5):Id)≠b:=(by intro e;have:=C.sb;rw[<-e] at this;simp at this);have aQ:dq.wrap ((k:Int)+1)=((k+1:Nat):Int):=fX (by omega);simp only[WC,dy af,u0,u1,af,eT,aj,au,aQ,hs,(N R u.gw).1,↓uL];refine yV (L ((aR ns 5).drop (k+1))) (λj _ o=>∃q,bD o b w ns (O1++(aH k).flatMap (lP ns (aR ns 5))++(aH j).flatMap λj=>ju ns (gd (aR ns 5) k) (gd ((aR ns 5).drop (k+1)) j)) n wk q bm bo f/\Ad Y o b a q/\box o (5,v5)=V ⟨66,3,U,U,[ap.c (gd (aR ns 5) k)]⟩) ⟨a2,by simpa using u,A2.fxn ab,aM⟩ ?_;rintro j _ X hj ⟨a5,v,P,d5⟩;have l5:L ((aH j).flatMap λj=>ju ns (gd (aR ns 5) k) (gd ((aR ns 5).drop (k+1)) j))<=j:=(by have:=jo (f:=λj=>ju ns (gd (aR ns 5) k) (gd ((aR ns 5).drop (k+1)) j)) (m:=1) (l:=aH j) λj _=>(by unfold ju;split<;>simp);simpa using this);have bI:L ((aR ns 5).drop (k+1))<=1000:=(by rw[oz];omega);simp only[WY,au,aI,u0,u1,di,WT,↓uL];refine⟨λh2=>?_,λh2=>?_⟩;have A:=aL h2;have aT:gd ((aR ns 5).drop (k+1)) j∈ns:=ao _ (CB (dB A));rw[(N X v.gw).2 j A];refine cV v.le λv7 Y6 F6 N6 d6=>?_;refine cy (cs:=ap.c (gd ((aR ns 5).drop (k+1)) j)) d6 rfl rfl (by decide) λY7 F7 d7=>?_;have ah:box Y7 (7,v7)=V ⟨66,3,U,U,[ap.c (gd ((aR ns 5).drop (k+1)) j)]⟩:=d7;have y:Fx X Y7 []:=F6.tn F7 N6.no;have E:=v.fx y;have z:=y.kq d5;simp only[WB,u0,u1,ah,z,D,rk,aj,↓uL];refine⟨λF=>?_,λF=>?_⟩;refine lq E t O ?_;simp only[WA,de t,aY,u0,u1,ah,D,↓uL];refine lq E t aT ?_;simp only[Wz,de t,aY,fi,bQ,Wy,↓uL];refine gc E (by simp only[bq];omega) [_,_] (by simp) λa8 Y8 C8 A8=>?_;simp only[Wx,↓uL];refine dT ?_ ?_;have:=C.sb;clear an;obtain⟨G,T⟩:=b;simp only at this;subst this;simp[eL,lb,cq,cD,dC,dK];simp only[Hz,aI,au,cS,aY,↓uL];refine dR (p:=0) (mk:=λ_ i=>[iv i]) (s:=()) (s':=()) (λ_ _=>rfl) A (by omega) ⟨a8,?_,(P.fxn y).trans A8,A8.keep z an (E.ne z (.inl rfl))⟩;rw[cr,<-cC,ju,if_pos (of_decide_eq_true F)];exact C8;simp only[Hz,aI,au,cS,aY,↓uL];refine dR (p:=0) (mk:=λ_ i=>[iv i]) (s:=()) (s':=()) (λ_ _=>rfl) A (by omega) ⟨a5,?_,P.fxn y,z⟩;rw[cr,<-cC,ju,if_neg (of_decide_eq_false F),cL];exact E;have aP:j=L ((aR ns 5).drop (k+1)):=bP hj (bw h2);subst aP;refine dR (p:=0) (mk:=λ_ i=>[iv i]) (s:=()) (s':=()) (λ_ _=>rfl) g (by omega) ⟨a5,?_,P⟩;rw[cr,<-cC];exact v;have H:k=L (aR ns 5):=bP hk (bw h);subst H;have ae:=B.bx;simp only[dy ae,u0,u1,ae,eT,aj,ke B.gw,bJ,↓uL];generalize bc:O1++(aH (L (aR ns 5))).flatMap (lP ns (aR ns 5))=O2 at*;have b3:L O2<501010000:=(by rw[<-bc,bq];omega);have B3:∀k,L ((aH k).flatMap (lQ ns w (aR ns 5)))<=k*1000:=λk=>(by have:=jo (f:=lQ ns w (aR ns 5)) (m:=1000) (l:=aH k) λe _=>(by have h1:=jo (f:=λj=>jk ns w (gd (aR ns 5) e) (gd ((aR ns 5).drop (e+1)) j)) (m:=1) (l:=aH (L ((aR ns 5).drop (e+1)))) λj _=>(by unfold jk;split<;>simp);refine gl h1 ?_;rw[sz,oz];omega);simpa using this);refine yV (L (aR ns 5)) (λk _ o=>∃q,bD o b w ns (O2++(aH k).flatMap (lQ ns w (aR ns 5))) n wk q bm bo f/\Ad Y o b a q) ⟨a2,by simpa using B,A2⟩ ?_;rintro k _ Y2 hk ⟨a2,B,A2⟩;have l2:=B3 k;simp only[W0,au,aI,u0,u1,↓uL];refine⟨λh=>?_,λh=>?_⟩;have g:=aL h;have O:=ao _ (dB g);rw[qB B.gw g];refine cV B.le λv5 Y3 F3 N3 d3=>?_;refine cy (cs:=ap.c (gd (aR ns 5) k)) d3 rfl rfl (by decide) λR F4 S=>?_;have aM:box R (9,v5)=V ⟨66,3,U,U,[ap.c (gd (aR ns 5) k)]⟩:=S;have ab:Fx Y2 R []:=F3.tn F4 N3.no;have u:=B.fx ab;have af:=u.bx;obtain⟨s,hs,N⟩:=slW u.gw g;have an:((9,v5):Id)≠b:=(by intro e;have:=C.sb;rw[<-e] at this;simp at this);have aQ:dq.wrap ((k:Int)+1)=((k+1:Nat):Int):=fX (by omega);simp only[WJ,dy af,u0,u1,af,eT,aj,au,aQ,hs,(N R u.gw).1,↓uL];refine yV (L ((aR ns 5).drop (k+1))) (λj _ o=>∃q,bD o b w ns (O2++(aH k).flatMap (lQ ns w (aR ns 5))++(aH j).flatMap λj=>jk ns w (gd (aR ns 5) k) (gd ((aR ns 5).drop (k+1)) j)) n wk q bm bo f/\Ad Y o b a q/\box o (9,v5)=V ⟨66,3,U,U,[ap.c (gd (aR ns 5) k)]⟩) ⟨a2,by simpa using u,A2.fxn ab,aM⟩ ?_;rintro j _ X hj ⟨a5,v,P,d5⟩;have l5:L ((aH j).flatMap λj=>jk ns w (gd (aR ns 5) k) (gd ((aR ns 5).drop (k+1)) j))<=j:=(by have:=jo (f:=λj=>jk ns w (gd (aR ns 5) k) (gd ((aR ns 5).drop (k+1)) j)) (m:=1) (l:=aH j) λj _=>(by unfold jk;split<;>simp);simpa using this);have bI:L ((aR ns 5).drop (k+1))<=1000:=(by rw[oz];omega);simp only[W1,au,aI,u0,u1,di,WU,↓uL];refine⟨λh2=>?_,λh2=>?_⟩;have A:=aL h2;have aT:gd ((aR ns 5).drop (k+1)) j∈ns:=ao _ (CB (dB A));rw[(N X v.gw).2 j A];refine cV v.le λv7 Y6 F6 N6 d6=>?_;refine cy (cs:=ap.c (gd ((aR ns 5).drop (k+1)) j)) d6 rfl rfl (by decide) λY7 F7 d7=>?_;have ah:box Y7 (11,v7)=V ⟨66,3,U,U,[ap.c (gd ((aR ns 5).drop (k+1)) j)]⟩:=d7;have y:Fx X Y7 []:=F6.tn F7 N6.no;have E:=v.fx y;have z:=y.kq d5;have a9:=E.bx;simp+contextual only[WI,u0,u1,ah,z,dy a9,a9,eT,ix,D,rk,aj,↓uL];refine⟨λ_=>(be _ (dB g)).1,λF=>?_,λF=>?_⟩;refine lq E t O ?_;simp only[WH,de t,aY,u0,u1,ah,D,↓uL];refine lq E t aT ?_;simp only[WG,de t,aY,fi,bQ,WF,↓uL];refine gc E (by simp only[bq];omega) [_,_] (by simp) λa8 Y8 C8 A8=>?_;simp only[WE,↓uL];refine dT ?_ ?_;have:=C.sb;clear an;obtain⟨G,T⟩:=b;simp only at this;subst this;simp[eL,lb,cq,cD,dC,dK];simp only[HA,aI,au,cS,aY,↓uL];refine dR (p:=0) (mk:=λ_ i=>[iv i]) (s:=()) (s':=()) (λ_ _=>rfl) A (by omega) ⟨a8,?_,(P.fxn y).trans A8,A8.keep z an (E.ne z (.inl rfl))⟩;rw[cr,<-cC,jk,if_pos (by simpa using F)];exact C8;simp only[HA,aI,au,cS,aY,↓uL];refine dR (p:=0) (mk:=λ_ i=>[iv i]) (s:=()) (s':=()) (λ_ _=>rfl) A (by omega) ⟨a5,?_,P.fxn y,z⟩;rw[cr,<-cC,jk,if_neg (by rintro⟨q1,q2⟩;simp only[pk,decide_eq_false_iff_not] at F;rcases F with F|F;exact F q1;exact F q2),cL];exact E;have aP:j=L ((aR ns 5).drop (k+1)):=bP hj (bw h2);subst aP;refine dR (p:=0) (mk:=λ_ i=>[iv i]) (s:=()) (s':=()) (λ_ _=>rfl) g (by omega) ⟨a5,?_,P⟩;rw[cr,<-cC];exact v;have H:k=L (aR ns 5):=bP hk (bw h);subst H;have ae:=B.bx;simp only[dy ae,u0,u1,ae,eT,aj,ke B.gw,bJ,↓uL];generalize bd:O2++(aH (L (aR ns 5))).flatMap (lQ ns w (aR ns 5))=O3 at*;have b4:L O3<502010000:=(by rw[<-bd,bq];omega);have B4:∀x,L (qw ns w x)<=1001:=λx=>(by have h1:=jo (f:=pB ns w (aR ns 5) x) (m:=1) (l:=aH (L ((aR ns 5).filter (eZ x)))) λj _=>(by simp[pB]);have h2:=fZ (eZ x) (aR ns 5);rw[sz] at h1;simp only[qw,bZ];omega);have B5:∀k,L ((aH k).flatMap λk=>qw ns w (gd (aR ns 5) k))<=k*1001:=λk=>(by have:=jo (f:=λk=>qw ns w (gd (aR ns 5) k)) (m:=1001) (l:=aH k) λe _=>B4 _;simpa using this);refine yV (L (aR ns 5)) (λk _ o=>∃q,bD o b w ns (O3++(aH k).flatMap λk=>qw ns w (gd (aR ns 5) k)) n wk q bm bo f/\Ad Y o b a q) ⟨a2,by simpa using B,A2⟩ ?_;rintro k _ Y3 hk ⟨a3,W,A3⟩;have l3:=B5 k;simp only[W2,au,aI,u0,u1,↓uL];refine⟨λh=>?_,λh=>?_⟩;have g:=aL h;have l4:=B4 (gd (aR ns 5) k);rw[qB W.gw g];refine cV W.le λv5 R F4 N4 S=>?_;refine cy (cs:=ap.c (gd (aR ns 5) k)) S rfl rfl (by decide) λX F5 d5=>?_;have bH:box X (13,v5)=V ⟨66,3,U,U,[ap.c (gd (aR ns 5) k)]⟩:=d5;have a0:Fx Y3 X []:=F4.tn F5 N4.no;have v:=W.fx a0;simp only[WL,u0,u1,bH,D,↓uL];refine n6 rfl (aDx v M Wk hw (dB g) (by simp only[bq];omega)) λa6 Y6 C6 A6=>?_;simp only[WK,au,cS,aY,↓uL];refine dR (p:=0) (mk:=λ_ i=>[iv i]) (s:=()) (s':=()) (λ_ _=>rfl) g (by omega) ⟨a6,?_,(A3.fxn a0).trans A6⟩;rw[cr,<-cC];exact C6;have H:k=L (aR ns 5):=bP hk (bw h);subst H;simp only[bz,ew];refine⟨a3,rfl,?_,A3⟩;rw[<-cC,bb,<-cC,bc,<-cC,bd];exact W
def oa(r:Nat)(x:ap):Bool:=Q (x.kind=4)&&Q (x.a=(r:Int))
structure GU(w:am)(ns:List ap):Prop where
 eq:∀r,r<L w.ac->fR (gd w.ac r)=U->ns.filter (oa r)=(dx w r).map λs=>(⟨4,(r:Int),s⟩:ap)
 ok:∀r:Nat,∀s∈dx w r,0<=s->aF (L w.ac) s/\s≠(r:Int)
 ln:∀r:Nat,L (dx w r)<=1000
theorem aDV(C:bD Y b w ns out n wk a bm bo f)(M:jb w ns)(D:tP w)(S:GU w ns)(bV:∀k,k<L w.ac->aF (L w.aQ.ay) (gd w.ac k).aq)(hw:L w.ac<=16)(ho:L out+L ((aH (L w.ac)).flatMap (gW ns w))<999990000):∃r Y1,mS Y b w ns out ((aH (L w.ac)).flatMap (gW ns w)) n wk a bm bo f r Y1/\cZ aS GG DF [.p b 0 0] Y r Y1:=by have hn:=M.ln;refine aKy C.le ?_;have bx:=C.bx;have aw:∀{x:ap},aN (V 3) (ap.c x)=V (.a (ap.c x)):=rfl;simp only[HS,dy bx,u0,u1,bx,eT,rk,aj,cT,↓uL];refine yV (L w.ac) (λk _ z=>∃G,bD z b w ns (out++(aH k).flatMap (gW ns w)) n wk G bm bo f/\Ad Y z b a G) ⟨a,by simpa using C,Ad.refl _ _ _⟩ ?_;rintro r _ Y1 hr ⟨a1,C1,A1⟩;simp only[Yt,au,aI,u0,u1,di,Ys,ix,rk,bh,↓uL];refine⟨λh=>⟨bA h,?_⟩,λh=>?_⟩;have E:=aL h;have l1:=fU (f:=gW ns w) (show r+1<=L w.ac from E);rw[cr,bq] at l1;refine cV C1.le λv Y2 F2 N2 b2=>?_;refine cy (y:=7) (cs:=aP.c (gd w.ac r)) b2 rfl rfl (by decide) λY3 F3 b3=>?_;have bv:box Y3 (3,v)=V ⟨59,7,U,U,[aP.c (gd w.ac r)]⟩:=b3;have aR:Fx Y1 Y3 []:=F2.tn F3 N2.no;have C3:=C1.fx aR;have A3:=A1.fxn aR;have an:∀R a8,bD R b w ns (out++(aH r).flatMap (gW ns w)++gW ns w r) n wk a8 bm bo f->Ad Y R b a a8->HU [iv r] (yI (α:=Unit) (λ_ i=>[iv i]) (L w.ac) λk _ z=>∃G,bD z b w ns (out++(aH k).flatMap (gW ns w)) n wk G bm bo f/\Ad Y z b a G) (gM 0 (L w.ac)) Y1 [] R:=(by intro R a8 C8 A8;simp only[HU,aI,au,cS,aY,↓uL];refine dR (p:=0) (mk:=λ_ i=>[iv i]) (s:=()) (s':=()) (λ_ _=>rfl) E (by omega) ⟨a8,?_,A8⟩;rw[cr,<-cC];exact C8);simp only[Yi,u0,u1,bv,rk,aj,ar,amn,au,↓uL];refine⟨λm=>?_,λm=>?_⟩;refine an Y3 a1 ?_ A3;have bF:fR (gd w.ac r)=I:=(by simpa using m);rw[gW,if_neg (by rw[bF];simp),cL];exact C3;have X:fR (gd w.ac r)=U:=(by simpa using m);have bI:gW ns w r=[[-lF ns r,lE ns r],-lF ns r::(dx w r).map (lS ns r)]++(aH (L (dx w r))).flatMap (λj=>iP ns w r (gd (dx w r) j)):=(by rw[gW,if_pos X]);have aZ:=M.fx _ (dJ E) (by simpa using X);have hS:=S.eq r E X;have cA:=S.ln r;have bH:=S.ok r;rw[bI] at l1 an;simp only[bq,bZ,bO] at l1;refine AQ C3 hn aZ ?_;simp only[Yh,de hn,aY,au,↓uL];refine gq C3 hn (M.ex _ (dJ E)) ?_;simp only[Yg,fi,bQ,Yf,↓uL];refine gc C3 (by simp only[bq];omega) [_,_] (by simp) λa4 Y4 O A4=>?_;simp only[Yq,au,↓uL];refine AQ O hn aZ ?_;have aT:=O.bx;simp only[Yp,de hn,aY,f7,bQ,↓uL];obtain⟨t,o',rfl⟩:=O.nm;simp only[Yo,dy aT,u0,u1,aT,eT,aj,gT,↓uL];refine jD (α:=AV×AV) (λa i=>[a.1,a.2,iv i]) 2 (L ns) (λk a z=>gA z 3 1 a.1 ((-lF ns r::((ns.take k).filter (oa r)).map (dP ns)).map ci)/\bc z 66 3 a.2 (((ns.take k).filter (oa r)).map ap.c)/\Fx Y4 z []/\(∀q∈aA a.1,bK Y4 q/\q.1=66)/\∀q∈aA a.2,bK Y4 q/\q.1=60) (s0:=(_, .l [] U U)) ⟨.inl ⟨U,rfl⟩,bc.nil,Fx.refl _ _,by simp[aA],by simp[aA]⟩ ?_;rintro k ⟨y,o⟩ Y5 hk ⟨gy,go,F5,P,F⟩;simp only at gy go P F;have C5:=O.fx F5;simp only[Yu,au,ck,nr,aI,u0,u1,di,Yr,lX,rk,bh,↓uL];refine⟨λh2=>⟨bA h2,?_⟩,λh2=>?_⟩;have A:=aL h2;refine cV C5.le λv7 Y6 F6 N6 d6=>?_;refine cy (cs:=ap.c (gd ns k)) d6 rfl rfl (by decide) λY7 F7 d7=>?_;have aU:box Y7 (7,v7)=V ⟨66,3,U,U,[ap.c (gd ns k)]⟩:=d7;have ag:Fx Y5 Y7 []:=F6.tn F7 N6.no;have T:=F5.trans ag;have C7:=O.fx T;have aW:=gy.fx ag (by simp);have H:=go.fx ag (by simp);have cB:L ((ns.take k).filter (oa r))<=k:=(by have m:=fZ (oa r) (ns.take k);simp only[gC] at m;omega);simp+contextual only[Yk,u0,u1,aU,rk,aw,aj,au,ck,nr,Db,bQ,↓uL];refine⟨λhb=>?_,λhb=>?_⟩;refine gD H rfl (by decide) (by rw[C7.le];decide) uT uT (by simp only[bJ,bZ,bO];omega) λo8 R g8 F8 bR a0=>?_;have W:Fx Y4 R []:=(T.trans F8).mono (by simp only[dW];exactλq e=> .inr (F q e).1.no);have d8:=F8.keep _ _ (λe=>by have:=(F _ e).2;simp at this) aU;have bB:=aW.fx F8 (λq e N=>by have m:=(P q e).2;rw[(F q N).2] at m;simp at m);simp only[Yj,u0,u1,d8,aw,↓uL];refine lq (O.fx W) hn (dB A) ?_;simp only[Ye,f7,bQ,au,↓uL];refine qs bB rfl (by decide) (by rw[W.len,O.le];decide) fF fF (by simp only[bJ,bZ,bO];omega) λy9 Y9 g9 F9 bS=>?_;simp only[HT,aI,au,ck,nr,cS,aY,↓uL];refine dR (p:=2) (mk:=λ(a:AV×AV) i=>[a.1,a.2,iv i]) (s:=(y,o)) (s':=(y9,o8)) (λ_ _=>rfl) A (by omega) ⟨?_,?_,(W.trans F9).mono (by simp only[dW];exactλq e=> .inr (P q e).1.no),λq e=>?_,λq e=>?_⟩;rw[pH A,if_pos (show oa r (gd ns k)=U from hb)];simpa using g9;rw[pH A,if_pos (show oa r (gd ns k)=U from hb),dg];refine g8.fx F9 λq e N=>?_;have m:=(P q N).2;rcases a0 q e with u|u;rw[(F q u).2] at m;simp at m;rw[u] at m;simp at m;rcases bS q e with u|u;exact P q u;exact⟨u.1.old W,u.2⟩;refine⟨?_,(a0 q e).elim (λh=>(F q h).2) id⟩;rcases bR q e with u|u;exact(F q u).1;exact u.old T;simp only[HT,aI,au,ck,nr,cS,aY,↓uL];have aX:¬oa r (gd ns k)=U:=λh'=>(by rw[show oa r (gd ns k)=I from hb] at h';cases h');refine dR (p:=2) (mk:=λ(a:AV×AV) i=>[a.1,a.2,iv i]) (s:=(y,o)) (s':=(y,o)) (λ_ _=>rfl) A (by omega) ⟨?_,?_,T,P,F⟩;rw[pH A,if_neg aX,cL];exact aW;rw[pH A,if_neg aX,cL];exact H;have av:k=L ns:=bP hk (bw h2);subst av;rw[gV,hS] at gy go;have bL:(-lF ns r::((dx w r).map λs=>(⟨4,(r:Int),s⟩:ap)).map (dP ns))= -lF ns r::(dx w r).map (lS ns r):=(by rw[vA];rfl);rw[bL] at gy;have bM:∀j,j<L (dx w r)->gd ((dx w r).map λs=>(⟨4,(r:Int),s⟩:ap)) j=⟨4,(r:Int),gd (dx w r) j⟩:=λj hj=>(by rw[bT (by simpa using hj),xi,bT hj]);have bf:∀s∈dx w r,(⟨4,(r:Int),s⟩:ap)∈ns:=λs hs=>(by have:(⟨4,(r:Int),s⟩:ap)∈ns.filter (oa r):=(by rw[hS];exact dN.2 ⟨s,hs,rfl⟩);exact(jW.1 this).1);refine Ea C5 (by simp only[bq,bZ,bO];omega) _ gy (by simp;omega) (λq e=>by rw[(P q e).2];decide) λa6 Y6 C6 A6=>?_;have bk:Ad Y Y6 b a a6:=((A3.trans A4).fxn F5).trans A6;have Z:∀{Ya Yb:ae} {aa ab:AV} {oo:List (List Int)},bD Ya b w ns oo (.l (ns.map ap.c) t o') wk aa bm bo f->Ad Ya Yb b aa ab->bc Ya 66 3 o (((dx w r).map λs=>(⟨4,(r:Int),s⟩:ap)).map ap.c)->bc Yb 66 3 o (((dx w r).map λs=>(⟨4,(r:Int),s⟩:ap)).map ap.c):=(by intro Ya Yb aa ab oo Ca Aa g;refine g.fx Aa.fx λq e N=>?_;rcases eW.1 N with h|h;have m:=(F q e).2;rw[h,C.sb] at m;simp at m;exact Ca.ne (g.ids q e) (.inr (by simp)) h);have aV:=Z C5 A6 go;simp only[Yn,au,ck,u0,ke aV,bJ,↓uL];refine yV (L (dx w r)) (λj _ z=>∃G,bD z b w ns (out++(aH r).flatMap (gW ns w)++[[-lF ns r,lE ns r],-lF ns r::(dx w r).map (lS ns r)]++(aH j).flatMap λj=>iP ns w r (gd (dx w r) j)) (.l (ns.map ap.c) t o') wk G bm bo f/\Ad Y z b a G/\bc z 66 3 o (((dx w r).map λs=>(⟨4,(r:Int),s⟩:ap)).map ap.c)) ⟨a6,by simpa using C6,bk,aV⟩ ?_;rintro j _ Y7 hj ⟨a7,C7,A7,H⟩;simp only[Yv,au,ck,aI,u0,u1,↓uL];refine⟨λu=>?_,λu=>?_⟩;have B:=aL u;have l7:=fU (f:=λj=>iP ns w r (gd (dx w r) j)) (show j+1<=L (dx w r) from B);rw[cr,bq] at l7;rw[qB H (by simpa using B),bM j B];refine cV C7.le λv9 R F8 N8 d8=>?_;refine cy (cs:=ap.c ⟨4,(r:Int),gd (dx w r) j⟩) d8 rfl rfl (by decide) λY9 F9 d9=>?_;have bz:box Y9 (9,v9)=V ⟨66,3,U,U,[ap.c ⟨4,(r:Int),gd (dx w r) j⟩]⟩:=d9;have ah:Fx Y7 Y9 []:=F8.tn F9 N8.no;have C9:=C7.fx ah;simp only[Ym,u0,u1,bz,aw,↓uL];refine aEj C9 M D bV hw E X (bf _ (dB B)) (bH _ (dB B)) (by simp only[bq,bZ,bO];omega) λbs cz bn aO=>?_;simp only[Yl,au,cS,aY,↓uL];refine dR (p:=0) (mk:=λ_ i=>[iv i]) (s:=()) (s':=()) (λ_ _=>rfl) B (by omega) ⟨bs,?_,(A7.fxn ah).trans aO,Z C9 aO (H.fx ah (by simp))⟩;rw[cr,<-cC];exact bn;refine an Y7 a7 ?_ A7;have bU:j=L (dx w r):=bP hj (bw u);subst bU;simpa using C7;have av:r=L w.ac:=bP hr (bw h);subst av;exact⟨a1,rfl,C1,A1⟩
structure Sd(N:Nat)(p q:bp):Prop where
 prel:0<=p.dY->aF N p.dY
 held:p.dD<0->q.dD<0\/(0<=p.dY/\aF N p.dY/\aF N q.dD/\p.dY≠q.dD)
 own:0<=p.dD->aF N p.dD/\aF N q.dD/\p.dD≠q.dD/\(0<=p.dY->aF N p.dY/\p.dY≠q.dD)/\(0<=q.dY->aF N q.dY/\q.dY≠p.dD)
theorem aE1{p q:bp}:L (iA ns p q)<=4:=by unfold iA;split;simp;split;simp;have h:∀x y z,L (jI ns x y z)<=2:=λx y z=>(by unfold jI;split<;>simp);have:=h p.dD p.dY q.dD;have:=h q.dD q.dY p.dD;simp only[bq];omega
theorem anl(C:bD Y b w ns out n wk a bm bo f)(M:jb w ns){l:List bp}{t o:Bool}(hl:L l<=100)(hS:∀i j,i<j->j<L l->(gd l i).aq≠(gd l j).aq->¬((gd l i).read=U/\(gd l j).read=U)->Sd (L w.ac) (gd l i) (gd l j))(ho:L out<800000000):∃r Y1,mS Y b w ns out (rL ns l) n wk a bm bo f r Y1/\cZ aS GG Ak [.p b 0 0, .l (l.map bp.c) t o] Y r Y1:=by have hn:=M.ln;refine aKc C.le ?_;have AG:∀{Y:ae} {i:Int} {K:bd} {l:List bp} {t o:Bool},rV (cz 4 Y (.l (l.map bp.c) t o) (iv i)) K=(aF (L l) i/\K (.q (bp.c (gd l i.toNat)))):=λ{Y i K l t o}=>ka (Y:=Y) (f:=bp.c) λ_=>rfl;have aa:∀i k,L ((aH k).flatMap λj=>iA ns (gd l i) (gd (l.drop (i+1)) j))<=k*4:=λi k=>(by have:=jo (f:=λj=>iA ns (gd l i) (gd (l.drop (i+1)) j)) (m:=4) (l:=aH k) λe _=>aE1;simpa using this);have az:∀k,L ((aH k).flatMap (mw ns l))<=k*400:=λk=>(by have:=jo (f:=mw ns l) (m:=400) (l:=aH k) λe _=>(by refine gl (aa e _) ?_;rw[oz];omega);simpa using this);simp only[Hh,gT,u0,↓uL];refine yV (L l) (λk _ u=>∃z,bD u b w ns (out++(aH k).flatMap (mw ns l)) n wk z bm bo f/\Ad Y u b a z) ⟨a,by simpa using C,Ad.refl _ _ _⟩ ?_;rintro k _ Y1 hk ⟨a1,C1,A1⟩;have l1:=az k;simp only[VH,au,aI,u0,u1,AG,D2,bh,↓uL];refine⟨λh=>⟨bA h,?_⟩,λh=>?_⟩;have aQ:=aL h;refine cV C1.le λv5 Y2 F2 N2 b2=>?_;refine cy (y:=4) (cs:=bp.c (gd l k)) b2 rfl rfl (by decide) λY3 F3 b3=>?_;have aK:box Y3 (5,v5)=V ⟨153,4,U,U,[bp.c (gd l k)]⟩:=b3;have al:Fx Y1 Y3 []:=F2.tn F3 N2.no;have C3:=C1.fx al;have W:((5,v5):Id)≠b:=(by intro e;have:=C.sb;rw[<-e] at this;simp at this);simp only[VF,au,cS,aY,↓uL];rw[fX (by omega),slS,bh];refine⟨⟨by omega,by omega⟩,?_⟩;simp only[gT,u0,↓uL];refine yV (L (l.drop (k+1))) (λj _ u=>∃z,bD u b w ns (out++(aH k).flatMap (mw ns l)++(aH j).flatMap λj=>iA ns (gd l k) (gd (l.drop (k+1)) j)) n wk z bm bo f/\Ad Y u b a z/\box u (5,v5)=V ⟨153,4,U,U,[bp.c (gd l k)]⟩) ⟨a1,by simpa using C3,A1.fxn al,aK⟩ ?_;rintro j _ Y4 hj ⟨a4,C4,A4,b4⟩;have l4:=aa k j;have bn:L (l.drop (k+1))<=100:=(by rw[oz];omega);simp only[VI,au,aI,u0,u1,di,VG,AG,D2,bh,↓uL];refine⟨λh2=>⟨bA h2,?_⟩,λh2=>?_⟩;have F:=aL h2;have Z:=hS k (k+1+j) (by omega) (by rw[oz] at F;omega);have aR:gd l (k+1+j)=gd (l.drop (k+1)) j:=(by rw[oz] at F;rw[bT (by omega),bT (by rw[oz];exact F),aqQ]);rw[aR] at Z;refine cV C4.le λv7 Y5 F5 N5 d5=>?_;refine cy (y:=4) (cs:=bp.c (gd (l.drop (k+1)) j)) d5 rfl rfl (by decide) λY6 F6 d6=>?_;have S:box Y6 (7,v7)=V ⟨153,4,U,U,[bp.c (gd (l.drop (k+1)) j)]⟩:=d6;have R:Fx Y4 Y6 []:=F5.tn F6 N5.no;have H:=C4.fx R;have A6:=A4.fxn R;have O:=R.kq b4;have aN:((7,v7):Id)≠b:=(by intro e;have:=C.sb;rw[<-e] at this;simp at this);have A:∀E N,bD E b w ns (out++(aH k).flatMap (mw ns l)++(aH j).flatMap (λj=>iA ns (gd l k) (gd (l.drop (k+1)) j))++iA ns (gd l k) (gd (l.drop (k+1)) j)) n wk N bm bo f->Ad Y E b a N->box E (5,v5)=V ⟨153,4,U,U,[bp.c (gd l k)]⟩->Hi [iv j] (yI (α:=Unit) (λ_ i=>[iv i]) (L (l.drop (k+1))) λj _ u=>∃z,bD u b w ns (out++(aH k).flatMap (mw ns l)++(aH j).flatMap λj=>iA ns (gd l k) (gd (l.drop (k+1)) j)) n wk z bm bo f/\Ad Y u b a z/\box u (5,v5)=V ⟨153,4,U,U,[bp.c (gd l k)]⟩) (gM 0 (L (l.drop (k+1)))) Y4 [] E:=(by intro E N C8 A8 b8;simp only[Hi,aI,au,cS,aY,↓uL];refine dR (p:=0) (mk:=λ_ i=>[iv i]) (s:=()) (s':=()) (λ_ _=>rfl) F (by omega) ⟨N,?_,A8,b8⟩;rw[cr,<-cC];exact C8);generalize gd l k=p at*;generalize gd (l.drop (k+1)) j=q at*;simp+contextual only[VE,u0,u1,O,S,aoj,En,Eo,aok,Bj,aj,↓uL];have bs:L (out++(aH k).flatMap (mw ns l)++(aH j).flatMap λj=>iA ns p (gd (l.drop (k+1)) j))<900000000:=(by simp only[bq];omega);refine⟨λg=>?_,λg=>⟨λh4=>?_,λh4=>?_⟩⟩;refine A Y6 a4 ?_ A6 O;simp only[fH,bN,decide_eq_true_eq] at g;rw[iA,if_pos (by rcases g with g|g;exact .inl g;exact .inr (.inl g)),cL];exact H;simp only[cP,decide_eq_false_iff_not] at g;have D:¬(p.read=U/\q.read=U):=λT=>(by rw[T.1,T.2] at g;simp at g);have P:=Z g.1 D;have x:=of_decide_eq_true h4;have X:iA ns p q=uf ns p.dY q.dD:=(by rcases P.held x with B|⟨B,h6,h7,h8⟩;rw[iA,if_pos (.inr (.inr B)),uf,if_pos (.inl B)];have:=h7.1;rw[iA,if_neg (by rintro(h|h|h);exact g.1 h;exact D h;omega),if_pos x,uf,if_neg (by omega)]);rw[X] at A;refine aEe H M (by omega) (λv=>?_) (λv=>?_) ?_ λa7 Y7 C7 G=>A Y7 a7 C7 (A6.trans G) (G.keep O W (H.ne O (.inl rfl)));exact P.prel v;rcases P.held x with B|⟨B,h6,h7,h8⟩;omega;exact h7;rcases P.held x with B|⟨B,h6,h7,h8⟩;exact .inr B;exact .inl h8;simp only[cP,decide_eq_false_iff_not] at g;have D:¬(p.read=U/\q.read=U):=λT=>(by rw[T.1,T.2] at g;simp at g);have P:=Z g.1 D;have x:=of_decide_eq_false h4;obtain⟨q1,q2,q3,q4,q5⟩:=P.own (by omega);have X:iA ns p q=jI ns p.dD p.dY q.dD++jI ns q.dD q.dY p.dD:=(by have:=q2.1;rw[iA,if_neg (by rintro(h|h|h);exact g.1 h;exact D h;omega),if_neg x]);rw[X] at A;refine anx H M (by omega) q1 q2 (λv=>(q4 v).1) q3 (λv=>(q4 v).2) λa7 Y7 C7 G=>?_;have b7:=G.keep O W (H.ne O (.inl rfl));have d7:=G.keep S aN (H.ne S (.inl rfl));have br:L (jI ns p.dD p.dY q.dD)<=2:=(by unfold jI;split<;>simp);simp only[VD,u0,u1,b7,d7,Bj,↓uL];refine anx C7 M (by rw[bq];omega) q2 q1 (λv=>(q5 v).1) (λe=>q3 e.symm) (λv=>(q5 v).2) λN E C8 A8=>A E N (by rw[<-cC];exact C8) ((A6.trans G).trans A8) (A8.keep b7 W (C7.ne b7 (.inl rfl)));have aO:j=L (l.drop (k+1)):=bP hj (bw h2);subst aO;refine dR (p:=0) (mk:=λ_ i=>[iv i]) (s:=()) (s':=()) (λ_ _=>rfl) aQ (by omega) ⟨a4,?_,A4⟩;rw[cr,<-cC];exact C4;have aP:k=L l:=bP hk (bw h);subst aP;simp only[bz,ew];exact⟨a1,rfl,C1,A1⟩
theorem anm(C:bD Y b w ns out n wk a bm bo f)(hn:L ns<100000):∃r z,(∃a1,r= .a [iv (L w.ac),iv (L ns),a1,a]/\bc z 71 3 a1 ((lL ns).map dr.c)/\bc z 35 1 a (out.map λc=>[sl ci c])/\Fx Y z [])/\cZ aS GG Am [.p b 0 0] Y r z:=by refine aKg C.le ?_;simp only[Hm,↓uL];refine cV C.le λv1 z F1 N1 b1=>?_;have B:=C.fx F1;have M:=B.bx;obtain⟨t,o,rfl⟩:=B.nm;simp only[VU,dy M,u0,u1,M,eT,rk,aj,gT,cT,↓uL];have aC:bM nJ [(0,1),(1,1),(2,1),(3,1)] [(0,iv (L w.ac)),(1,iv (L ns)),(3,a)]=V (.a [iv (L w.ac),iv (L ns), .l [] U U,a]):=(by simp[bM,gp,ms B.gr,zU]);simp only[aC,u0,↓uL];refine cV B.le λR Y2 F2 N2 b2=>?_;refine cy (y:=4) (cs:=[iv (L w.ac),iv (L ns), .l [] U U,a]) b2 rfl rfl (by decide) λA F3 b3=>?_;have aw:box A (3,R)=V ⟨52,4,U,U,[[iv (L w.ac),iv (L ns), .l [] U U,a]]⟩:=b3;have D:Fx z A []:=F2.tn F3 N2.no;have S:=B.fx D;have N:=S.bx;have ar:=D.kq b1;simp only[VT,↓uL];refine dT ?_ ?_;have X:=C.sb;have aM:=C.sa;have aE:=C.gr;clear M N;obtain⟨be,bf⟩:=b;simp only at X;subst X;rcases aE with⟨_,rfl⟩|⟨⟨d',v'⟩,rfl,_⟩;rfl;have:=aM (d',v') (by simp[aA]);simp only at this;subst this;rfl;simp only[dy N,u0,u1,N,eT,aj,gT,↓uL];have aQ:∀{x y x2 T:AV},aN J ([x,y,x2,T].drop 2)=V x2:=rfl;have aa:∀{x y x2 T:AV},aN (V 4) [x,y,x2,T]=V (.a [x,y,x2,T]):=rfl;have u:∀{l:List dr},∀r∈l.map dr.c,L r=3:=(by intro l r hr;obtain⟨x,_,rfl⟩:=dN.1 hr;rfl);refine yV (L ns) (λk _ Y'=>∃a1,box Y' (3,R)=V ⟨52,4,U,U,[[iv (L w.ac),iv (L ns),a1,a]]⟩/\bc Y' 71 3 a1 (((aR (ns.take k) 1).map λx=>(⟨x.a,x.b,-1⟩:dr)).map dr.c)/\Fx A Y' [(3,R)]/\∀q∈aA a1,bK A q/\q.1=42) ⟨_,aw,bc.nil,Fx.refl _ _,by simp[aA]⟩ ?_;rintro k _ Y4 hk ⟨a1,m2,g1,E,v⟩;have aJ:L Y4=4096:=E.len.trans S.le;simp only[VX,au,aI,u0,u1,di,VV,lX,rk,bh,↓uL];refine⟨λh=>⟨bA h,?_⟩,λh=>?_⟩;have O:=aL h;refine cV aJ λv5 Y5 G N5 b5=>?_;refine cy (cs:=ap.c (gd ns k)) b5 rfl rfl (by decide) λH F6 b6=>?_;have ay:box H (5,v5)=V ⟨66,3,U,U,[ap.c (gd ns k)]⟩:=b6;have F:Fx Y4 H []:=G.tn F6 N5.no;have P:=F.kq m2;have g6:=g1.fx F (by simp);have m:Fx A H [(3,R)]:=(E.trans F).mono (by simp);have ah:bM yX [(0,1),(1,1),(2,1)] [(0,iv (gd ns k).a),(1,iv (gd ns k).b),(2,iv (-1))]=V (.a (dr.c ⟨(gd ns k).a,(gd ns k).b,-1⟩)):=rfl;have aD:aX EI 1 H [(0, .a (dr.c ⟨(gd ns k).a,(gd ns k).b,-1⟩))]=V (.l ([(⟨(gd ns k).a,(gd ns k).b,-1⟩:dr)].map dr.c) U U,H):=ua rfl rfl rfl (by decide) rfl (by decide);have W:=Qg (ns:=ns) (kd:=1) O;have bg:L (aR (ns.take k) 1)<=k:=(by have:=fZ (λx:ap=>Q (x.kind=1)) (ns.take k);simp only[gC] at this;unfold aR;omega);simp only[VS,u0,u1,ay,P,rk,aQ,aj,ah,aD,↓uL];refine⟨λhb=>?_,λhb=>?_⟩;refine gD g6 rfl (by decide) (by rw[m.len,S.le];decide) u u (by simp only[bJ,bZ,bO];omega) λa7 Y7 g7 F7 aF aK=>?_;have aP:((3,R):Id)∉aA a1:=λg=>(by have:=(v _ g).2;simp at this);have Z:=F7.keep _ _ aP P;simp only[VR,u0,u1,Z,aj,↓uL];refine cy (y:=1) (j:=2) (cs:=[a7]) Z (ms g7) rfl (by simp) λY8 F8 b8=>?_;have P7:∀q∈aA a7,bK A q/\q.1=42:=λq g=>(by refine⟨?_,(aK q g).elim (λh=>(v q h).2) id⟩;rcases aF q g with h|h;exact(v q h).1;exact h.old m);simp only[Hn,aI,au,cS,aY,↓uL];refine dR (p:=0) (mk:=λ_ i=>[iv i]) (s:=()) (s':=()) (λ_ _=>rfl) O (by omega) ⟨a7,b8,?_,?_,P7⟩;rw[W,if_pos (of_decide_eq_true hb),dg,dg];exact g7.fx F8 (λq g e=>by simp at e;subst e;have:=(P7 _ g).2;simp at this);refine((m.trans F7).trans F8).mono ?_;intro q g;simp only[dF,cE] at g⊢;rcases g with(h|h)|h;exact .inl h;exact .inr (v q h).1.no;exact .inl h;simp only[Hn,aI,au,cS,aY,↓uL];refine dR (p:=0) (mk:=λ_ i=>[iv i]) (s:=()) (s':=()) (λ_ _=>rfl) O (by omega) ⟨a1,P,?_,m,v⟩;rw[W,if_neg (of_decide_eq_false hb),cL];exact g6;have aG:k=L ns:=bP hk (bw h);subst aG;rw[gV] at g1;have av:=E.kq ar;simp only[m2,u0,u1,aa,↓uL];refine cy (y:=4) (cs:=[iv (L w.ac),iv (L ns),a1,a]) av rfl rfl (by decide) λY5 G b5=>?_;have ax:box Y5 (2,v1)=V ⟨52,4,U,U,[[iv (L w.ac),iv (L ns),a1,a]]⟩:=b5;simp only[ax,u0,u1,aa,bz,ew,↓uL];refine⟨a1,rfl,g1.fx G (λq g e=>by simp at e;subst e;have:=(v _ g).2;simp at this),(S.gr.fx E (λq g e=>by simp at e;subst e;have:=C.sa _ g;simp at this)).fx G (λq g e=>by simp at e;subst e;have:=C.sa _ g;simp at this),(((F1.trans D).trans E).trans G).mono λq g=>?_⟩;simp only[dW,dF,cE] at g;rcases g with rfl|rfl;exact .inr (N2.old F1).no;exact .inr N1.no
end
def apx:dO:=apw
theorem va:eJ apx:=wS
def aBp:=@amn
abbrev BA:List AV:=[(iv 0),(iv 0),(iv 0),(bv I)]
def asS:=bi 10 [(3,([7],[1,2,3,6]))]
def VY s2 e_1 a1 R t4 a2 vs5:=∀_:Rg,ah (gt vs5 0) (ag 2 s2 e_1 λl=>aM s2 a1 λm=>al l m λn=>bz R s2 [n]) (al t4 (iv 17) λa=>ah a (aM s2 a2 λb=>rV (cO s2 b) λc=>aB 0 s2 c λd=>aB 0 s2 d λe=>ag 2 s2 e λf=>ag 2 s2 e_1 λg=>ao 2 s2 f g λh=>ag 1 s2 h λi=>aM s2 a1 λj=>al i j λk=>bz R s2 [k]) (bz R s2 [(bv I)]))
def VZ t4(c:cG):=al t4 (iv 6) λa=>ah a (c [a]) (al t4 (iv 8) λb=>ah b (c [b]) (al t4 (iv 10) λd=>c [d]))
def Hq e_1 a1 a2 s2 R:=ag 1 s2 e_1 λt4=>jR 3 (VY s2 e_1 a1 R t4 a2) (VZ t4)
theorem aI5{a a1 b:AV}{s0:ae}{R:be}(h:eV (ej 59 7 s0 3 a) λc d=>Hq c a1 b d R):EB xO [a,a1,b] s0 R:=zB asS va Tryz.func130 h
theorem aKj{d:List AV}{a1:AV}{e:AV}{s0:ae}{R:be}(hs:L s0=4096)(l0:L d=7)(h:∀(b:ae) (c:Nat),Kp s0 b->(∀k,k≠3->aZ b k=aZ s0 k)->(∀x,box s0 (3,c)≠V x)->box b (3,c)=V ⟨59,7,U,U,[d]⟩->Hq (.p (3,c) 0 0) a1 e b R):EB xO [.a d,a1,e] s0 R:=by refine aI5 ?_;refine iN rfl l0 (by decide) (by decide) hs λb c j g0 l f=>?_;exact h b c j (λk g=>g0 k g) (λx i=>l x ((Kp.refl _).keep _ _ i)) f
def asT:=bi 10 [(3,([7],[1,2,3,6]))]
def V0 s2 e_1 a1 R t4 a2 vs5:=∀_:Rg,ah (gt vs5 0) (ag 2 s2 e_1 λl=>aM s2 a1 λm=>al l m λn=>bz R s2 [n]) (al t4 (iv 16) λa=>ah a (aM s2 a2 λb=>rV (cO s2 b) λc=>aB 0 s2 c λd=>aB 0 s2 d λe=>ag 2 s2 e λf=>ag 2 s2 e_1 λg=>ao 2 s2 f g λh=>ag 1 s2 h λi=>aM s2 a1 λj=>al i j λk=>bz R s2 [k]) (bz R s2 [(bv I)]))
def V1 t4(c:cG):=al t4 (iv 7) λa=>ah a (c [a]) (al t4 (iv 9) λb=>ah b (c [b]) (al t4 (iv 11) λd=>c [d]))
def Hr e_1 a1 a2 s2 R:=ag 1 s2 e_1 λt4=>jR 3 (V0 s2 e_1 a1 R t4 a2) (V1 t4)
theorem aI6{a a1 b:AV}{s0:ae}{R:be}(h:eV (ej 59 7 s0 3 a) λc d=>Hr c a1 b d R):EB xP [a,a1,b] s0 R:=zB asT va Tryz.func131 h
theorem aKk{d:List AV}{a1:AV}{e:AV}{s0:ae}{R:be}(hs:L s0=4096)(l0:L d=7)(h:∀(b:ae) (c:Nat),Kp s0 b->(∀k,k≠3->aZ b k=aZ s0 k)->(∀x,box s0 (3,c)≠V x)->box b (3,c)=V ⟨59,7,U,U,[d]⟩->Hr (.p (3,c) 0 0) a1 e b R):EB xP [.a d,a1,e] s0 R:=by refine aI6 ?_;refine iN rfl l0 (by decide) (by decide) hs λb c j g0 l f=>?_;exact h b c j (λk g=>g0 k g) (λx i=>l x ((Kp.refl _).keep _ _ i)) f
def as5:=bi 2 []
def HQ e_1 s2 R:=ag 1 s2 e_1 λt4=>al t4 (iv 12) λa=>bz R s2 [a]
theorem aJi{a:AV}{s0:ae}{R:be}(h:eV (ej 59 7 s0 1 a) λb c=>HQ b c R):EB xS [a] s0 R:=zB as5 va Tryz.func133 h
theorem aKw{d:List AV}{s0:ae}{R:be}(hs:L s0=4096)(l0:L d=7)(h:∀(b:ae) (c:Nat),Kp s0 b->(∀k,k≠1->aZ b k=aZ s0 k)->(∀x,box s0 (1,c)≠V x)->box b (1,c)=V ⟨59,7,U,U,[d]⟩->HQ (.p (1,c) 0 0) b R):EB xS [.a d] s0 R:=by refine aJi ?_;refine iN rfl l0 (by decide) (by decide) hs λb c i g0 j e=>?_;exact h b c i (λk f=>g0 k f) (λx g=>j x ((Kp.refl _).keep _ _ g)) e
def as6:=bi 2 []
def HR e_1 s2 R:=ag 1 s2 e_1 λt4=>al t4 (iv 13) λa=>bz R s2 [a]
theorem aJj{a:AV}{s0:ae}{R:be}(h:eV (ej 59 7 s0 1 a) λb c=>HR b c R):EB xT [a] s0 R:=zB as6 va Tryz.func134 h
theorem aKx{d:List AV}{s0:ae}{R:be}(hs:L s0=4096)(l0:L d=7)(h:∀(b:ae) (c:Nat),Kp s0 b->(∀k,k≠1->aZ b k=aZ s0 k)->(∀x,box s0 (1,c)≠V x)->box b (1,c)=V ⟨59,7,U,U,[d]⟩->HR (.p (1,c) 0 0) b R):EB xT [.a d] s0 R:=by refine aJj ?_;refine iN rfl l0 (by decide) (by decide) hs λb c i g0 j e=>?_;exact h b c i (λk f=>g0 k f) (λx g=>j x ((Kp.refl _).keep _ _ g)) e
def as1:=bi 27 [(4,([9,22],[0,2,3,20,21])),(7,([9],[0,2,3,20,21,22])),(12,([43],[0,3,9,42])),(15,([],[0,3,9,42,43])),(19,([62],[0,3,9,12,42,43,60,61]))]
def HK vs6(c:aG)(b:bu) s7 vs9 s10:=∀_:Rg,aV (gt vs6 1) (iv 1) λa=>c [(gt vs9 0),a] s10/\b [(gt vs9 0),a] s10<b vs6 s7
def Xz e_14 a2 vs6(b:aG) s16:=aw 7 s16 e_14 λe=>cF a2 [e] s16 29 λf a=>ah f (ag 0 a e_14 λg=>ag 1 a e_14 λh=>al h (iv 8) λi=>rV (bM oj [(0,1),(1,1),(2,1),(3,1)] [(0,g),(1,(gt vs6 1)),(3,i)]) λj=>eV (aX BA 1 a [(0,j)]) λk c=>eV (bS 153 oj 32 c 39 (gt vs6 0) k) λl d=>b [l] d) (b [(gt vs6 0)] a)
def XC s7 t4 vs6 a2 J9:=ao 7 s7 t4 (gt vs6 1) λc=>aw 7 s7 c λd=>eV (bs 59 ee s7 11) λa b=>sV (aK 7 b a d) (Xz a a2 vs6 J9)
def HJ vs31(c:aG)(a:bu) s32(d:eQ) s35:=∀_:Rg,aV (gt vs31 0) (iv 1) λb=>c [b] s35/\a [b] s35<a vs31 s32
def XE t48 t47 vs6 vs31 a3 a0(d:aG)(g:aG)(e:bu) vs49 s50:=∀_:Rg,aU (gt vs49 0) t48 λk=>ah k (ao 1 s50 t47 (gt vs49 0) λl=>aM s50 l λc=>ao 4 s50 (gt vs6 0) (gt vs31 0) λm=>ag 1 s50 m λn=>aO .gtr c n λa=>bB a a3 λo=>bB a a0 λp=>az a (rV (cO s50 p)) λq=>az a (aB 0 s50 q) λr=>aT a 14 s50 r λs=>bB a c λt=>az a (ao 7 s50 s t) λu=>az a (aw 7 s50 u) λv=>gE (gP U a) (λh=>cF o [v] s50 83 λw i=>h w i) s50 λx b=>aD a x (bv I) λy=>ah y (ao 4 b (gt vs6 0) (gt vs31 0) λz=>aB 2 b z λA=>sV (aK 1 b A c) λj=>d [] j) (aV (gt vs49 0) (iv 1) λf=>g [f] b/\e [f] b<e vs49 s50)) (d [] s50)
def XA a0 vs6 vs31 a3 J34 s39:=rV (cO s39 a0) λb=>ag 18 s39 b λc=>ao 4 s39 (gt vs6 0) (gt vs31 0) λd=>ag 0 s39 d λe=>ao 1 s39 c e λf=>aM s39 f λa=>aJ s39 a λg=>lV [(iv 0)] s39 (XE g a vs6 vs31 a3 a0 J34)
def XB s32 vs6 vs31 a0 a3 J34:=ao 4 s32 (gt vs6 0) (gt vs31 0) λa=>aB 2 s32 a λb=>sV (aK 1 s32 b (iv (-1))) (XA a0 vs6 vs31 a3 J34)
def XD t30 vs6 a0 a3 R I31 m31 vs31 s32:=∀_:Rg,aU (gt vs31 0) t30 λa=>ah a (jV 15 (HJ vs31 I31 m31 s32) (XB s32 vs6 vs31 a0 a3)) (bz R s32 [(gt vs6 0)])
def XF t5 t4 a2 a0 a3 R I6 m6 vs6 s7:=∀_:Rg,aU (gt vs6 1) t5 λb=>ah b (jV 7 (HK vs6 I6 m6 s7) (XC s7 t4 vs6 a2)) (aJ s7 (gt vs6 0) λa=>lV [(iv 0)] s7 (XD a vs6 a0 a3 R))
def HI a0 a1 a2 a3 s0 R:=rV (cO s0 a0) λt1=>aB 0 s0 t1 λa=>ag 14 s0 a λt4=>aJ s0 t4 λb=>lV [a1,(iv 0)] s0 (XF b t4 a2 a0 a3 R)
theorem aJe{a a1 b c:AV}{s0:ae}{R:be}(h:HI a a1 b c s0 R):EB wg [a,a1,b,c] s0 R:=zB as1 va Tryz.func132 h
theorem aKs{a:AV}{a1:AV}{b:AV}{c:AV}{s0:ae}{R:be}(hs:L s0=4096)(h:HI a a1 b c s0 R):EB wg [a,a1,b,c] s0 R:=by refine aJe ?_;exact h
def asR:=bi 23 [(5,([6,29],[2,3,5,28])),(8,([6],[2,3,5,28,29])),(14,([6,44],[2,3,5,7,28,29,42,43])),(17,([6],[2,3,5,7,28,29,42,43,44]))]
def Ht vs25(c:aG)(a:bu) s26 vs28 s29:=∀_:Rg,aV (gt vs25 1) (iv 1) λb=>c [(gt vs28 0),b] s29/\a [(gt vs28 0),b] s29<a vs25 s26
def Hs vs42(c:aG)(a:bu) s43 vs45 s46:=∀_:Rg,aV (gt vs42 1) (iv 1) λb=>c [(gt vs45 0),b] s46/\a [(gt vs45 0),b] s46<a vs42 s43
def V3 s43 t40 vs42 vs25(a:aG):=ao 1 s43 t40 (gt vs42 1) λd=>aM s43 d λe=>al e (gt vs25 1) λf=>ah f (rV (bM oj [(0,1),(1,1),(2,1),(3,1)] [(0,(gt vs25 1)),(1,(iv (-1))),(3,(bv U))]) λg=>eV (aX BA 1 s43 [(0,g)]) λh b=>eV (bS 153 oj 32 b 55 (gt vs42 0) h) λi c=>a [i] c) (a [(gt vs42 0)] s43)
def V5 t41 t40 vs25(a:aG) I42 m42 vs42 s43:=∀_:Rg,aU (gt vs42 1) t41 λb=>ah b (jV 17 (Hs vs42 I42 m42 s43) (V3 s43 t40 vs42 vs25)) (a [(gt vs42 0)] s43)
def V4 s26 state_15 vs25(a:aG):=ag 0 s26 state_15 λe=>al e (gt vs25 1) λf=>ah f (rV (bM oj [(0,1),(1,1),(2,1),(3,1)] [(0,(gt vs25 1)),(1,(iv (-1)))]) λg=>eV (aX BA 1 s26 [(0,g)]) λh c=>eV (bS 153 oj 32 c 40 (gt vs25 0) h) λi d=>a [i] d) (ag 1 s26 state_15 λb=>aJ s26 b λj=>lV [(gt vs25 0),(iv 0)] s26 (V5 j b vs25 a))
def V6 t24 state_15 c_1 lock_3 R I25 m25 vs25 s26:=∀_:Rg,aU (gt vs25 1) t24 λb=>ah b (jV 8 (Ht vs25 I25 m25 s26) (V4 s26 state_15 vs25)) (aM s26 c_1 λc=>cB wg [c,(gt vs25 0),(.f 130 [] [lock_3,c_1]),(.f 131 [] [lock_3,c_1])] s26 64 λd a=>bz R a [d])
def V2 c_1 t5 t6 t7 t8 t9 t10 lock_3 t11 t12 t13 state_15 t14 R s17:=dH [(lz c_1),(lz t5),(lz t6),(lz t7),(lz t8),(lz t9),(lz t10),(lz lock_3),(lb U [t11,t12] []),(lz t13),(lb I [] [5]),(lb I [state_15,t14] [])] [(0,10),(1,10),(2,10),(3,10),(4,10),(5,10),(6,10),(7,10),(8,10),(9,10)] (aM s17 c_1 λa=>rV (cO s17 a) λb=>aB 0 s17 b λc=>aB 0 s17 c λd=>ag 4 s17 d λe=>aJ s17 e λf=>lV [(.l [] U U),(iv 0)] s17 (V6 f state_15 c_1 lock_3 R))
def Hp c_1 lock_3 s4 R:=aM s4 c_1 λh=>rV (cO s4 h) λi=>aB 0 s4 i λj=>aB 7 s4 j λk=>aB 0 s4 k λl=>aB 0 s4 l λb=>aM s4 b λc=>aM s4 lock_3 λd=>ao 2 s4 c d λe=>aw 2 s4 e λf=>eV (bs 100 oi s4 5) λa g=>sV (aK 2 g a f) (V2 c_1 h i j k l b lock_3 c d e a f R)
theorem aI4{b a1:AV}{s0:ae}{R:be}(h:eV (ej 72 1 s0 2 b) λc d=>eV (ej 3 1 d 3 a1) λa e=>Hp c a e R):EB An [b,a1] s0 R:=zB asR va Tryz.func79 h
theorem aKi{d:AV}{a1:AV}{s0:ae}{R:be}(hs:L s0=4096)(l0:eY d=V [d])(l1:eY a1=V [a1])(h:∀(a:ae) (b c:Nat),Kp s0 a->(∀k,k≠2->k≠3->aZ a k=aZ s0 k)->(∀x,box s0 (2,b)≠V x)->(∀x,box s0 (3,c)≠V x)->box a (2,b)=V ⟨72,1,U,U,[[d]]⟩->box a (3,c)=V ⟨3,1,U,U,[[a1]]⟩->Hp (.p (2,b) 0 0) (.p (3,c) 0 0) a R):EB An [d,a1] s0 R:=by refine aI4 ?_;refine iN l0 rfl (by decide) (by decide) hs λq b f g0 n i=>?_;refine iN l1 rfl (by decide) (by decide) (f.len.trans hs) λa c g g1 o j=>?_;exact h a b c (Kp.trans f g) (λk l m=>(g1 k m).trans (g0 k l)) (λx e=>n x ((Kp.refl _).keep _ _ e)) (λx e=>o x (f.keep _ _ e)) (g.keep _ _ i) j
def as4:=bi 8 [(2,([3],[0]))]
def X9 a0 R vs1 s2:=∀_:Rg,cB wg [a0,(gt vs1 0),(.f 133 [] []),(.f 134 [] [])] s2 25 λt3 a=>bz R a [t3]
def Yd s0 a0(b:aG):=rV (cO s0 a0) λi=>aB 0 s0 i λj=>aB 7 s0 j λk=>aB 0 s0 k λm=>ag 1 s0 m λa=>aO .geq a (iv 0) λe=>ah e (rV (bM oj [(0,1),(1,1),(2,1),(3,1)] [(0,a),(1,(iv (-1)))]) λf=>eV (aX BA 1 s0 [(0,f)]) λg c=>eV (bS 153 oj 32 c 20 (.l [] U U) g) λh d=>b [h] d) (b [(.l [] U U)] s0)
def HP a0 s0 R:=jV 2 (X9 a0 R) (Yd s0 a0)
theorem aJh{a:AV}{s0:ae}{R:be}(h:HP a s0 R):EB As [a] s0 R:=zB as4 va Tryz.func80 h
theorem aKv{a:AV}{s0:ae}{R:be}(hs:L s0=4096)(h:HP a s0 R):EB As [a] s0 R:=by refine aJh ?_;exact h
theorem aB8{w:am}{u:Int}{l:List Int}{q:Int}(h:q∈fg w u l):∃x∈l,0<=x-gd w.init.count u.toNat/\x-gd w.init.count u.toNat<(L (et w.ac u (L w.ac)):Int)/\q=gd (et w.ac u (L w.ac)) (x-gd w.init.count u.toNat).toNat:=by unfold fg lp at h;obtain⟨x,c,a⟩:=iI.1 h;refine⟨x,List.mem_of_mem_take c,?_⟩;rw[Er (dA _)] at a;by_cases b:0<=x-gd w.init.count u.toNat/\x-gd w.init.count u.toNat<(L (et w.ac u (L w.ac)):Int);rw[if_pos b] at a;exact⟨b.1,b.2,by simpa using a⟩;rw[if_neg b] at a;cases a
theorem an7{w:am}(h:xv w){k:Nat}(c:k<L w.ac){q:Int}{l:List Int}(j:∀x∈l,x∈(gd w.ac k).dI\/x∈(gd w.ac k).ep)(n:q∈fg w (gd w.ac k).aq l):aF (L w.ac) q/\fR (gd w.ac q.toNat)=U:=by obtain⟨x,p,y,z,rfl⟩:=aB8 n;obtain⟨u,v,f⟩:=h.rd k c x (j x p);obtain⟨g,b⟩:=f (by omega);have d:=(h.wo.wo.named c).2;have e:(((gd w.ac k).aq.toNat:Nat):Int)=(gd w.ac k).aq:=kA d.1;simp only[n8,bJ,e] at g b;generalize A:(x-gd w.init.count (gd w.ac k).aq.toNat).toNat=m at*;have a:m<L (fj w.ac (gd w.ac k).aq k):=(by omega);obtain⟨r,o⟩:=QC (l:=w.ac) (t:=(gd w.ac k).aq) (show k<=L w.ac by omega);have i:gd (et w.ac (gd w.ac k).aq (L w.ac)) m=((gd (fj w.ac (gd w.ac k).aq k) m:Nat):Int):=(by rw[o,gd,eI,List.getElem?_append_left (by rw[wE];exact a),et,fp,eC a,bT a];rfl);rw[i];have s:gd (fj w.ac (gd w.ac k).aq k) m<k:=(by have:=dB a;exact fq.1 (jW.1 this).1);refine⟨⟨by omega,by omega⟩,?_⟩;rw[bh];rw[bT (by simpa using a),xi] at b;rw[bT a];exact b
theorem an6{w:am}(h:xv w)(o:hU w):tP w:=by have c:∀k,k<L w.ac->∀x,x∈(gd w.ac k).dI\/x∈(gd w.ac k).ep-> -1000<=x/\x<=1000:=λk a x b=>⟨(h.rd k a x b).1,(h.rd k a x b).2.1⟩;refine⟨h.ct.1,λu j=>h.ct.2 _ (ii (by rw[h.ct.1];exact j)),λk a=>⟨?_,λx b=>c k a x (.inl b)⟩,λk a=>⟨?_,λx b=>c k a x (.inr b)⟩,λk a q e=>an7 h a (λx b=> .inl b) e,λk a q e=>an7 h a (λx b=> .inr b) e⟩;(all_goals have f:=(h.wo.wo.en k a).2;simp only[gj,u7,eH,cP,fK,decide_eq_true_eq] at f;obtain⟨_,_,_,_,⟨l,m⟩,_⟩:=f;have n:=(h.wo.wo.named a).2);rcases oD (L (gd w.ac k).dI) with d|d;omega;have g:=yq l (L (gd w.ac k).dI-1) (by omega);have i:=(c k a _ (.inl (dB (show L (gd w.ac k).dI-1<L (gd w.ac k).dI by omega)))).2;omega;rcases oD (L (gd w.ac k).ep) with d|d;omega;have g:=yq m (L (gd w.ac k).ep-1) (by omega);have i:=(c k a _ (.inr (dB (show L (gd w.ac k).ep-1<L (gd w.ac k).ep by omega)))).2;omega
theorem D5{w:am}{x:ap}:x∈lr (L w.ac) (L w.ac)↔x.kind=1/\aF (L w.ac) x.a/\aF (L w.ac) x.b/\x.a≠x.b:=by obtain⟨kd,a,b⟩:=x;simp only[lr,nB,iI,fq,dN,jW,decide_eq_true_eq,ap.mk.injEq];constructor;rintro⟨i,g,j,⟨h,e⟩,rfl,rfl,rfl⟩;exact⟨rfl,⟨by omega,by omega⟩,⟨by omega,by omega⟩,e⟩;rintro⟨rfl,c,d,f⟩;refine⟨a.toNat,by have:=c.1;have:=c.2;omega,b.toNat,⟨by have:=d.1;have:=d.2;omega,?_⟩,rfl,kA c.1,kA d.1⟩;rw[kA c.1,kA d.1];exact f
theorem Qs{w:am}{x:ap}:x∈cw w↔x∈lr (L w.ac) (L w.ac)\/x∈mK (L w.ac)\/x∈kh w.ac (L w.ac)\/x∈ki w (L w.ac)\/x∈jp w (L w.ac):=by simp only[cw,dF,or_assoc]
theorem D6{n:Nat}{x:ap}:x∈mK n↔∃a:Nat,a<n/\x=⟨2,a,0⟩:=by simp only[mK,dN,fq];constructor;rintro⟨a,h,rfl⟩;exact⟨a,h,rfl⟩;rintro⟨a,h,rfl⟩;exact⟨a,h,rfl⟩
theorem D7{l:List aP}{n:Nat}{x:ap}:x∈kh l n↔∃a:Nat,a<n/\fR (gd l a)=U/\x=⟨3,a,0⟩:=by simp only[kh,dN,jW,fq];constructor;rintro⟨a,⟨h,b⟩,rfl⟩;exact⟨a,h,b,rfl⟩;rintro⟨a,h,b,rfl⟩;exact⟨a,⟨h,b⟩,rfl⟩
theorem ant{w:am}{n:Nat}{x:ap}:x∈ki w n↔∃a:Nat,a<n/\∃s∈dx w a,x=⟨4,a,s⟩:=by simp only[ki,iI,dN,fq];constructor;rintro⟨a,h,s,b,rfl⟩;exact⟨a,h,s,b,rfl⟩;rintro⟨a,h,s,b,rfl⟩;exact⟨a,h,s,b,rfl⟩
theorem anG{w:am}(c:L (cw w)<100000):jb w (cw w):=by refine⟨c,λx y a e b=>Qs.2 (.inl (D5.2 ⟨rfl,a,e,b⟩)),λx a=>Qs.2 (.inr (.inl (D6.2 ⟨x.toNat,by have:=a.1;have:=a.2;omega,by rw[kA a.1]⟩))),λx a d=>Qs.2 (.inr (.inr (.inl (D7.2 ⟨x.toNat,by have:=a.1;have:=a.2;omega,d,by rw[kA a.1]⟩))))⟩
theorem D8{w:am}{n:Nat}{x:ap}:x∈jp w n↔∃a:Nat,a<n/\pN (gd w.ac a)=U/\∃s∈mR w (gd w.ac a).obj (gd w.ac a).aq,x=⟨5,a,s⟩:=by simp only[jp,iI,fq,pR];constructor;rintro⟨a,h,c⟩;by_cases b:pN (gd w.ac a)=U;rw[if_pos b] at c;obtain⟨s,d,rfl⟩:=dN.1 c;exact⟨a,h,b,s,d,rfl⟩;rw[if_neg b] at c;cases c;rintro⟨a,h,b,s,d,rfl⟩;exact⟨a,h,by rw[if_pos b];exact dN.2 ⟨s,d,rfl⟩⟩
theorem yH{p:Nat->Bool}{k:Nat}{s:Int}(h:s∈fw p k):∃i:Nat,i<k/\p i=U/\s=i:=by obtain⟨i,a,rfl⟩:=dN.1 h;have:=jW.1 a;exact⟨i,fq.1 this.1,this.2,rfl⟩
theorem anE{w:am}(a:L w.ac<=16)(g:L w.init.sync.ay<=4):L (cw w)<2000/\L (jp w (L w.ac))<=320:=by have b:=AS (L w.ac) (L w.ac);have c:=AT (L w.ac);have d:=AU w.ac (L w.ac);have e:=AW w (L w.ac);have f:=Qv w (L w.ac);have m1:L w.ac*L w.ac<=16*16:=xn a a;have h:L w.ac*(1+L w.ac)<=16*17:=xn a (by omega);have i:L w.ac*(L w.init.sync.ay+L w.ac)<=16*20:=xn a (by omega);simp only[cw,bq];omega
theorem Qf{w:am}:aR (cw w) 5=jp w (L w.ac):=by have c:∀{l:List ap} {k:Int},(∀x∈l,x.kind=k)->k≠5->l.filter (λx=>Q (x.kind=5))=[]:=λh d=>RK.2 λx b=>(by simp[h x b,d]);have e:∀{l:List ap},(∀x∈l,x.kind=5)->l.filter (λx=>Q (x.kind=5))=l:=λh=>GA.2 λx b=>(by simp[h x b]);simp only[aR,cw,me];rw[c (k:=1) (λx b=>(D5.1 b).1) (by decide),c (k:=2) (λx b=>by obtain⟨a,_,rfl⟩:=D6.1 b;rfl) (by decide),c (k:=3) (λx b=>by obtain⟨a,_,_,rfl⟩:=D7.1 b;rfl) (by decide),c (k:=4) (λx b=>by obtain⟨a,_,s,_,rfl⟩:=ant.1 b;rfl) (by decide),e (λx b=>by obtain⟨a,_,_,s,_,rfl⟩:=D8.1 b;rfl)];simp
theorem Rq{w:am}(l:L w.ac<=16)(k:L w.init.sync.ay<=4):sE w (cw w):=by refine⟨λx f=>?_,by rw[Qf];have:=(anE l k).2;omega⟩;rw[Qf] at f;obtain⟨a,j,b,s,hs,rfl⟩:=D8.1 f;refine⟨⟨by simp,by simpa using j⟩,by simpa using b,λg=>?_⟩;simp only at g⊢;rcases dF.1 hs with h|h;obtain⟨t,d,rfl⟩:=dN.1 h;obtain⟨i,_,_,rfl⟩:=yH d;omega;obtain⟨i,m,c,rfl⟩:=yH h;refine⟨⟨by omega,by omega⟩,λe=>?_⟩;have:i=a:=(by omega);subst this;simp only[wV,bN,decide_eq_true_eq] at c;simp[pN,c.2.1] at b
theorem Kt{w:am}{r:Nat}{s:Int}(h:s∈dx w r):(s= -1\/0<=s)/\(0<=s->aF (L w.ac) s/\s≠(r:Int)):=by unfold dx at h;(cases a:(dh (r:Int) (L w.ac)&&fR (gd w.ac (r:Int).toNat)));rw[a] at h;cases h;rw[a] at h;simp only[cond_true] at h;rcases dF.1 h with h|h;have hs:s= -1:=(by(cases b:oM w (gd w.ac (r:Int).toNat)<;>rw[b] at h);(cases h);simpa using h);exact⟨.inl hs,λd=>by omega⟩;obtain⟨i,b,c,rfl⟩:=yH h;refine⟨.inr (by omega),λ_=>⟨⟨by omega,by omega⟩,λe=>?_⟩⟩;have:i=r:=(by omega);subst this;simp only[mr,pf,bh,bN,fH,decide_eq_true_eq] at c;omega
theorem al6{α β:Type}{p:β->Bool}{f:α->List β}:∀{l:List α},(l.flatMap f).filter p=l.flatMap λa=>(f a).filter p
 |[]=>rfl
 |a::l=>by rw[Cz,Cz,me,al6]
theorem amd{β:Type}{f:Nat->List β}{r:Nat}:∀{n:Nat},(∀a,a≠r->f a=[])->(aH n).flatMap f=if r<n then f r else[]
 |0,_=>by simp
 |n+1,h=>by
  rw[cr,amd (n:=n) h]
  by_cases b:r<n
  ·rw[if_pos b,if_pos (by omega),h n (by omega),cL]
  ·by_cases c:r=n
   ·subst c;rw[if_neg b,if_pos (by omega),dW]
   ·rw[if_neg b,if_neg (by omega),h n (λe=>c e.symm),dW]
theorem aId{w:am}(i:L w.ac<=16):GU w (cw w):=by refine⟨λr e f=>?_,λr s hs=>(Kt hs).2,λr=>by have:=vU w r;omega⟩;have c:∀{l:List ap} {k:Int},(∀x∈l,x.kind=k)->k≠4->l.filter (oa r)=[]:=λh d=>RK.2 λx b=>(by simp[oa,h x b,d]);simp only[cw,me];rw[c (k:=1) (λx b=>(D5.1 b).1) (by decide),c (k:=2) (λx b=>by obtain⟨a,_,rfl⟩:=D6.1 b;rfl) (by decide),c (k:=3) (λx b=>by obtain⟨a,_,_,rfl⟩:=D7.1 b;rfl) (by decide),c (l:=jp w (L w.ac)) (k:=5) (λx b=>by obtain⟨a,_,_,s,_,rfl⟩:=D8.1 b;rfl) (by decide)];simp only[dW,cL];rw[ki,al6,amd (r:=r) (λa g=>?_),if_pos e];exact GA.2 λx b=>(by obtain⟨s,_,rfl⟩:=dN.1 b;simp[oa]);exact RK.2 λx b=>by obtain⟨s,_,rfl⟩:=dN.1 b;simp[oa];omega
theorem Ec{β:Type}{f:Nat->List β}:∀{n:Nat},(∀a,(f a).Nodup)->(∀a c,a≠c->∀x∈f a,x∉f c)->((aH n).flatMap f).Nodup
 |0,_,_=>by simp
 |n+1,b,d=>by
  rw[cr,xl]
  refine⟨Ec b d,b n,λx i y j e=>?_⟩
  subst e
  obtain⟨a,h,g⟩:=iI.1 i
  have:=fq.1 h
  exact d a n (by omega) x g j
theorem wC{α β:Type}{f:α->β}{l:List α}(d:∀a b,f a=f b->a=b)(h:l.Nodup):(l.map f).Nodup:=by rw[List.Nodup,List.pairwise_map];exact Cr.imp (λc e=>c (d _ _ e)) h
theorem Qw{p:Nat->Bool}{k:Nat}:(fw p k).Nodup:=wC (λa b h=>by omega) (Cr.filter _ GM)
theorem aEo{w:am}{r:Nat}:(dx w r).Nodup:=by unfold dx;(cases(dh (r:Int) (L w.ac)&&fR (gd w.ac (r:Int).toNat)));simp;simp only[cond_true];rw[xl];refine⟨?_,Qw,λx a y c e=>?_⟩;(cases oM w (gd w.ac (r:Int).toNat)<;>simp);obtain⟨i,_,_,rfl⟩:=yH c;(cases b:oM w (gd w.ac (r:Int).toNat)<;>rw[b] at a);(cases a);simp at a;omega
theorem aEp{w:am}{c u:Int}:(mR w c u).Nodup:=by unfold mR iH;rw[xl];refine⟨wC (λa b h=>by omega) Qw,Qw,λx f y g e=>?_⟩;obtain⟨t,d,rfl⟩:=dN.1 f;obtain⟨i,_,_,rfl⟩:=yH d;obtain⟨j,_,_,rfl⟩:=yH g;omega
theorem aEm{w:am}:(cw w).Nodup:=by have o:(lr (L w.ac) (L w.ac)).Nodup:=(by refine Ec (λa=>?_) λa c l x b d=>?_;exact wC (λi j h=>by simp only[ap.mk.injEq] at h;omega) (Cr.filter _ GM);obtain⟨i,_,rfl⟩:=dN.1 b;obtain⟨j,_,h⟩:=dN.1 d;simp only[ap.mk.injEq] at h;omega);have p:(mK (L w.ac)).Nodup:=wC (λi j h=>by simp only[ap.mk.injEq] at h;omega) GM;have q:(kh w.ac (L w.ac)).Nodup:=wC (λi j h=>by simp only[ap.mk.injEq] at h;omega) (Cr.filter _ GM);have r:(ki w (L w.ac)).Nodup:=(by refine Ec (λa=>wC (λi j h=>by simp only[ap.mk.injEq] at h;omega) aEo) λa c l x b d=>?_;obtain⟨i,_,rfl⟩:=dN.1 b;obtain⟨j,_,h⟩:=dN.1 d;simp only[ap.mk.injEq] at h;omega);have t:(jp w (L w.ac)).Nodup:=(by refine Ec (λa=>?_) λa c l x b d=>?_;unfold pR;split;exact wC (λi j h=>by simp only[ap.mk.injEq] at h;omega) aEp;simp;unfold pR at b d;split at b;split at d;obtain⟨i,_,rfl⟩:=dN.1 b;obtain⟨j,_,h⟩:=dN.1 d;simp only[ap.mk.injEq] at h;omega;(cases d);cases b);have g:∀x∈lr (L w.ac) (L w.ac),x.kind=1:=λx b=>(D5.1 b).1;have k:∀x∈mK (L w.ac),x.kind=2:=λx b=>(by obtain⟨a,_,rfl⟩:=D6.1 b;rfl);have m:∀x∈kh w.ac (L w.ac),x.kind=3:=λx b=>(by obtain⟨a,_,_,rfl⟩:=D7.1 b;rfl);have n:∀x∈ki w (L w.ac),x.kind=4:=λx b=>(by obtain⟨a,_,s,_,rfl⟩:=ant.1 b;rfl);have u:∀x∈jp w (L w.ac),x.kind=5:=λx b=>(by obtain⟨a,_,_,s,_,rfl⟩:=D8.1 b;rfl);unfold cw;rw[xl,xl,xl,xl];refine⟨⟨⟨⟨o,p,λx b y f e=>?_⟩,q,λx b y f e=>?_⟩,r,λx b y f e=>?_⟩,t,λx b y f e=>?_⟩;subst e;have:=g x b;have:=k x f;omega;subst e;have:=m x f;rcases dF.1 b with h|h;have:=g x h;omega;have:=k x h;omega;subst e;have:=n x f;simp only[dF] at b;rcases b with(h|h)|h;have:=g x h;omega;have:=k x h;omega;have:=m x h;omega;subst e;have:=u x f;simp only[dF] at b;rcases b with((h|h)|h)|h;have:=g x h;omega;have:=k x h;omega;have:=m x h;omega;have:=n x h;omega
def gZ(w:br)(lock:Int)(e:aP):Bool:=Q (mM w lock e=lock)
def im(E:aP->Bool)(l:List aP)(x:bp)(i:Nat):Bool:=Q (x.dD<i)&&(Q ((gd l i).aq=x.aq)&&E (gd l i))
def fT(E:aP->Bool)(l:List aP)(x:bp):Nat->Int|0=> -1|k+1=>bif Q (fT E l x k<0)&&im E l x k then k else fT E l x k
def gk(E:aP->Bool)(l:List aP)(k:Nat)(x:bp):bp:={x with dY:=fT E l x k}
theorem El{E:aP->Bool}{l:List aP}{x:bp}:∀{k:Nat},(∀i,i<k->im E l x i=I)->fT E l x k= -1
 |0,_=>rfl
 |k+1,h=>by
  rw[fT,h k (by omega),qc,cond_false,El λi a=>h i (by omega)]
theorem aob{E:aP->Bool}{l:List aP}{x:bp}{i:Nat}(h:∀j,j<i->im E l x j=I)(b:im E l x i=U):∀{k:Nat},i<k->fT E l x k=i
 |0,c=>by omega
 |k+1,c=>by
  rcases jj i k with a|a
  ·rw[fT,aob h b a,decide_eq_false (by omega),kM,cond_false]
  ·have:i=k:=by omega
   subst this
   rw[fT,El h,b];rfl
theorem an9{E:aP->Bool}{l:List aP}{x:bp}:∀{k:Nat},fT E l x k= -1\/∃i:Nat,i<k/\im E l x i=U/\fT E l x k=i
 |0=> .inl rfl
 |k+1=>by
  rw[fT]
  cases a:(Q (fT E l x k<0)&&im E l x k) with
  |true=>
   rw[bN] at a
   exact .inr ⟨k,by omega,a.2,rfl⟩
  |false=>
   rw[cond_false]
   rcases an9 (E:=E) (l:=l) (x:=x) (k:=k) with h|⟨i,d,b,c⟩
   ·exact .inl h
   ·exact .inr ⟨i,by omega,b,c⟩
def oF(w:br)(lock:Int)(l:List aP)(k:Nat):List bp:=(aH k).flatMap λi=>oY w lock (gd l i) i
def nu(w:br)(s:aW)(lock:Int):List bp:=(aH (L s.ay)).flatMap (ll w s lock)
theorem zL{w:br}{lock:Int}{l:List aP}{k:Nat}{x:bp}(h:x∈oF w lock l k):∃i:Nat,i<k/\lK w lock (gd l i)=lock/\x=⟨(gd l i).aq,i,-1,(dD w (gd l i)).2⟩:=by obtain⟨i,b,a⟩:=iI.1 h;unfold oY at a;split at a;exact⟨i,fq.1 b,by assumption,by simpa using a⟩;cases a
theorem uu{w:br}{s:aW}{lock:Int}{x:bp}(h:x∈nu w s lock):∃u:Nat,u<L s.ay/\x.aq=u/\x.dD= -1/\x.dY= -1/\(if lock=L w.ak then s.tx=u/\x.read=I else if x.read=U then(u:Int)∈(gd s.ak lock.toNat).bk else(gd s.ak lock.toNat).dv=u):=by obtain⟨u,f,a⟩:=iI.1 h;refine⟨u,fq.1 f,?_⟩;unfold ll at a;by_cases b:lock=L w.ak;rw[if_pos b] at a;rw[if_pos b];by_cases d:s.tx=u;rw[if_pos d] at a;obtain rfl:=cE.1 a;exact⟨rfl,rfl,rfl,d,rfl⟩;rw[if_neg d] at a;cases a;rw[if_neg b] at a;rw[if_neg b];rcases dF.1 a with a|a;unfold pJ at a;by_cases c:(gd s.ak lock.toNat).dv=u;rw[if_pos c] at a;obtain rfl:=cE.1 a;exact⟨rfl,rfl,rfl,by simpa using c⟩;rw[if_neg c] at a;cases a;unfold pK at a;obtain⟨y,g,rfl⟩:=dN.1 a;have:=jW.1 g;have e:y=(u:Int):=(by simpa using this.2);subst e;exact⟨rfl,rfl,rfl,by simpa using List.mem_of_mem_take this.1⟩
theorem aos{w:br}{s:aW}{l:List aP}{lock:Int}:∀{k:Nat},dZ w s l lock k=(nu w s lock++oF w lock l k).map (gk (gZ w lock) l k)
 |0=>by
  simp only[dZ,oF,List.range_zero,List.flatMap_nil,cL]
  refine(zr _).symm.trans (ja λx a=>?_)
  obtain⟨u,n,b,c,d,_⟩:=uu a
  cases x
  simp only at d
  subst d
  rfl
 |k+1=>by
  rw[dZ,aos]
  have h:∀x∈nu w s lock++oF w lock l k,x.dD<(k:Int):=by
   intro x a
   rcases dF.1 a with a|a
   ·obtain⟨u,n,b,c,d,_⟩:=uu a;omega
   ·obtain⟨i,m,_,rfl⟩:=zL a
    simp only;omega
  have j:oF w lock l (k+1)=oF w lock l k++oY w lock (gd l k) k:=cr
  rw[j,<-cC]
  conv=>rhs;rw[dg]
  congr 1
  ·unfold tv
   by_cases e:mM w lock (gd l k)=lock
   ·rw[if_pos e,vA]
    refine ja λx a=>?_
    have:=h x a
    have g:fT (gZ w lock) l x (k+1)=bif Q (fT (gZ w lock) l x k<0)&&im (gZ w lock) l x k then(k:Int) else fT (gZ w lock) l x k:=rfl
    by_cases b:x.aq=(gd l k).aq/\fT (gZ w lock) l x k<0
    ·have c:ma (gd l k).aq k (gk (gZ w lock) l k x)={gk (gZ w lock) l k x with dY:=k}:=if_pos b
     rw[RC,c,gk,gk,g,decide_eq_true b.2,show im (gZ w lock) l x k=U by simp[im,gZ,this,b.1,e]];rfl
    ·have c:ma (gd l k).aq k (gk (gZ w lock) l k x)=gk (gZ w lock) l k x:=if_neg b
     have d:(Q (fT (gZ w lock) l x k<0)&&im (gZ w lock) l x k)=I:=by
      cases f:(Q (fT (gZ w lock) l x k<0)&&im (gZ w lock) l x k) with
      |false=>rfl
      |true=>
       simp only[im,bN,decide_eq_true_eq] at f
       exact absurd ⟨f.2.2.1.symm,f.1⟩ b
     rw[RC,c,gk,gk,g,d];rfl
   ·rw[if_neg e]
    refine ja λx a=>?_
    simp only[gk]
    rw[fT,show im (gZ w lock) l x k=I by simp[im,gZ,e],qc,cond_false]
  ·refine(zr _).symm.trans (ja λx a=>?_)
   unfold oY at a
   split at a
   ·obtain rfl:=cE.1 a
    simp only[gk,id]
    rw[El]
    intro i m
    simp only[im,pk,decide_eq_false_iff_not]
    exact .inl (by omega)
   ·cases a
theorem Q5{w:br}{s:aW}{l:List aP}{lock:Int}:jE w s l lock=(nu w s lock++oF w lock l (L l)).map (gk (gZ w lock) l (L l)):=aos
def xo(w:br)(Lw:Int)(s:aW)(x:bp):Prop:=
 if Lw=L w.ak then s.tx=x.aq/\x.read=I else if x.read=U then x.aq∈(cH s Lw).bk else(cH s Lw).dv=x.aq
theorem alS{w:br}{s:aW}{t a obj:Int}(h:jm w s t a obj=U):lc w s t a obj=U/\named w a obj=U/\aF (L w.ay) t/\lh w s=U:=by simp only[jm,bN] at h;exact⟨h.2.2.2,h.2.2.1,dX.1 h.2.1,h.1⟩
theorem aDe{s:aW}{Lw:Int}{a:cg}(h:aF (L s.ak) Lw):cH (setLk s Lw a) Lw=a:=Af h
theorem aDf{s:aW}{i Lw:Int}{a:cg}(b:0<=i)(c:0<=Lw)(h:i≠Lw):cH (setLk s i a) Lw=cH s Lw:=by have:i.toNat≠Lw.toNat:=(by omega);unfold cH setLk gd;simp only[eI];rw[List.getElem?_set_ne this]
theorem aFa{l:List Int}{t x:Int}(h:x∈l\/x=t):x∈fk l t:=by induction l with|nil=>rcases h with h|h;(cases h);simp[fk,h]|cons y l a=>simp only[fk];split;rcases h with h|h;rcases eW.1 h with h|h;simp[h];exact eW.2 (.inr (a (.inl h)));exact eW.2 (.inr (a (.inr h)));split;rcases h with h|h;exact h;rename_i b;rw[h];simp_all;rcases h with h|h;exact eW.2 (.inr h);simp[h]
theorem Qk{s:aW}{i:Int}{t:bF}{Lw:Int}:cH (setTh s i t) Lw=cH s Lw:=rfl
theorem ane{Lw:Int}:∀{l:List Int} {s:aW},cH (l.foldl (λs u=>Ab.setTh s u {fA s u with cQ:=4}) s) Lw=cH s Lw|[],_=>rfl|u::l,s=>(ane (l:=l)).trans Qk
theorem apE:∀{l:List Int} {s:aW},(l.foldl (λs u=>Ab.setTh s u {fA s u with cQ:=4}) s).tx=s.tx|[],_=>rfl|u::l,s=>(apE (l:=l)).trans rfl
theorem aIL{w:br}{s:aW}{t a obj wake:Int}(p:a≠12)(q:a≠13):(cU w s t a obj wake).1.tx=s.tx:=by unfold cU;rw[if_neg p,if_neg q];by_cases j:a=1;rw[if_pos j];rfl;rw[if_neg j];by_cases k:a=2;rw[if_pos k];rfl;rw[if_neg k];by_cases l:a=6\/a=10;rw[if_pos l];rfl;rw[if_neg l];by_cases m:a=7\/a=11;rw[if_pos m];rfl;rw[if_neg m];by_cases n:a=8;rw[if_pos n];rfl;rw[if_neg n];by_cases o:a=9;rw[if_pos o];rfl;rw[if_neg o];by_cases b:a=14;rw[if_pos b];rfl;rw[if_neg b];by_cases c:a=15;rw[if_pos c];rfl;rw[if_neg c];by_cases d:a=16;rw[if_pos d];rfl;rw[if_neg d];by_cases e:a=17;rw[if_pos e];rfl;rw[if_neg e];by_cases f:a=18;rw[if_pos f];split<;>rfl;rw[if_neg f];by_cases g:a=19;rw[if_pos g];exact apE;rw[if_neg g];by_cases h:a=20;rw[if_pos h];rfl;rw[if_neg h];by_cases i:a=22;rw[if_pos i];rw[if_neg i]
theorem aDg{w:br}{s:aW}{t a obj wake Lw:Int}(h:¬(6<=a/\a<=11))(b:a≠16)(c:a≠17):cH (cU w s t a obj wake).1 Lw=cH s Lw:=by unfold cU;rw[if_neg (show¬(a=6\/a=10) by omega),if_neg (show¬(a=7\/a=11) by omega),if_neg (show¬(a=8) by omega),if_neg (show¬(a=9) by omega),if_neg b,if_neg c];(repeat' split);all_goals first|rfl|exact ane
theorem yu{w:br}{s:aW}{i Lw:Int}{a:cg}{x:bp}(d:0<=i)(b:aF (L s.ak) Lw)(e:if x.read=U then x.aq∈(cH s Lw).bk else(cH s Lw).dv=x.aq)(h:i=Lw->if x.read=U then x.aq∈a.bk else a.dv=x.aq):if x.read=U then x.aq∈(cH (setLk s i a) Lw).bk else(cH (setLk s i a) Lw).dv=x.aq:=by by_cases c:i=Lw;subst c;rw[aDe b];exact h rfl;rw[aDf d b.1 c];exact e
theorem aEW{w:br}{s:aW}{e:aP}{wake Lw:Int}{x:bp}(F:jm w s e.aq e.kind e.obj=U)(H:0<=Lw/\Lw<=L w.ak)(M:∀l∈s.ak,jC l.bk)(R:0<=x.aq)(a:xo w Lw s x)(u:¬(x.aq=e.aq/\mM w Lw e=Lw)):xo w Lw (cU w s e.aq e.kind e.obj wake).1 x:=by
 obtain⟨f,j,P,K⟩:=alS F
 obtain⟨G,fl,O,N⟩:=iY K
 unfold xo at a⊢
 by_cases t:Lw=L w.ak
 ·rw[if_pos t] at a⊢
  refine⟨?_,a.2⟩
  have m:mM w Lw e=bif Q (e.kind=13) then Lw else-1:=by rw[mM,decide_eq_true t];rfl
  by_cases z:e.kind=12
  ·simp[lc,z] at f
   omega
  by_cases q:e.kind=13
  ·simp[lc,q] at f
   exact absurd ⟨by omega,by rw[m];simp[q]⟩ u
  rw[aIL z q];exact a.1
 ·rw[if_neg t] at a⊢
  have C:aF (L w.ak) Lw:=⟨H.1,by omega⟩
  have g:aF (L s.ak) Lw:=by rw[fl];exact C
  have m:mM w Lw e=(dY w e).1:=by rw[mM,decide_eq_false t];rfl
  have p:∀{c:Int},aF (L w.bC) c->0<=(gd w.bC c.toNat).eg/\sd w c=(gd w.bC c.toNat).eg:=λ{c} D=>⟨(G _ (ii D)).1,by rw[sd,dX.2 D];rfl⟩
  by_cases E:e.kind=6\/e.kind=10
  ·have d:=mJ j (by omega) (by omega)
   have A:(gd s.ak e.obj.toNat).dv= -1:=by
    rcases E with k|k<;>simp[lc,k] at f<;>simp[f]
   rw[show(cU w s e.aq e.kind e.obj wake).1=setLk s e.obj {cH s e.obj with dv:=e.aq} from by
    unfold cU;rw[if_neg (by omega),if_neg (by omega),if_pos E]]
   refine yu (w:=w) d.1 g a λi=>?_
   subst i
   split
   ·rename_i b;rw[if_pos b] at a;exact a
   ·rename_i b;rw[if_neg b] at a;rw[cH] at a;omega
  by_cases B:e.kind=7\/e.kind=11
  ·have d:=mJ j (by omega) (by omega)
   have A:(gd s.ak e.obj.toNat).dv=e.aq:=by
    rcases B with k|k<;>simp[lc,k] at f<;>simp[f]
   rw[show(cU w s e.aq e.kind e.obj wake).1=setLk s e.obj {cH s e.obj with dv:= -1} from by
    unfold cU;rw[if_neg (by omega),if_neg (by omega),if_neg (by omega),if_pos B]]
   refine yu (w:=w) d.1 g a λi=>?_
   have n:(dY w e).1=e.obj:=by rcases B with k|k<;>simp[dY,k]
   subst i
   split
   ·rename_i b;rw[if_pos b] at a;exact a
   ·rename_i b;rw[if_neg b] at a;rw[cH] at a
    exact absurd ⟨by omega,by rw[m,n]⟩ u
  by_cases v:e.kind=8
  ·have d:=mJ j (by omega) (by omega)
   rw[show(cU w s e.aq e.kind e.obj wake).1=setLk s e.obj {cH s e.obj with bk:=mP (cH s e.obj).bk [e.aq]} from by
    unfold cU;rw[if_neg (by omega),if_neg (by omega),if_neg (by omega),if_neg (by omega),if_pos v]]
   refine yu (w:=w) d.1 g a λi=>?_
   subst i
   split
   ·rename_i b;rw[if_pos b] at a
    simp only
    rw[show mP (cH s e.obj).bk [e.aq]=fk (cH s e.obj).bk e.aq from Ro (M _ (ii g))]
    exact aFa (.inl a)
   ·rename_i b;rw[if_neg b] at a;exact a
  by_cases y:e.kind=9
  ·have d:=mJ j (by omega) (by omega)
   rw[show(cU w s e.aq e.kind e.obj wake).1=setLk s e.obj {cH s e.obj with bk:=fJ (cH s e.obj).bk e.aq} from by
    unfold cU;rw[if_neg (by omega),if_neg (by omega),if_neg (by omega),if_neg (by omega),if_neg v,if_pos y]]
   refine yu (w:=w) d.1 g a λi=>?_
   have n:(dY w e).1=e.obj:=by simp[dY,y]
   subst i
   split
   ·rename_i b;rw[if_pos b] at a
    simp only
    refine jW.2 ⟨a,decide_eq_true λh=>u ⟨h,by rw[m,n]⟩⟩
   ·rename_i b;rw[if_neg b] at a;exact a
  by_cases o:e.kind=16
  ·have d:=oT j (by omega) (by omega)
   have A:(gd s.ak (gd w.bC e.obj.toNat).eg.toNat).dv=e.aq:=by
    simp[lc,o] at f;simp[f]
   rw[show(cU w s e.aq e.kind e.obj wake).1=setTh (setLk s (gd w.bC e.obj.toNat).eg {cH s (gd w.bC e.obj.toNat).eg with dv:= -1}) e.aq {fA s e.aq with cQ:=3,cond:=e.obj} from by
    unfold cU;rw[if_neg (by omega),if_neg (by omega),if_neg (by omega),if_neg (by omega),if_neg v,if_neg y,if_neg (by omega),if_neg (by omega),if_neg (by omega),if_neg (by omega),if_pos o]]
   rw[Qk]
   refine yu (w:=w) (p d).1 g a λi=>?_
   have n:(dY w e).1=(gd w.bC e.obj.toNat).eg:=by simp[dY,o,(p d).2]
   subst i
   split
   ·rename_i b;rw[if_pos b] at a;exact a
   ·rename_i b;rw[if_neg b] at a;rw[cH] at a
    exact absurd ⟨by omega,by rw[m,n]⟩ u
  by_cases r:e.kind=17
  ·have d:=oT j (by omega) (by omega)
   have A:(gd s.ak (gd w.bC e.obj.toNat).eg.toNat).dv= -1:=by
    simp[lc,r] at f;simp[f]
   rw[show(cU w s e.aq e.kind e.obj wake).1=setTh (setLk s (gd w.bC e.obj.toNat).eg {cH s (gd w.bC e.obj.toNat).eg with dv:=e.aq}) e.aq {fA s e.aq with cQ:=2,cond:=0} from by
    unfold cU;rw[if_neg (by omega),if_neg (by omega),if_neg (by omega),if_neg (by omega),if_neg v,if_neg y,if_neg (by omega),if_neg (by omega),if_neg (by omega),if_neg (by omega),if_neg o,if_pos r]]
   rw[Qk]
   refine yu (w:=w) (p d).1 g a λi=>?_
   subst i
   split
   ·rename_i b;rw[if_pos b] at a;exact a
   ·rename_i b;rw[if_neg b] at a;rw[cH] at a;omega
  rw[aDg (by omega) o r];exact a
theorem asn{w:br}{s:aW}{e:aP}{Lw:Int}{p:bp}(y:jm w s e.aq e.kind e.obj=U)(D:0<=Lw/\Lw<=L w.ak)(E:0<=p.aq)(b:xo w Lw s p)(f:lK w Lw e=Lw)(u:¬(p.read=U/\(dD w e).2=U))(v:Lw≠L w.ak->p.read=U->(gd w.ak Lw.toNat).rw=U)(t:∀j,j<L w.bC->uh w j=I):False:=by obtain⟨a,c,F,z⟩:=alS y;obtain⟨B,fl,C,A⟩:=iY z;unfold xo at b;by_cases h:Lw=L w.ak;rw[if_pos h] at b;rw[lK,decide_eq_true h,cond_true] at f;by_cases n:e.kind=12;simp[lc,n] at a;omega;rw[decide_eq_false n,cond_false] at f;omega;rw[if_neg h] at b;rw[lK,decide_eq_false h,cond_false] at f;have x:=v h;by_cases q:e.kind=6\/e.kind=10;have d:=mJ c (by omega) (by omega);have r:(gd s.ak e.obj.toNat).dv= -1:=(by rcases q with k|k<;>simp[lc,k] at a<;>simp[a]);have g:e.obj=Lw:=(by rw[<-f];rcases q with k|k<;>simp[dD,k]);subst g;split at b;rename_i i;rcases q with k|k;simp[named,k] at c;rw[x i] at c;simp at c;simp[lc,k] at a;rw[cH,a.2.2] at b;cases b;rw[cH] at b;omega;by_cases m:e.kind=8;have r:(gd s.ak e.obj.toNat).dv= -1:=(by simp[lc,m] at a;simp[a]);have g:e.obj=Lw:=(by rw[<-f];simp[dD,m]);subst g;split at b;rename_i i;exact u ⟨i,by simp[dD,m]⟩;rw[cH] at b;omega;by_cases l:e.kind=17;have d:=oT c (by omega) (by omega);have r:(gd s.ak (gd w.bC e.obj.toNat).eg.toNat).dv= -1:=(by simp[lc,l] at a;simp[a]);have g:(gd w.bC e.obj.toNat).eg=Lw:=(by rw[<-f];simp[dD,l,sd,dX.2 d]);subst g;split at b;rename_i i;have o:=t e.obj.toNat (by have:=d.1;have:=d.2;omega);simp only[uh,cP] at o;rw[x i] at o;cases o.2;rw[cH] at b;omega;have:(dD w e).1= -1:=(by rw[dD,decide_eq_false (show e.kind≠6 by omega),decide_eq_false (show e.kind≠10 by omega),decide_eq_false m,decide_eq_false l];rfl);omega
theorem QP{E:aP->Bool}{l:List aP}{x:bp}{m:Nat}:∀{n:Nat},m<=n->fT E l x n<0->fT E l x m<0
 |0,h,a=>by rw[Nat.le_zero.1 h];exact a
 |n+1,h,a=>by
  rcases jj n m with b|b
  ·rw[show m=n+1 by omega];exact a
  ·refine QP b ?_
   rw[fT] at a
   cases c:(Q (fT E l x n<0)&&im E l x n) with
   |true=>rw[c,cond_true] at a;omega
   |false=>rw[c] at a;exact a
theorem axy{w:br}(h:mQ w=U):∀j,j<L w.bC->uh w j=I:=by simp only[mQ,bN] at h;obtain⟨_,h⟩:=h;split at h;(cases h);simp only[bN,decide_eq_true_eq] at h;exact h.2.1
theorem amB{w:am}(h:vL w){Lw:Int}(g:0<=Lw/\Lw<=L w.aQ.ak){y:bp}(e:y∈nu w.aQ w.init.sync Lw):∀{k:Nat},k<=L w.ac->fT (gZ w.aQ Lw) w.ac y k<0->xo w.aQ Lw (cY w k).sync y
 |0,_,_=>by
  obtain⟨u,o,f,j,m,c⟩:=uu e
  rw[<-f] at c
  exact c
 |k+1,p,d=>by
  obtain⟨u,o,f,j,m,c⟩:=uu e
  have b:=QP (show k<=k+1 by omega) d
  have a:im (gZ w.aQ Lw) w.ac y k=I:=by
   cases hs:im (gZ w.aQ Lw) w.ac y k with
   |false=>rfl
   |true=>rw[fT,hs,decide_eq_true b] at d;simp only[Bool.and_true,cond_true] at d;omega
  rw[aoF h (by omega)]
  refine aEW (Kk h (by omega)).1 g (λl n=>(h.sy k (by omega)|>.rd l n).1) (by omega) (amB h g e (by omega) b) λi=>?_
  simp only[im,pk,decide_eq_false_iff_not,gZ] at a
  rcases a with a|a|a
  ·omega
  ·exact a i.1.symm
  ·exact a i.2
theorem Bx{w:am}(h:gf w=U):(∀j,j<L w.init.sync.ak->uD w j)/\yS w=I/\mQ w.aQ=U/\lh w.aQ w.init.sync=U/\L w.init.count=L w.aQ.ay:=by have c:=(ri h).1;simp only[oh,cP,fK,decide_eq_false_iff_not] at c;obtain⟨⟨⟨⟨⟨d,b⟩,e⟩,f⟩,g⟩,a⟩:=c;simp only[ny,bN,decide_eq_true_eq,eH] at a;simp only[fN,bN,decide_eq_true_eq] at b;exact⟨a.1,a.2.1,d,b.1,by simp_all⟩
theorem amr{l:List bp}{f:bp->bp}{i:Nat}(h:i<L l):gd (l.map f) i=f (gd l i):=by rw[bT (by simpa using h),bT h,xi]
theorem amq{A B:List bp}{i:Nat}(h:i<L (A++B)):(i<L A/\gd (A++B) i∈A)\/(L A<=i/\gd (A++B) i∈B):=by rw[bT h];rcases jj i (L A) with a|a;rw[List.getElem_append_left a];exact .inl ⟨a,qj _⟩;rw[List.getElem_append_right a];exact .inr ⟨a,qj _⟩
theorem anV{w:am}(hf:hU w)(S:gf w=U){Lw:Int}(H:0<=Lw/\Lw<=L w.aQ.ak):∀i j,i<j->j<L (jE w.aQ w.init.sync w.ac Lw)->(gd (jE w.aQ w.init.sync w.ac Lw) i).aq≠(gd (jE w.aQ w.init.sync w.ac Lw) j).aq->¬((gd (jE w.aQ w.init.sync w.ac Lw) i).read=U/\(gd (jE w.aQ w.init.sync w.ac Lw) j).read=U)->Sd (L w.ac) (gd (jE w.aQ w.init.sync w.ac Lw) i) (gd (jE w.aQ w.init.sync w.ac Lw) j):=by have K:=vd hf S;obtain⟨O,ar,T,N,an⟩:=Bx S;obtain⟨fc,fl,fd,ag⟩:=iY N;rw[Q5];intro i j ao z;simp only[bJ] at z;rw[amr (show i<_ by omega),amr z];have ci:=amq (show i<L (nu w.aQ w.init.sync Lw++oF w.aQ Lw w.ac (L w.ac)) by omega);have d:=amq z;generalize gd (nu w.aQ w.init.sync Lw++oF w.aQ Lw w.ac (L w.ac)) i=p at ci⊢;generalize gd (nu w.aQ w.init.sync Lw++oF w.aQ Lw w.ac (L w.ac)) j=q at d⊢;simp only[gk];intro g r;have c:∀y:bp,0<=fT (gZ w.aQ Lw) w.ac y (L w.ac)->aF (L w.ac) (fT (gZ w.aQ Lw) w.ac y (L w.ac))/\(gd w.ac (fT (gZ w.aQ Lw) w.ac y (L w.ac)).toNat).aq=y.aq:=(by intro y f;rcases an9 (E:=gZ w.aQ Lw) (l:=w.ac) (x:=y) (k:=L w.ac) with h|⟨a,v,hs,Z⟩;omega;rw[Z];simp only[im,bN,decide_eq_true_eq] at hs;exact⟨dJ v,by rw[bh];exact hs.2.1⟩);refine⟨λh=>(c p h).1,λA=>?_,λA=>?_⟩;rcases d with⟨_,d⟩|⟨_,d⟩;obtain⟨u,B,s,n,t,_⟩:=uu d;exact .inl (by simp only[n];omega);obtain⟨m,P,M,rfl⟩:=zL d;simp only at g r⊢;have C:p∈nu w.aQ w.init.sync Lw:=(by rcases ci with⟨_,ci⟩|⟨_,ci⟩;exact ci;obtain⟨m',ap,_,rfl⟩:=zL ci;simp only at A;omega);have o:0<=fT (gZ w.aQ Lw) w.ac p (L w.ac):=(by rcases Int.lt_or_le (fT (gZ w.aQ Lw) w.ac p (L w.ac)) 0 with f|f;exfalso;obtain⟨u,B,s,n,t,D⟩:=uu C;refine asn (Kk K P).1 H (by omega) (amB K H C (by omega) (QP (by omega) f)) M r (λW R=>?_) (axy T);rw[if_neg W,if_pos R] at D;have F:=(O Lw.toNat (by omega)).1;simp only[AM,cP,pk,fK,decide_eq_false_iff_not] at F;have:0<L (gd w.init.sync.ak Lw.toNat).bk:=List.length_pos_of_mem D;rcases F.2 with G|G;omega;exact G.1;exact f);obtain⟨r1,r2⟩:=c p o;refine .inr ⟨o,r1,dJ P,λe=>g ?_⟩;rw[<-r2,e,bh];simp only at A;obtain⟨a,v,ah,rfl⟩:∃a:Nat,a<L w.ac/\lK w.aQ Lw (gd w.ac a)=Lw/\p=⟨(gd w.ac a).aq,a,-1,(dD w.aQ (gd w.ac a)).2⟩:=(by rcases ci with⟨_,ci⟩|⟨_,ci⟩;obtain⟨u,B,s,n,t,_⟩:=uu ci;omega;exact zL ci);obtain⟨b,X,al,rfl⟩:∃a:Nat,a<L w.ac/\lK w.aQ Lw (gd w.ac a)=Lw/\q=⟨(gd w.ac a).aq,a,-1,(dD w.aQ (gd w.ac a)).2⟩:=(by rcases ci with⟨li,ci⟩|⟨li,ci⟩;obtain⟨u,B,s,n,t,_⟩:=uu ci;simp only at n;omega;rcases d with⟨lj,d⟩|⟨lj,d⟩;omega;exact zL d);simp only at g⊢;refine⟨dJ v,dJ X,λe=>g ?_,λf=>⟨(c _ f).1,λe=>g ?_⟩,λf=>⟨(c _ f).1,λe=>g ?_⟩⟩;rw[show a=b by omega];have:=(c _ f).2;rw[e,bh] at this;exact this.symm;have:=(c _ f).2;rw[e,bh] at this;exact this
def sJ(w:br)(lock:Int)(e:aP):Bool:=bif Q (e.kind=6)||(Q (e.kind=8)||Q (e.kind=10)) then Q (e.obj=lock) else bif Q (e.kind=17) then Q ((gd w.bC e.obj.toNat).eg=lock) else I
def sQ(w:br)(lock:Int)(e:aP):Bool:=bif Q (e.kind=7)||(Q (e.kind=9)||Q (e.kind=11)) then Q (e.obj=lock) else bif Q (e.kind=16) then Q ((gd w.bC e.obj.toNat).eg=lock) else I
def tG(x:bp):bp:={x with dY:=0}
theorem aoc{E:aP->Bool}{l:List aP}{x:bp}:∀{n:Nat},fT E l (tG x) n=fT E l x n
 |0=>rfl
 |n+1=>by simp only[fT,aoc (n:=n)];rfl
theorem aMY{E:aP->Bool}{l:List aP}{n:Nat}{x:bp}:gk E l n (tG x)=gk E l n x:=by simp only[gk,aoc];rfl
theorem aoa{E E':aP->Bool}{l:List aP}{x:bp}:∀{n:Nat},(∀i,i<n->E (gd l i)=E' (gd l i))->fT E l x n=fT E' l x n
 |0,_=>rfl
 |n+1,h=>by
  have a:=aoa (x:=x) (n:=n) λi b=>h i (by omega)
  simp only[fT,a,im,h n (by omega)]
def mq(B:aP->Bool)(l:List aP)(k:Nat):List bp:=(aH k).flatMap λi=>if B (gd l i)=U then[⟨(gd l i).aq,i,0,Q ((gd l i).kind=8)⟩] else[]
theorem aso{w:br}{e:aP}:(dD w e).2=Q (e.kind=8):=by unfold dD;by_cases c:e.kind=6;simp[c];by_cases a:e.kind=10;simp[a];by_cases d:e.kind=8;simp[d];by_cases b:e.kind=17;simp[b];simp[c,a,d,b]
theorem awn{w:br}{Lw:Int}{l:List aP}{B:aP->Bool}{k:Nat}(h:∀i,i<k->B (gd l i)=Q (lK w Lw (gd l i)=Lw)):mq B l k=(oF w Lw l k).map tG:=by unfold mq oF;rw[RT];have:∀(m:Nat),m<=k->(aH m).flatMap (λi=>if B (gd l i)=U then[(⟨(gd l i).aq,i,0,Q ((gd l i).kind=8)⟩:bp)] else[])=(aH m).flatMap λi=>(oY w Lw (gd l i) i).map tG:=(by intro m;induction m with|zero=>intro _;rfl|succ m b=>intro c;rw[cr,cr,b (by omega)];congr 1;rw[h m (by omega),oY];by_cases a:lK w Lw (gd l m)=Lw;rw[if_pos (decide_eq_true a),if_pos a,aso];rfl;rw[if_neg (by simpa using a),if_neg a];rfl);exact this k (dA _)
theorem aor{w:br}{s:aW}{l:List aP}{Lw:Int}{H:List bp}{B E:aP->Bool}(c:H=(nu w s Lw).map tG)(a:∀i,i<L l->B (gd l i)=Q (lK w Lw (gd l i)=Lw))(b:∀i,i<L l->E (gd l i)=Q (mM w Lw (gd l i)=Lw)):(H++mq B l (L l)).map (gk E l (L l))=jE w s l Lw:=by rw[Q5,c,awn a,<-dg,vA];refine ja λx _=>?_;rw[RC,aMY];simp only[gk];rw[aoa (E':=gZ w Lw) λi d=>b i d]
def qH(s:aW)(lock:Int)(u j:Nat):List bp:=(((gd s.ak lock.toNat).bk.take j).filter λx:Int=>Q (x=(u:Int))).map λ_=>⟨u,-1,0,U⟩
def qG(s:aW)(lock:Int)(u:Nat):List bp:=if(gd s.ak lock.toNat).dv=u then[⟨u,-1,0,I⟩] else qH s lock u (L (gd s.ak lock.toNat).bk)
def qF(s:aW)(lock:Int)(k:Nat):List bp:=(aH k).flatMap (qG s lock)
theorem aBN{w:br}{s:aW}{lock:Int}(c:lock≠L w.ak)(h:(gd s.ak lock.toNat).dv≠-1->(gd s.ak lock.toNat).bk=[]):qF s lock (L s.ay)=(nu w s lock).map tG:=by unfold qF nu;rw[RT];have b:qG s lock=λu=>(ll w s lock u).map tG:=(by funext u;rw[qG,ll,if_neg c,pJ];by_cases a:(gd s.ak lock.toNat).dv=u;rw[if_pos a,if_pos a,pK,h (by omega)];rfl;rw[if_neg a,if_neg a,pK,qH,dW,vA];rfl);rw[b]
def sZ(s:aW):List bp:=if 0<=s.tx then[⟨s.tx,-1,0,I⟩] else[]
theorem aBP{w:br}{s:aW}(h:s.tx≠-1->aF (L s.ay) s.tx):sZ s=(nu w s (L w.ak)).map tG:=by unfold sZ nu;rw[RT];have d:∀n:Nat,(aH n).flatMap (λu=>(ll w s (L w.ak) u).map tG)=if 0<=s.tx/\s.tx<n then[⟨s.tx,-1,0,I⟩] else[]:=(by intro n;induction n with|zero=>rw[if_neg (by omega)];rfl|succ n e=>rw[cr,e,ll,if_pos rfl];by_cases a:s.tx=n;rw[if_neg (by omega),if_pos a,if_pos (by omega),a];rfl;rw[if_neg a];by_cases b:0<=s.tx/\s.tx<n;rw[if_pos b,if_pos (by omega)];rfl;rw[if_neg b,if_neg (by omega)];rfl);rw[d];by_cases c:s.tx= -1;rw[if_neg (by omega),if_neg (by omega)];have:=h c;rw[if_pos this.1,if_pos ⟨this.1,this.2⟩]
theorem awl{w:br}{Lw:Int}{e:aP}(f:aF (L w.ak) Lw)(j:named w e.kind e.obj=U):sJ w Lw e=Q (lK w Lw e=Lw):=by have i:Q (Lw=(L w.ak:Int))=I:=decide_eq_false (by have:=f.2;omega);have h:¬(-1:Int)=Lw:=(by have:=f.1;omega);rw[lK,i,cond_false,sJ,dD];by_cases c:e.kind=6;simp[c];by_cases a:e.kind=10;simp[a];by_cases d:e.kind=8;simp[d];by_cases b:e.kind=17;have g:=oT j (by omega) (by omega);simp[b,sd,dX.2 g];simp[c,a,d,b,h]
theorem axI{w:br}{Lw:Int}{e:aP}(f:aF (L w.ak) Lw)(j:named w e.kind e.obj=U):sQ w Lw e=Q (mM w Lw e=Lw):=by have i:Q (Lw=(L w.ak:Int))=I:=decide_eq_false (by have:=f.2;omega);have h:¬(-1:Int)=Lw:=(by have:=f.1;omega);rw[mM,i,cond_false,sQ,dY];by_cases c:e.kind=7;simp[c];by_cases a:e.kind=11;simp[a];by_cases d:e.kind=9;simp[d];by_cases b:e.kind=16;have g:=oT j (by omega) (by omega);simp[b,sd,dX.2 g];simp[c,a,d,b,h]
theorem awm{w:br}{e:aP}:Q (e.kind=12)=Q (lK w (L w.ak) e=L w.ak):=by rw[lK,decide_eq_true rfl,cond_true];by_cases h:e.kind=12;simp[h];have:¬(-1:Int)=L w.ak:=(by omega);simp[h,this]
theorem axJ{w:br}{e:aP}:Q (e.kind=13)=Q (mM w (L w.ak) e=L w.ak):=by rw[mM,decide_eq_true rfl,cond_true];by_cases h:e.kind=13;simp[h];have:¬(-1:Int)=L w.ak:=(by omega);simp[h,this]
section
variable{Y:ae}
theorem aDT(g:L Y=4096)(e:aP):∃r b,(r=bv (Q (e.kind=12))/\Fx Y b [])/\cZ aS GG xS [.a e.c] Y r b:=by refine aKw g rfl λj k d h i f=>?_;simp only[HQ,u0,u1,f,rk,aj,bz,ew,↓uL];exact⟨trivial,d.fx []⟩
theorem aDU(g:L Y=4096)(e:aP):∃r b,(r=bv (Q (e.kind=13))/\Fx Y b [])/\cZ aS GG xT [.a e.c] Y r b:=by refine aKx g rfl λj k d h i f=>?_;simp only[HR,u0,u1,f,rk,aj,bz,ew,↓uL];exact⟨trivial,d.fx []⟩
theorem aDE{b:Id}{w:am}{ns:List ap}{t:List (List Int)}{n M a:AV}{z A s m:Id}{f:Nat->AV}{t1 K:TypeId}{o1 F:Bool}(C:bD Y b w ns t n M a z A f){lock:Int}(E:box Y s=V ⟨t1,1,o1,U,[[iv lock]]⟩)(B:box Y m=V ⟨K,1,F,U,[[.p b 0 0]]⟩)(e:aP)(D:e.kind=17->aF (L w.aQ.bC) e.obj):∃r l,(r=bv (sJ w.aQ lock e)/\Fx Y l [])/\cZ aS GG xO [.a e.c, .p s 0 0, .p m 0 0] Y r l:=by refine aKj C.le rfl λH P v N O y=>?_;have d:Fx Y H []:=v.fx [];have u:=C.fx d;have k:=u.bx;have q:=d.kq E;have o:=d.kq B;have G:∀{x:AV},aN J [x]=V x:=λ{x}=>rfl;simp+contextual only[Hq,f8,VZ,VY,aI,au,u0,u1,y,q,o,dy k,k,eT,G,rk,ix,ip,aj,bz,ew,sr,eE,false_implies,true_implies,and_true,↓uL];exact⟨λi=>⟨by simp only[sJ,i];rfl,d⟩,λi=>⟨λj=>⟨by simp only[sJ,i,j];rfl,d⟩,λj=>⟨λg=>⟨by simp only[sJ,i,j,g];rfl,d⟩,λg=>⟨λh=>⟨D (of_decide_eq_true h),by simp only[sJ,i,j,g,h];rfl,d⟩,λh=>⟨by simp only[sJ,i,j,g,h];rfl,d⟩⟩⟩⟩⟩
theorem aDF{b:Id}{w:am}{ns:List ap}{t:List (List Int)}{n M a:AV}{z A s m:Id}{f:Nat->AV}{t1 K:TypeId}{o1 F:Bool}(C:bD Y b w ns t n M a z A f){lock:Int}(E:box Y s=V ⟨t1,1,o1,U,[[iv lock]]⟩)(B:box Y m=V ⟨K,1,F,U,[[.p b 0 0]]⟩)(e:aP)(D:e.kind=16->aF (L w.aQ.bC) e.obj):∃r l,(r=bv (sQ w.aQ lock e)/\Fx Y l [])/\cZ aS GG xP [.a e.c, .p s 0 0, .p m 0 0] Y r l:=by refine aKk C.le rfl λH P v N O y=>?_;have d:Fx Y H []:=v.fx [];have u:=C.fx d;have k:=u.bx;have q:=d.kq E;have o:=d.kq B;have G:∀{x:AV},aN J [x]=V x:=λ{x}=>rfl;simp+contextual only[Hr,f8,V1,V0,aI,au,u0,u1,y,q,o,dy k,k,eT,G,rk,ix,ip,aj,bz,ew,sr,eE,false_implies,true_implies,and_true,↓uL];exact⟨λi=>⟨by simp only[sQ,i];rfl,d⟩,λi=>⟨λj=>⟨by simp only[sQ,i,j];rfl,d⟩,λj=>⟨λg=>⟨by simp only[sQ,i,j,g];rfl,d⟩,λg=>⟨λh=>⟨D (of_decide_eq_true h),by simp only[sQ,i,j,g,h];rfl,d⟩,λh=>⟨by simp only[sQ,i,j,g,h];rfl,d⟩⟩⟩⟩⟩
theorem aE0{l:List aP}{t:Int}{n a i:Nat}(c:a<L (fj l t n))(k:i<gd (fj l t n) a)(f:(gd l i).aq=t):∃m,m<a/\gd (fj l t n) m=i:=by have hs:(fj l t n).Pairwise (·<·):=Cr.sublist List.filter_sublist List.pairwise_lt_range;have o:gd (fj l t n) a<n:=fq.1 (jW.1 (dB c)).1;have j:i∈fj l t n:=jW.2 ⟨fq.2 (by omega),by simpa using f⟩;obtain⟨m,b,g⟩:=RU.1 j;have e:gd (fj l t n) m=i:=(by rw[bT b];exact g);refine⟨m,?_,e⟩;rcases jj m a with h|h;exact h;rcases jj a m with d|d;have:=(List.pairwise_iff_getElem.1 hs) a m c b d;rw[<-bT c,<-bT b] at this;omega;have:m=a:=(by omega);subst this;omega
theorem aEZ{l:List aP}{t:Int}{n i:Nat}(d:i<n)(b:(gd l i).aq=t):∃m,m<L (fj l t n)/\gd (fj l t n) m=i:=by have e:i∈fj l t n:=jW.2 ⟨fq.2 d,by simpa using b⟩;obtain⟨m,a,c⟩:=RU.1 e;exact⟨m,a,by rw[bT a];exact c⟩
def ko(k:Nat):Prop:=k=20\/k=39\/k=40\/k=55
theorem bD.fxs{b:Id}{w:am}{ns:List ap}{j:List (List Int)}{n l a:AV}{e g:Id}{f:Nat->AV}{m:ae}{ks:List Id}(C:bD Y b w ns j n l a e g f)(F:Fx Y m ks)(x:∀k∈ks,ko k.1):bD m b w ns j n l a e g f:=by obtain⟨t,y⟩:=C.mp;have d:∀q:Id,¬ko q.1->q∉ks:=λq h c=>h (x q c);have o:b∉ks:=d b (by rw[C.sb];simp[ko]);have p:e∉ks:=d e (by rw[C.sm];simp[ko]);have r:g∉ks:=d g (by rw[C.so];simp[ko]);have s:∀q∈aA l,q∉ks:=λq c=>d q (by rw[C.sw q c];simp[ko]);have u:∀q∈aA a,q∉ks:=λq c=>d q (by rw[C.sa q c];simp[ko]);exact⟨F.keep _ _ o C.bx,C.nm,⟨t,F.keep _ _ p y⟩,C.gw.fx F s,C.ow.keep F r (λi v q c=>d q (by rw[C.ow.pl i v q c];simp[ko])),C.gr.fx F u,F.len.trans C.le,C.sb,C.sm,C.so,C.sw,C.sa⟩
theorem awo{B:aP->Bool}{l:List aP}:∀k,L (mq B l k)<=k:=by intro k;induction k with|zero=>simp[mq]|succ k a=>have:mq B l (k+1)=mq B l k++if B (gd l k)=U then[⟨(gd l k).aq,k,0,Q ((gd l k).kind=8)⟩] else[]:=cr;rw[this,bq];split<;>simp<;>omega
theorem awp{B:aP->Bool}{l:List aP}{k:Nat}{x:bp}(h:x∈mq B l k):∃i,i<k/\x.aq=(gd l i).aq:=by obtain⟨i,b,a⟩:=iI.1 h;split at a;obtain rfl:=cE.1 a;exact⟨i,fq.1 b,rfl⟩;cases a
theorem CZ{Y:ae}{x:bp}:aX BA 1 Y [(0, .a (bp.c x))]=V (.l ([x].map bp.c) U U,Y):=ua rfl rfl rfl (by decide) rfl (by decide)
theorem ann{b:Id}{w:am}{ns:List ap}{bY:List (List Int)}{n wk a a1 fb fe:AV}{bm bo:Id}{f:Nat->AV}{hs:List bp}{B E:aP->Bool}(C:bD Y b w ns bY n wk a bm bo f)(hw:L w.ac<=16)(cD:L hs<=80)(bV:∀i,i<L w.ac->aF (L w.aQ.ay) (gd w.ac i).aq)(bC:∀x∈hs,aF (L w.aQ.ay) x.aq)(G:bc Y 153 4 a1 (hs.map bp.c))(hp:∀k∈aA a1,ko k.1)(hB:∀e,Fx Y e (aA a1)->∀i,i<L w.ac->∀d K,K (bv (B (gd w.ac i))) e->cF fb [.a (gd w.ac i).c] e d K)(hE:∀e,Fx Y e (aA a1)->∀i,i<L w.ac->∀d K,K (bv (E (gd w.ac i))) e->cF fe [.a (gd w.ac i).c] e d K):∃r X,(bc X 153 4 r (((hs++mq B w.ac (L w.ac)).map (gk E w.ac (L w.ac))).map bp.c)/\Fx Y X (aA a1)/\(∀k∈aA r,ko k.1)/\∀k∈aA r,k∈aA a1\/bK Y k)/\cZ aS GG wg [.p b 0 0,a1,fb,fe] Y r X:=by refine aKs C.le ?_;have bx:=C.bx;have bz:∀{x y:Int} {r:Bool},bM oj [(0,1),(1,1),(2,1),(3,1)] [(0,iv x),(1,iv y),(3,bv r)]=V (.a (bp.c ⟨x,y,0,r⟩)):=rfl;simp only[HI,u0,u1,dy bx,bx,eT,aj,cT,↓uL];refine jD (α:=AV) (λa i=>[a,iv i]) 1 (L w.ac) (λk r e=>bc e 153 4 r ((hs++mq B w.ac k).map bp.c)/\Fx Y e (aA a1)/\(∀k∈aA r,ko k.1)/\∀k∈aA r,k∈aA a1\/bK Y k) (s0:=a1) ⟨by simpa[mq] using G,Fx.refl _ _,hp,λk g=> .inl g⟩ ?_;rintro k r X g ⟨g1,F1,P1,N1⟩;have bR:L X=4096:=F1.len.trans C.le;have C1:=C.fxs F1 hp;have lk:=awo (B:=B) (l:=w.ac) k;simp only[XF,au,ck,aI,u0,u1,di,XC,ix,rk,bh,↓uL];refine⟨λh=>⟨bA h,?_⟩,λh=>?_⟩;have a0:=aL h;refine cV bR λv3 Y3 F3 N3 b3=>?_;refine cy (cs:=aP.c (gd w.ac k)) b3 rfl rfl (by decide) λY4 F4 b4=>?_;have aT:box Y4 (11,v3)=V ⟨59,7,U,U,[aP.c (gd w.ac k)]⟩:=b4;have aR:Fx X Y4 []:=F3.tn F4 N3.no;have g4:=g1.fx aR (by simp);have F:=(F1.trans aR).mono (ks':=aA a1) (by simp only[cL];exactλk g=> .inl g);have bS:L Y4=4096:=F.len.trans C.le;have r7:aN (V 7) (gd w.ac k).c=V (.a (gd w.ac k).c):=rfl;have aX:∀r2 Y2,bc Y2 153 4 r2 ((hs++mq B w.ac (k+1)).map bp.c)->Fx Y Y2 (aA a1)->(∀k∈aA r2,ko k.1)->(∀k∈aA r2,k∈aA a1\/bK Y k)->HK [r,iv k] (yI (λa i=>[a,iv i]) (L w.ac) λk r e=>bc e 153 4 r ((hs++mq B w.ac k).map bp.c)/\Fx Y e (aA a1)/\(∀k∈aA r,ko k.1)/\∀k∈aA r,k∈aA a1\/bK Y k) (gM 1 (L w.ac)) X [r2] Y2:=(by intro r2 Y2 q1 q2 q3 q4;simp only[HK,au,ck,aI,u0,u1,↓uL];exact dR (mk:=λa i=>[a,iv i]) (s:=r) (s':=r2) (λ_ _=>rfl) a0 (by omega) ⟨q1,q2,q3,q4⟩);have aU:mq B w.ac (k+1)=mq B w.ac k++if B (gd w.ac k)=U then[⟨(gd w.ac k).aq,k,0,Q ((gd w.ac k).kind=8)⟩] else[]:=cr;simp only[Xz,u0,u1,aT,r7,↓uL];refine hB Y4 F k a0 _ _ ?_;simp+contextual only[au,ck,u0,u1,aT,rk,aj,bz,CZ,↓uL];refine⟨λhb=>?_,λhb=>aX r Y4 (by rw[aU,if_neg (by rw[hb];simp),cL];exact g4) F P1 N1⟩;refine gD g4 rfl (by decide) (by rw[bS];decide) nC nC (by simp only[bJ,bZ,bO,bq];omega) λr5 Y5 g5 F5 Z hd=>?_;refine aX r5 Y5 ?_ ((F.trans F5).mono λk g=>?_) (λk g=>?_) (λk g=>?_);rw[aU,if_pos hb,<-cC,dg];exact g5;rcases dF.1 g with g|g;exact .inl g;exact(N1 k g).elim .inl λh=> .inr h.no;rcases hd k g with g|g;exact P1 k g;exact .inr (.inl g);rcases Z k g with g|g;exact N1 k g;exact .inr (g.old F);have bI:k=L w.ac:=bP g (bw h);subst bI;generalize hL:hs++mq B w.ac (L w.ac)=Lw at g1;have cB:L Lw<=96:=(by rw[<-hL,bq];omega);have bu:∀x∈Lw,aF (L w.aQ.ay) x.aq:=(by intro x D;rw[<-hL] at D;rcases dF.1 D with D|D;exact bC x D;obtain⟨i,Z,v⟩:=awp D;rw[v];exact bV i Z);simp only[ke g1,bJ,u0,↓uL];refine yV (L Lw) (λj _ e=>bc e 153 4 r (((Lw.take j).map (gk E w.ac (L w.ac))++Lw.drop j).map bp.c)/\Fx Y e (aA a1)) ⟨by simpa using g1,F1⟩ ?_;rintro j _ Y5 hj ⟨g5,F5⟩;have C5:=C.fxs F5 hp;have cA:=C5.bx;simp only[XD,au,aI,u0,u1,di,↓uL];refine⟨λh5=>?_,λh5=>?_⟩;have u:=aL h5;have ab:L ((Lw.take j).map (gk E w.ac (L w.ac))++Lw.drop j)=L Lw:=(by simp;omega);obtain⟨o,rfl,ad⟩:∃o,r= .m o (L Lw)/\box Y5 o=V ⟨153,4,U,I,((Lw.take j).map (gk E w.ac (L w.ac))++Lw.drop j).map bp.c⟩:=(by rcases g5 with⟨h',_⟩|⟨o,h',bn⟩;have br:L ((Lw.take j).map (gk E w.ac (L w.ac))++Lw.drop j)=0:=(by rw[List.map_eq_nil_iff.1 h'];rfl);rw[ab] at br;omega;exact⟨o,by rw[h',bJ,ab],bn⟩);have bB:o∈aA (.m o (L Lw)):=(by simp[aA]);have D:((Lw.take j).map (gk E w.ac (L w.ac))++Lw.drop j)[j]?=V (gd Lw j):=(by rw[xf (by simp;omega)];simp only[bJ,gC,rD (GR u),tM,List.getElem?_drop,Nat.add_zero];rw[eC u,bT u]);have aG:∀y,((Lw.take j).map (gk E w.ac (L w.ac))++Lw.drop j).set j y=(Lw.take j).map (gk E w.ac (L w.ac))++y::Lw.drop (j+1):=λy=>(by rw[CD _ _ (by simp;omega)];simp only[bJ,gC,rD (GR u),tM];rw[List.drop_eq_getElem_cons u,RY]);have N:(Lw.take (j+1)).map (gk E w.ac (L w.ac))++Lw.drop (j+1)=(Lw.take j).map (gk E w.ac (L w.ac))++gk E w.ac (L w.ac) (gd Lw j)::Lw.drop (j+1):=(by rw[List.take_succ_eq_append_getElem u,dg,cC,<-bT u];rfl);have T:=bu _ (dB u);generalize cH:gd Lw j=x at D N T;generalize hM:(Lw.take j).map (gk E w.ac (L w.ac))=M at ad ab D aG N;have aC:L M=j:=(by rw[<-hM];simp;omega);have af:∀{e:ae} {rows:List (List AV)},box e o=V ⟨153,4,U,I,rows⟩->cz 4 e (.m o (L Lw)) (iv j)=V (.p o j 0):=λh=>(by simp[cz,h];omega);have H:∀{e:ae} {rows:List (List AV)} {q p:Nat},box e o=V ⟨153,4,U,I,rows⟩->iQ p e (.p o j q)=V (.p o j (q+p)):=λh=>(by simp[iQ,h]);have a3:∀{e:ae} {q:Nat} {y:bp},box e o=V ⟨153,4,U,I,(M++y::Lw.drop (j+1)).map bp.c⟩->ef J e (.p o j q)=aN J ((bp.c y).drop q):=λ{e q y} h=>(by have:((M++y::Lw.drop (j+1)).map bp.c)[j]?=V (bp.c y):=(by rw[fp,xf (by omega),aC,tM];rfl);simp only[ef,iE,h,Option.bind_some,this,Option.map_some]);have ba:∀{x:bp},aN J (bp.c x)=V (iv x.aq):=rfl;have bd:∀{x:bp},aN J ((bp.c x).drop 1)=V (iv x.dD):=rfl;simp only[XB,au,ck,u0,af ad,H ad,aj,↓uL];refine wL ad (by rw[fp,D];rfl) (by simp[bp.c]) λY6 F6 b6=>?_;rw[show(bp.c x).set 2 (iv (-1))=bp.c {x with dY:= -1} from rfl,<-vB,aG] at b6;have mn:∀{Ya Yb:ae},Fx Y Ya (aA a1)->Fx Ya Yb [o]->Fx Y Yb (aA a1):=λq1 q2=>(q1.trans q2).mono λk g=>(by rcases dF.1 g with g|g;exact .inl g;obtain rfl:=cE.1 g;exact(N1 k bB).elim .inl λh=> .inr h.no);have G6:=mn F5 F6;have C6:=C.fxs G6 hp;have aV:=C6.bx;have a2:x.aq.toNat<L w.aQ.ay:=(by have:=T.1;have:=T.2;omega);have bW:((x.aq.toNat:Nat):Int)=x.aq:=kA T.1;have aJ:∀{e:ae},Fx Y e (aA a1)->bc e 3 1 (f x.aq.toNat) ((et w.ac x.aq (L w.ac)).map ci):=λq=>(by have:=(C.fxs q hp).ow.gr _ a2;rwa [QD,bW] at this);have bU:fS Y6 (f x.aq.toNat)=V (iv (L (et w.ac x.aq (L w.ac)))):=(by rw[ke (aJ G6),bJ]);have cG:L (et w.ac x.aq (L w.ac))<=L w.ac:=(by rw[wE];exact wF);have aD:∀(y:bp) A,y=gk E w.ac (L w.ac) x->box A o=V ⟨153,4,U,I,(M++y::Lw.drop (j+1)).map bp.c⟩->Fx Y A (aA a1)->HJ [iv j] (yI (λ_ i=>[iv i]) (L Lw) λj (_:Unit) e=>bc e 153 4 (.m o (L Lw)) (((Lw.take j).map (gk E w.ac (L w.ac))++Lw.drop j).map bp.c)/\Fx Y e (aA a1)) (gM 0 (L Lw)) Y5 [] A:=(by intro y A hy h7 O;simp only[HJ,au,aI,u0,u1,↓uL];refine yU u ⟨.inr ⟨o,?_,?_⟩,O⟩;congr 1;simp;omega;rw[h7,N,hy]);simp only[XA,au,u0,u1,dy aV,aV,eT,aj,af b6,H b6,a3 b6,ip,ba,C6.ow.ix T,C6.ow.ld a2,bU,↓uL];refine yV (L (et w.ac x.aq (L w.ac))) (λt _ e=>box e o=V ⟨153,4,U,I,(M++{x with dY:= -1}::Lw.drop (j+1)).map bp.c⟩/\Fx Y e (aA a1)/\∀m,m<t->im E w.ac x (gd (fj w.ac x.aq (L w.ac)) m)=I) ⟨b6,G6,λm hm=>absurd hm (by omega)⟩ ?_;rintro t _ A bG ⟨P,O,aE⟩;have C7:=C.fxs O hp;have aW:=C7.bx;simp only[XE,au,aI,u0,u1,↓uL];refine⟨λh7=>?_,λh7=>?_⟩;have S:=aL h7;have aa:t<L (fj w.ac x.aq (L w.ac)):=(by rw[wE] at S;exact S);have bQ:gd (fj w.ac x.aq (L w.ac)) t<L w.ac/\(gd w.ac (gd (fj w.ac x.aq (L w.ac)) t)).aq=x.aq:=(by have:=jW.1 (dB aa);exact⟨fq.1 this.1,of_decide_eq_true this.2⟩);obtain⟨ag,aZ⟩:=bQ;have bL:gd (et w.ac x.aq (L w.ac)) t=((gd (fj w.ac x.aq (L w.ac)) t:Nat):Int):=(by rw[bT S,bT aa];simp[et]);rw[Dw (aJ O) (dJ S),bh,bL];generalize aY:gd (fj w.ac x.aq (L w.ac)) t=W at ag aZ;have ah:im E w.ac x W=I->(yI (λ_ i=>[iv i]) (L (et w.ac x.aq (L w.ac))) λt (_:Unit) e=>box e o=V ⟨153,4,U,I,(M++{x with dY:= -1}::Lw.drop (j+1)).map bp.c⟩/\Fx Y e (aA a1)/\∀m,m<t->im E w.ac x (gd (fj w.ac x.aq (L w.ac)) m)=I) [iv (dq.wrap ((t:Int)+1))] A/\gM 0 (L (et w.ac x.aq (L w.ac))) [iv (dq.wrap ((t:Int)+1))] A<gM 0 (L (et w.ac x.aq (L w.ac))) [iv t] A:=(by intro hs;refine yU S ⟨P,O,λm hm=>?_⟩;rcases jj m t with h8|h8;exact aE m h8;rw[show m=t by omega,aY];exact hs);simp only[u0,u1,af P,H P,a3 P,aj,bd,↓uL];rcases sq (Q (x.dD<(W:Int))) with R|R;simp only[R,u0,u1,jA,Lg,dy aW,aW,eT,aj,ix,rk,bh,↓uL];refine⟨λ_=>dJ ag,hE A O W ag _ _ ?_⟩;rcases sq (E (gd w.ac W)) with v|v;rw[v];simp only[show mL (bv U) (bv U) (bv I)=V (bv U) from rfl,u0,af P,H P,aj,↓uL];refine⟨λ_=>?_,λh=>nomatch h⟩;have be:((M++{x with dY:= -1}::Lw.drop (j+1)).map bp.c)[j]?=V (bp.c {x with dY:= -1}):=(by rw[fp,xf (by omega),aC,tM];rfl);refine wL P be (by simp[bp.c]) λY8 F8 b8=>?_;rw[show(bp.c {x with dY:= -1}).set 2 (iv W)=bp.c {x with dY:=W} from rfl,<-vB,CD _ _ (by omega),aC,tM,RY] at b8;refine aD {x with dY:=W} Y8 ?_ b8 (mn O F8);rw[gk,aob (i:=W) (λi Z=>?_) (by simp[im,of_decide_eq_true R,aZ,v]) ag];by_cases z:(gd w.ac i).aq=x.aq;obtain⟨m,hm,v⟩:=aE0 aa (by rw[aY];exact Z) z;rw[<-v];exact aE m hm;simp[im,z];rw[v];simp only[show mL (bv U) (bv I) (bv I)=V (bv I) from rfl,u0,↓uL];exact⟨λh=>(nomatch h),λ_=>ah (by simp[im,v])⟩;simp only[R,u0,u1,jN,gF,cond_false,show∀x,mL (bv I) x (bv I)=V (bv I) fromλ_=>rfl,↓uL];exact⟨λh=>(nomatch h),λ_=>ah (by simp only[im,R,kM])⟩;have bF:t=L (et w.ac x.aq (L w.ac)):=bP bG (bw h7);refine aD _ A ?_ P O;rw[gk,El];intro i Z;by_cases z:(gd w.ac i).aq=x.aq;obtain⟨m,hm,v⟩:=aEZ Z z;rw[<-v];exact aE m (by rw[bF,wE];exact hm);simp[im,z];have bH:j=L Lw:=bP hj (bw h5);rw[bH,gV,List.drop_length,cL] at g5;exact⟨g5,F5,P1,N1⟩
theorem amz{s:aW}{lock:Int}{u j:Nat}(h:j<L (gd s.ak lock.toNat).bk):qH s lock u (j+1)=qH s lock u j++if gd (gd s.ak lock.toNat).bk j=(u:Int) then[⟨u,-1,0,U⟩] else[]:=by unfold qH;rw[pH h,dg];by_cases a:gd (gd s.ak lock.toNat).bk j=(u:Int);rw[if_pos (decide_eq_true a),if_pos a];rfl;rw[if_neg (by simpa using a),if_neg a];rfl
theorem amy{s:aW}{lock:Int}{u j:Nat}:L (qH s lock u j)<=L (gd s.ak lock.toNat).bk:=by unfold qH;rw[bJ];have:=fZ (λx:Int=>Q (x=(u:Int))) ((gd s.ak lock.toNat).bk.take j);simp only[gC] at this;omega
theorem aBM{s:aW}{lock:Int}{u:Nat}:L (qG s lock u)<=L (gd s.ak lock.toNat).bk+1:=by unfold qG;split;simp;have:=amy (s:=s) (lock:=lock) (u:=u) (j:=L (gd s.ak lock.toNat).bk);omega
theorem aBO{s:aW}{lock:Int}{k:Nat}{x:bp}(h:x∈qF s lock k):aF k x.aq:=by obtain⟨u,c,a⟩:=iI.1 h;have b:=fq.1 c;have:x.aq=(u:Int):=(by unfold qG at a;split at a;obtain rfl:=cE.1 a;rfl;unfold qH at a;obtain⟨y,_,rfl⟩:=dN.1 a;rfl);rw[this];exact dJ b
theorem aDG{b:Id}{w:am}{ns:List ap}{ao:List (List Int)}{n wk a:AV}{bm bo:Id}{f:Nat->AV}(C:bD Y b w ns ao n wk a bm bo f)(hf:hU w)(hv:gf w=U){lock:Int}(N:aF (L w.aQ.ak) lock):∃r Y1,(bc Y1 153 4 r ((jE w.aQ w.init.sync w.ac lock).map bp.c)/\Fx Y Y1 []/\∀k∈aA r,bK Y k)/\cZ aS GG An [.p b 0 0,iv lock] Y r Y1:=by
 have M:=vd hf hv
 obtain⟨bj,ce,cf,bf,cb⟩:=Bx hv
 obtain⟨fc,fl,fd,a4⟩:=iY bf
 have hw:=M.wo.ev
 have aM:=M.th
 have O:aF (L w.init.sync.ak) lock:=by rw[fl];exact N
 have bd:=Bq hv 0 (mh _)
 have cd:L (gd w.init.sync.ak lock.toNat).bk<=4:=by
  have h1:=bd.rd _ (ii (l:=(cY w 0).sync.ak) (i:=lock) O)
  have:=AC h1.1 h1.2
  exact gl this aM
 refine aKi C.le rfl rfl λs4 v2 v3 K4 ch tp ci b2 b3=>?_
 have X:Fx Y s4 []:=K4.fx []
 have C4:=C.fx X
 have Z:=C4.bx
 have r1:∀{x:AV},aN J [x]=V x:=λ{x}=>rfl
 have be:∀{x y:Int},bM oj [(0,1),(1,1),(2,1),(3,1)] [(0,iv x),(1,iv y)]=V (.a (bp.c ⟨x,y,0,I⟩)):=rfl
 have aK:∀{x y:Int} {r:Bool},bM oj [(0,1),(1,1),(2,1),(3,1)] [(0,iv x),(1,iv y),(3,bv r)]=V (.a (bp.c ⟨x,y,0,r⟩)):=rfl
 simp only[Hp,u0,u1,b2,b3,r1,dy Z,Z,eT,rk,ix,aj,dc,↓uL]
 refine⟨O,?_⟩
 refine cV C4.le λv5 Y5 F5 N5 b5=>?_
 refine cy (cs:=cg.c (gd w.init.sync.ak lock.toNat)) b5 rfl rfl (by decide) λo F6 b6=>?_
 have aW:box o (5,v5)=V ⟨100,2,U,U,[cg.c (gd w.init.sync.ak lock.toNat)]⟩:=b6
 have z:Fx s4 o []:=F5.tn F6 N5.no
 have C6:=C4.fx z
 have af:=C6.bx
 have c2:=z.kq b2
 have c3:=z.kq b3
 have S:=C.sb
 simp only[V2,↓uL]
 refine dT (by obtain⟨b1,b2⟩:=b;simp only at S;subst S;simp[eL,lb,cq,cD,dC,dK,sl]) ?_
 simp only[u0,u1,c2,r1,dy af,af,eT,rk,aj,dc,cT,↓uL]
 have ah:∀k,qF w.init.sync lock (k+1)=qF w.init.sync lock k++qG w.init.sync lock k:=λk=>cr
 have bb:∀k,L (qF w.init.sync lock k)<=k*5:=λk=>eU (f:=qG w.init.sync lock) (c:=5) (λu=>by have:=aBM (s:=w.init.sync) (lock:=lock) (u:=u);omega) k
 refine jD (α:=AV) (λa i=>[a,iv i]) 1 (L w.aQ.ay) (λk a g=>bc g 153 4 a ((qF w.init.sync lock k).map bp.c)/\Fx o g []/\∀q∈aA a,bK o q/\ko q.1) (s0:= .l [] U U) ⟨bc.nil,Fx.refl _ _,by simp[aA]⟩ ?_
 rintro k a1 Y7 hk ⟨g7,D,m⟩
 have d6:=D.kq aW
 have C7:=C6.fx D
 have lk:=bb k
 simp only[V6,au,ck,aI,u0,u1,di,V4,d6,rk,aj,↓uL]
 refine⟨λh=>?_,λh=>?_⟩
 ·have bl:=aL h
  have an:∀v t,bc t 153 4 v ((qF w.init.sync lock (k+1)).map bp.c)->Fx o t []->(∀q∈aA v,bK o q/\ko q.1)->Ht [a1,iv k] (yI (λa i=>[a,iv i]) (L w.aQ.ay) λk a g=>bc g 153 4 a ((qF w.init.sync lock k).map bp.c)/\Fx o g []/\∀q∈aA a,bK o q/\ko q.1) (gM 1 (L w.aQ.ay)) Y7 [v] t:=by
   intro v t q1 q2 q3
   simp only[Ht,au,ck,aI,u0,u1,↓uL]
   exact dR (mk:=λa i=>[a,iv i]) (s:=a1) (s':=v) (λ_ _=>rfl) bl (by omega) ⟨q1,q2,q3⟩
  refine⟨λW=>?_,λW=>?_⟩
  ·simp only[be,aY,CZ,bQ,↓uL]
   refine gD g7 rfl (by decide) (by rw[C7.le];decide) nC nC (by simp only[bJ,bZ,bO];omega) λa8 t P G bg bn=>an a8 t ?_ ((D.trans G).mono (by simp only[dW];exactλq e=> .inr (m q e).1.no)) λq e=>⟨?_,?_⟩
   ·rw[ah,qG,if_pos (of_decide_eq_true W),dg];exact P
   ·exact(bg q e).elim (λh=>(m q h).1) λh=>h.old D
   ·exact(bn q e).elim (λh=>(m q h).2) λh=> .inr (.inr (.inl h))
  ·have bs:qG w.init.sync lock k=qH w.init.sync lock k (L (gd w.init.sync.ak lock.toNat).bk):=by rw[qG,if_neg (of_decide_eq_false W)]
   refine jD (α:=AV) (λa i=>[a,iv i]) 1 (L (gd w.init.sync.ak lock.toNat).bk) (λj a g=>bc g 153 4 a ((qF w.init.sync lock k++qH w.init.sync lock k j).map bp.c)/\Fx o g []/\∀q∈aA a,bK o q/\ko q.1) (s0:=a1) ⟨by simpa[qH] using g7,D,m⟩ ?_
   rintro j v t hj ⟨P,G,R⟩
   have C8:=C6.fx G
   have cc:=amy (s:=w.init.sync) (lock:=lock) (u:=k) (j:=j)
   simp only[V5,au,ck,aI,u0,u1,di,V3,ix,rk,iF,bh,↓uL]
   refine⟨λH=>⟨bA H,λhu=>?_,λhu=>?_⟩,λH=>?_⟩
   ·simp only[aK,aY,CZ,bQ,↓uL]
    refine gD P rfl (by decide) (by rw[C8.le];decide) nC nC (by simp only[bJ,bZ,bO,bq];omega) λa9 Y9 g9 F9 bi br=>?_
    simp only[Hs,au,ck,aI,u0,u1,↓uL]
    refine dR (mk:=λa i=>[a,iv i]) (s:=v) (s':=a9) (λ_ _=>rfl) (aL H) (by omega) ⟨?_,(G.trans F9).mono (by simp only[dW];exactλq e=> .inr (R q e).1.no),λq e=>⟨?_,?_⟩⟩
    ·rw[amz (aL H),if_pos (of_decide_eq_true hu),<-cC,dg];exact g9
    ·exact(bi q e).elim (λh=>(R q h).1) λh=>h.old G
    ·exact(br q e).elim (λh=>(R q h).2) λh=> .inr (.inr (.inr h))
   ·simp only[Hs,au,ck,aI,u0,u1,↓uL]
    refine dR (mk:=λa i=>[a,iv i]) (s:=v) (s':=v) (λ_ _=>rfl) (aL H) (by omega) ⟨?_,G,R⟩
    rw[amz (aL H),if_neg (of_decide_eq_false hu),cL];exact P
   ·rw[bP hj (bw H)] at P
    exact an v t (by rw[ah,bs];exact P) G R
 ·have al:k=L w.aQ.ay:=bP hk (bw h)
  have ag:=D.kq c2
  have a3:=D.kq c3
  simp only[ag,r1,aY,u0,u1,↓uL]
  have T:∀{g:ae},Fx Y7 g (aA a1)->bD g b w ns ao n wk a bm bo f/\box g (2,v2)=V ⟨72,1,U,U,[[.p b 0 0]]⟩/\box g (3,v3)=V ⟨3,1,U,U,[[iv lock]]⟩:=λF=>
   ⟨C7.fxs F λq e=>(m q e).2,F.keep _ _ (λe=>by have:=(m _ e).2;simp[ko] at this) ag,F.keep _ _ (λe=>by have:=(m _ e).2;simp[ko] at this) a3⟩
  obtain⟨r,t,⟨q1,q2,q3,q4⟩,hF⟩:=ann (Y:=Y7) (a1:=a1) (fb:= .f xO [] [.p (3,v3) 0 0, .p (2,v2) 0 0]) (fe:= .f xP [] [.p (3,v3) 0 0, .p (2,v2) 0 0]) (hs:=qF w.init.sync lock k) (B:=sJ w.aQ lock) (E:=sQ w.aQ lock) C7 hw (by omega) (λi A=>(M.wo.named A).2) (λx hx=>by rw[<-al];exact aBO hx) g7 (λq e=>(m q e).2) (λg F i A d K hK=>by
   obtain⟨C',e2,e3⟩:=T F
   simp only[cF,rn]
   rw[if_neg (show¬GG.nw xO=U by decide),if_pos (show GG.imp xO=U by decide)]
   exact lT rfl (aDE C' e3 e2 (gd w.ac i) (λa6=>oT (M.wo.named A).1 (by omega) (by omega))) hK) (λg F i A d K hK=>by
   obtain⟨C',e2,e3⟩:=T F
   simp only[cF,rn]
   rw[if_neg (show¬GG.nw xP=U by decide),if_pos (show GG.imp xP=U by decide)]
   exact lT rfl (aDF C' e3 e2 (gd w.ac i) (λa6=>oT (M.wo.named A).1 (by omega) (by omega))) hK)
  rw[aor (w:=w.aQ) (s:=w.init.sync) (Lw:=lock) ?_ (λi A=>awl N (M.wo.named A).1) (λi A=>axI N (M.wo.named A).1)] at q1
  ·refine⟨r,t,hF,q2.len,?_⟩
   rw[if_neg (show¬GG.rd wg=U by decide)]
   have ad:=X.trans (z.trans D)
   refine⟨q1,(ad.trans q2).mono λq e=>?_,λq e=>?_⟩
   ·simp only[dW] at e
    exact .inr (((m q e).1.old z).old X).no
   ·rcases q4 q e with h'|h'
    ·exact((m q h').1.old z).old X
    ·exact h'.old ad
  ·rw[al,<-a4]
   refine aBN (by have:=N.2;omega) λW=>?_
   have h5:=(bj lock.toNat (by have:=O.1;have:=O.2;omega)).1
   simp only[AM,cP,pk,fK,decide_eq_false_iff_not] at h5
   rcases h5.2 with h6|h6
   ·exact List.length_eq_zero_iff.1 (by omega)
   ·exact absurd W (by simpa using h6.2)
theorem aDS{b:Id}{w:am}{ns:List ap}{ad:List (List Int)}{n wk a:AV}{bm bo:Id}{f:Nat->AV}(C:bD Y b w ns ad n wk a bm bo f)(hf:hU w)(hv:gf w=U):∃r H,(bc H 153 4 r ((jE w.aQ w.init.sync w.ac (L w.aQ.ak)).map bp.c)/\Fx Y H []/\∀k∈aA r,bK Y k)/\cZ aS GG As [.p b 0 0] Y r H:=by
 have S:=vd hf hv
 obtain⟨aC,z,aD,X,W⟩:=Bx hv
 obtain⟨fc,fl,fd,v⟩:=iY X
 have hw:=S.wo.ev
 have m:w.init.sync.tx≠-1->aF (L w.init.sync.ay) w.init.sync.tx:=λh=>by
  simp only[yS,pk,decide_eq_false_iff_not,fK] at z
  rcases z with t|t
  ·exact absurd h t
  ·simp only[nO,bN] at t
   have:=dX.1 t.1
   rwa [W,<-v] at this
 refine aKv C.le ?_
 have M:=C.bx
 have T:∀{x y:Int},bM oj [(0,1),(1,1),(2,1),(3,1)] [(0,iv x),(1,iv y)]=V (.a (bp.c ⟨x,y,0,I⟩)):=rfl
 simp only[HP,di,↓uL]
 refine mG (λvs o=>∃a1,vs=[a1]/\bc o 153 4 a1 ((sZ w.init.sync).map bp.c)/\Fx Y o []/\∀q∈aA a1,bK Y q/\ko q.1) (λg R=>?_) ?_
 ·simp only[Yd,u0,u1,dy M,M,eT,rk,aj,dc,↓uL]
  refine⟨λh=>?_,λh=>R _ _ ⟨_,rfl,by rw[sZ,if_neg (of_decide_eq_false h)];exact bc.nil,Fx.refl _ _,by simp[aA]⟩⟩
  simp only[T,aY,CZ,bQ,↓uL]
  refine gD bc.nil rfl (by decide) (by rw[C.le];decide) (by simp) nC (by simp) λa8 P g8 F8 Z aa=>R _ _ ⟨a8,rfl,?_,F8.mono (by simp[aA]),λq j=>⟨?_,?_⟩⟩
  ·rw[sZ,if_pos (of_decide_eq_true h)];exact g8
  ·exact(Z q j).elim (by simp[aA]) id
  ·exact(aa q j).elim (by simp[aA]) λh=> .inl h
 ·rintro vs Y7 ⟨a1,rfl,g7,F,G⟩
  have A:=C.fx F
  simp only[X9,aI,au,↓uL]
  have hl:L (sZ w.init.sync)<=1:=by unfold sZ;split<;>simp
  obtain⟨r,P,⟨q1,q2,q3,q4⟩,hF⟩:=ann (Y:=Y7) (a1:=a1) (fb:= .f xS [] []) (fe:= .f xT [] []) (hs:=sZ w.init.sync) (B:=λe=>Q (e.kind=12)) (E:=λe=>Q (e.kind=13)) A hw (by omega) (λi l=>(S.wo.named l).2) (λx u=>by
   unfold sZ at u
   split at u
   ·obtain rfl:=cE.1 u
    have:=m (by omega)
    rwa [v] at this
   ·cases u) g7 (λq j=>(G q j).2) (λo D i l d K O=>by
   simp only[cF,rn]
   rw[if_neg (show¬GG.nw xS=U by decide),if_pos (show GG.imp xS=U by decide)]
   exact lT rfl (aDT (D.len.trans A.le) (gd w.ac i)) O) (λo D i l d K O=>by
   simp only[cF,rn]
   rw[if_neg (show¬GG.nw xT=U by decide),if_pos (show GG.imp xT=U by decide)]
   exact lT rfl (aDU (D.len.trans A.le) (gd w.ac i)) O)
  rw[aor (w:=w.aQ) (s:=w.init.sync) (Lw:=L w.aQ.ak) (aBP m) (λi l=>awm) (λi l=>axJ)] at q1
  refine⟨r,P,hF,q2.len,?_⟩
  rw[if_neg (show¬GG.rd wg=U by decide)]
  refine⟨q1,(F.trans q2).mono λq j=>?_,λq j=>?_⟩
  ·simp only[dW] at j
   exact .inr (G q j).1.no
  ·rcases q4 q j with N|N
   ·exact(G q N).1
   ·exact N.old F
theorem aEf{b:Id}{w:am}{ns:List ap}{g:List (List Int)}{n o a:AV}{h i:Id}{f:Nat->AV}{d:Nat}{K:be}(C:bD Y b w ns g n o a h i f)(k:hU w)(m:gf w=U){lock:Int}(e:aF (L w.aQ.ak) lock)(j:∀t,K (.l ((jE w.aQ w.init.sync w.ac lock).map bp.c) t U) Y):cB An [.p b 0 0,iv lock] Y d K:=xC rfl (aDG C k m e) j
theorem aEk{b:Id}{w:am}{ns:List ap}{e:List (List Int)}{n m a:AV}{g h:Id}{f:Nat->AV}{d:Nat}{K:be}(C:bD Y b w ns e n m a g h f)(j:hU w)(k:gf w=U)(i:∀t,K (.l ((jE w.aQ w.init.sync w.ac (L w.aQ.ak)).map bp.c) t U) Y):cB As [.p b 0 0] Y d K:=xC rfl (aDS C j k) i
theorem Q6{w:am}(j:hU w)(d:gf w=U){Lw:Int}(h:0<=Lw/\Lw<=L w.aQ.ak):L (jE w.aQ w.init.sync w.ac Lw)<=100:=by
 have b:=vd j d
 obtain⟨n,p,q,e,m⟩:=Bx d
 obtain⟨r,fl,s,k⟩:=iY e
 rw[Q5,bJ,bq]
 have a:L (nu w.aQ w.init.sync Lw)<=L w.init.sync.ay*5:=eU (f:=ll w.aQ w.init.sync Lw) (c:=5) (λu=>by
  unfold ll
  split
  ·split<;>simp
  ·have o:L (gd w.init.sync.ak Lw.toNat).bk<=4:=by
    have a:=(Bq d 0 (mh _)).rd _ (ii (l:=(cY w 0).sync.ak) (i:=Lw) (by rw[show(cY w 0).sync=w.init.sync from rfl,fl];exact⟨h.1,by omega⟩))
    exact gl (AC a.1 a.2) b.th
   have g:L (pJ w.init.sync Lw u)<=1:=by unfold pJ;split<;>simp
   have t:L (pK w.init.sync Lw u (L (gd w.init.sync.ak Lw.toNat).bk))<=L (gd w.init.sync.ak Lw.toNat).bk:=Ln
   rw[bq];omega) _
 have g:L (oF w.aQ Lw w.ac (L w.ac))<=L w.ac*1:=eU (f:=λi=>oY w.aQ Lw (gd w.ac i) i) (c:=1) (λu=>by unfold oY;split<;>simp) _
 have:=b.th
 have:=b.wo.ev
 omega
end
def apy:dO:=apx
theorem aph:eJ apy:=va
def aBq:=@aBp
def asE:=bi 16 [(5,([13],[3,12]))]
def Tq vs12(c:aG)(a:bu) s13(d:AV) s18:=aV (gt vs12 0) (iv 1) λb=>c [b] s18/\a [b] s18<a vs12 s13
def Tr t4 vs12 I12 m12 s13 t15 s16:=cB Ak [t4,t15] s16 20 (Tq vs12 I12 m12 s13)
def Ts t4 R(b:AV) s29:=cB Aj [t4] s29 33 λc a=>bz R a [t4]
def Tt t4 R(b:AV) s25:=cB DC [t4] s25 29 λc a=>cB DF [t4] a 31 (Ts t4 R)
def Tu t4 R t20 s21:=cB Ak [t4,t20] s21 25 λb a=>cB DE [t4] a 27 (Tt t4 R)
def Tw t11 t4 R I12 m12 vs12 s13:=∀_:Rg,aU (gt vs12 0) t11 λa=>ah a (cB An [t4,(gt vs12 0)] s13 19 (Tr t4 vs12 I12 m12 s13)) (cB As [t4] s13 24 (Tu t4 R))
def Tv w_1 t4 R(d:AV) s7:=aB 0 s7 w_1 λc=>ag 1 s7 c λa=>aJ s7 a λb=>lV [(iv 0)] s7 (Tw b t4 R)
def G7 w_1 s2 R:=aw 15 s2 w_1 λt3=>cB DG [t3] s2 6 λt4 a=>cB Ap [t4] a 8 (Tv w_1 t4 R)
theorem aIR{a:AV}{s0:ae}{R:be}(h:eV (ej 40 15 s0 1 a) λb c=>G7 b c R):EB Ai [a] s0 R:=zB asE aph Tryz.func30 h
theorem aJ5{d:List AV}{s0:ae}{R:be}(hs:L s0=4096)(l0:L d=15)(h:∀(b:ae) (c:Nat),Kp s0 b->(∀k,k≠1->aZ b k=aZ s0 k)->(∀x,box s0 (1,c)≠V x)->box b (1,c)=V ⟨40,15,U,U,[d]⟩->G7 (.p (1,c) 0 0) b R):EB Ai [.a d] s0 R:=by refine aIR ?_;refine iN rfl l0 (by decide) (by decide) hs λb c i g0 j e=>?_;exact h b c i (λk f=>g0 k f) (λx g=>j x ((Kp.refl _).keep _ _ g)) e
end Go.Ab
