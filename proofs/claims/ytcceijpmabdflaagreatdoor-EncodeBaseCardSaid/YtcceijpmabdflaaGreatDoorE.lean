/- Part of the proof of EncodeBase. -/
import Derived.Test.YtcceijpmabdflaaGreatDoorD
set_option linter.all false
set_option maxRecDepth 100000
open And renaming intro->ai
open Bool renaming and_eq_false_iff->bik,and_eq_true->bN,and_false->bsm,and_true->ru,eq_false_or_eq_true->sq,false->I,false_eq_true->eE,not_eq_false'->fK,not_eq_true'->eH,not_false->kN,not_true->fh,or_eq_false_iff->cP,or_eq_true->fH,true->U,true_eq_false->sr
open Decidable renaming decide->Q,not_not->aNS
open Go.IntKind renaming i64->dq
open Go.Proofs.Tryz renaming prog->aS
open Go.Value renaming bool.injEq->mV,int.injEq->mW,string.injEq->mX
open Int renaming toNat_natCast->bh,toNat_of_nonneg->kA,toNat_zero->Gx
open List renaming Pairwise->Cr,all_cons->Cs,all_eq_true->dV,all_nil->aqG,append_assoc->bje,append_nil->cL,cons.injEq->kO,cons_append->zn,drop->aOz,drop_length->Gz,drop_zero->iy,filter_append->me,filter_eq_nil_iff->RK,filter_eq_self->GA,flatMap_cons->Cz,flatMap_nil->RN,foldl_nil->aRl,getElem?_append_right->xf,getElem?_map->bj9,getElem_of_mem->ou,length->L,length_append->a6G,length_cons->bZ,length_drop->oz,length_filter_le->fZ,length_map->bJ,length_nil->aO1,length_range->bnJ,length_take->gC,map_append->dg,map_congr_left->ja,map_cons->ji,map_flatMap->RT,map_id->brw,map_map->vA,map_nil->mU,map_set->vB,mem_append->dF,mem_cons->eW,mem_filter->jW,mem_flatMap->iI,mem_iff_getElem->RU,mem_map->dN,mem_range->fq,mem_singleton->cE,nil_append->dW,nodup_append->xl,nodup_range->GM,range->aH,set_append_right->CD,set_cons_zero->RY,set_eq_take_append_cons_drop->GP,take_length->gV,take_succ_eq_append_getElem->iJ,take_zero->CE
open Nat renaming eq_zero_or_pos->oD,le_antisymm->bP,le_of_lt->aYB,le_refl->dA,le_trans->gl,lt_of_lt_of_le->bkb,lt_or_ge->jj,min_eq_left->rD,mul_le_mul->xn,mul_le_mul_right->qo,reduceAdd->dc,sub_self->tM,succ_mul->tN,zero_add->aj,zero_le->mh
open Option renaming bind_some->aQd,map_some->df,none->J,some->V,some.injEq->bE
open Prod renaming mk.injEq->iK
namespace Go.Ab
open Go Go.RowKit Go.Proofs
section
variable{Y:ae}{b:Id}{w:am}{ns:List aH8}{out:List (List Int)}{n wk a:AV}{bm bo:Id}{f:Nat->AV}{d:Nat}{K:be}
theorem slW{x:AV}{l:List aH8}{k:Nat}(m:bc Y 107 3 x<|l.map aH8.c)(z:k<L l):∃s,fo 3 Y x (V<|iv ((k+1:Nat):Int)) J J=V s/\∀Y',bc Y' 107 3 x (l.map aH8.c)->fS Y' s=V (iv<|L<|l.drop<|k+1)/\∀j,j<L (l.drop<|k+1)->∀K:cC,(rV (cz 3 Y' s<|iv j) λt=>rV (vl (V 3) Y' t) K)=K (.a<|aH8.c<|gd (l.drop<|k+1) j):=by rcases m with⟨r,_⟩|⟨q,rfl,v⟩;simp_all;have p:lM (V<|iv ((k+1:Nat):Int))=V (V<|k+1):=(by show(if 0<=((k+1:Nat):Int) then V (V ((k+1:Nat):Int).toNat) else J)=_;grind);by_cases h:k+1=L l;simp_all [fo,lM,qY,fS];refine⟨.g 2 q (k+1)<|L l-(k+1),?_,λY' i=>?_⟩;grind [fo,lM,qY];have e:box Y' q=V ⟨107,3,U,I,l.map aH8.c⟩:=(by have:=i.ids q (by simp[aA]);exact this);refine⟨?_,λj o K=>?_⟩;simp[fS,e,oz];rw[oz] at o;have u:k+1+j<L l:=(by omega);have y:gd (l.drop<|k+1) j=l[k+1+j]:=(by grind [bT]);simp_all [cz,rV,vl,iE,aN,aH8.c]
theorem aDJ(C:bD Y b w ns out n wk a bm bo f)(M:jb w ns)(Wk:sE w ns)(hw:L w.ac<=16)(ho:L out<500000000):∃r Y1,mS Y b w ns out (((aH<|L<|aR ns 5).flatMap λk=>iW ns<|gd (aR ns 5) k)++((aH<|L<|aR ns 5).flatMap (lP ns<|aR ns 5)++((aH<|L<|aR ns 5).flatMap (lQ ns w<|aR ns 5)++((aH<|L<|aR ns 5).flatMap λk=>qw ns w<|gd (aR ns 5) k)))) n wk a bm bo f r Y1/\cZ aS GG 87 [.p b 0 0] Y r Y1:=by have t:=M.ln;have b2:=Wk.ln;refine aKn C.le ?_;have bx:=C.bx;have az:∀x∈aR ns 5,x∈ns:=λx hx=>(jW.1 hx).1;have bq:=Wk.ok;have z:∀{x:aH8},aN (V 3) (aH8.c x)=V (.a<|aH8.c x):=rfl;have B1:∀k,L ((aH k).flatMap λk=>iW ns<|gd (aR ns 5) k)<=k*3:=λk=>(by have:=jo (f:=λk=>iW ns<|gd (aR ns 5) k) (m:=3) (l:=aH k) (by grind [iW]);simp_all);simp only[Hy,aPF bx,u0,u1,bx,rkC,aj,lnI C.gw,bJ,↓uL];refine yV (L<|aR ns 5) (λk _ Y'=>∃q,bD Y' b w ns (out++(aH k).flatMap λk=>iW ns<|gd (aR ns 5) k) n wk q bm bo f/\Ad Y Y' b a q) (by grind [Ad.refl]) ?_;rintro k _ Y1 hk ⟨a1,C1,A1⟩;have l1:=B1 k;simp only[qz 13,au,aI,u0,u1,↓uL];refine⟨λh=>?_,λh=>?_⟩;have o:=aL h;refine bsK (λg=>∀Y8 Z,bD Y8 b w ns (out++(aH k).flatMap (λk=>iW ns<|gd (aR ns 5) k)++iW ns (gd (aR ns 5) k)) n wk Z bm bo f->Ad Y Y8 b a Z->g [] Y8) ?_ λg af=>?_;intro Y8 Z C8 A8;simp only[qz 33,aI,au,cS,aY,↓uL];refine dR (p:=0) (mk:=λ_ i=>[iv i]) (s:=()) (s':=()) (λ_ _=>rfl) o (by omega) ⟨Z,?_,A8⟩;grind [aNG];simp only[qz 35,qy 2,au,u0,u1,↓uL];obtain⟨o1,o2,o3⟩:=bq _<|ig o;rw[qB C1.gw o];refine ic C1.le λv2 Y2 F2 N2 d2=>?_;refine cy (cs:=aH8.c<|gd (aR ns 5) k) d2 rfl rfl (by decide) λY3 F3 d3=>?_;have am:box Y3 (3,v2)=V ⟨107,3,U,U,[aH8.c<|gd (aR ns 5) k]⟩:=d3;have aO:Fx Y1 Y3 []:=(F2.trans F3).mono (by grind [bK.no]);have X:=C1.fx aO;have A3:=A1.fxn aO;have ag:((3,v2):Id)≠b:=(by grind [bD.sb]);have N:=az _<|ig o;generalize gd (aR ns 5) k=x at*;simp only[qz 4,u0,u1,am,z,↓uL];refine lq X t N ?_;simp only[qz 6,de t,aY,u0,u1,am,rk,aj,↓uL];refine gq X t (M.ex _ o1) ?_;simp only[qz 8,fi,bQ,qz 10,↓uL];refine boV X (by grind) [_,_] (by simp) λa4 O A A4=>?_;have P:=A4.keep am ag<|X.ne am<|.inl rfl;have kb:∀{p:Prop},(∀E R,b=(E,R)->E=18->p)->p:=λh=>h b.1 b.2 rfl C.sb;simp only[qz 12,↓uL];refine dT ?_ ?_;have:=C.sb;clear ag af;obtain⟨E,R⟩:=b;simp only at this;subst this;simp[eL,okT,tok,lb,cq,gz,dC,dK];simp only[u0,u1,P,rk,z,aj,↓uL];refine⟨λh0=>?_,λh0=>?_⟩;have bn:=qc h0;obtain⟨p1,p2⟩:=o3 bn;refine lq A t N ?_;simp only[qz 14,de t,aY,u0,u1,P,rk,aj,↓uL];refine gq A t (M.ex _ p1) ?_;simp only[qz 16,fi,bQ,qz 18,↓uL];refine boV A (by grind) [_,_] (by simp) λa5 T u S=>?_;have d5:=S.keep P ag<|A.ne P<|.inl rfl;simp only[qz 20,↓uL];refine dT ?_ ?_;have:=C.sb;clear ag af kb;obtain⟨E,R⟩:=b;simp only at this;subst this;simp[eL,okT,tok,lb,cq,gz,dC,dK];simp only[u0,u1,d5,z,↓uL];refine lq u t N ?_;simp only[qz 22,de t,aY,u0,u1,d5,rk,aj,↓uL];refine kg u t (M.bf _ _ p1 o1 p2) ?_;simp only[qz 24,fi,bQ,qz 26,↓uL];refine boV u (by grind) [_,_] (by simp) λa6 Y6 C6 A6=>?_;simp only[qz 28,↓uL];refine dT ?_ (af Y6 a6 ?_<|by grind [Ad.trans]);have:=C.sb;clear ag af kb;obtain⟨E,R⟩:=b;simp only at this;subst this;simp[eL,okT,tok,lb,cq,gz,dC,dK];grind [iW];refine af O a4 ?_<|A3.trans A4;grind [iW];have G:k=L (aR ns 5):=(by grind);subst G;have aQ:=C1.bx;simp only[aPF aQ,u0,u1,aQ,rkC,aj,lnI C1.gw,bJ,↓uL];generalize bY:out++(aH<|L<|aR ns 5).flatMap (λk=>iW ns<|gd (aR ns 5) k)=O1 at*;have bM:L O1<500010000:=(by grind);have B2:∀k,L ((aH k).flatMap<|lP ns<|aR ns 5)<=k*1000:=λk=>(by have:=jo (f:=lP ns<|aR ns 5) (m:=1000) (l:=aH k) λe _=>(by have h1:=jo (f:=λj=>ju ns (gd (aR ns 5) e)<|gd ((aR ns 5).drop<|e+1) j) (m:=1) (l:=aH<|L<|(aR ns 5).drop<|e+1) λj _=>(by unfold ju;split<;>simp);refine gl h1 ?_;rw[bnJ,oz];omega);simp_all);refine yV (L<|aR ns 5) (λk _ Y'=>∃q,bD Y' b w ns (O1++(aH k).flatMap (lP ns<|aR ns 5)) n wk q bm bo f/\Ad Y Y' b a q) (by grind) ?_;rintro k _ Y2 hk ⟨a2,B,A2⟩;have l2:=B2 k;simp only[qz 73,qy 30,au,aI,u0,u1,↓uL];refine⟨λh=>?_,λh=>?_⟩;have o:=aL h;have N:=az _<|ig o;rw[qB B.gw o];refine ic B.le λW Y3 F3 N3 d3=>?_;refine cy (cs:=aH8.c<|gd (aR ns 5) k) d3 rfl rfl (by decide) λO F4 P=>?_;have aU:box O (5,W)=V ⟨107,3,U,U,[aH8.c<|gd (aR ns 5) k]⟩:=P;have al:Fx Y2 O []:=(F3.trans F4).mono (by grind [bK.no]);have A:=B.fx al;have ab:=A.bx;obtain⟨s,hs,H⟩:=slW A.gw o;have ah:((5,W):Id)≠b:=(by grind);have aB:dq.wrap ((k:Int)+1)=((k+1:Nat):Int):=fX (by omega);simp only[qz 32,aPF ab,u0,u1,ab,rkC,aj,au,aB,hs,(H O A.gw).1,↓uL];refine yV (L<|(aR ns 5).drop<|k+1) (λj _ Y'=>∃q,bD Y' b w ns (O1++(aH k).flatMap (lP ns<|aR ns 5)++(aH j).flatMap λj=>ju ns (gd (aR ns 5) k)<|gd ((aR ns 5).drop<|k+1) j) n wk q bm bo f/\Ad Y Y' b a q/\box Y' (5,W)=V ⟨107,3,U,U,[aH8.c<|gd (aR ns 5) k]⟩) (by grind [Ad.fxn]) ?_;rintro j _ T hj ⟨a5,u,S,d5⟩;have l5:L ((aH j).flatMap λj=>ju ns (gd (aR ns 5) k)<|gd ((aR ns 5).drop<|k+1) j)<=j:=(by have:=jo (f:=λj=>ju ns (gd (aR ns 5) k)<|gd ((aR ns 5).drop<|k+1) j) (m:=1) (l:=aH j) λj _=>(by unfold ju;split<;>simp);simp_all);have bp:L ((aR ns 5).drop<|k+1)<=1000:=(by grind);simp only[qz 109,au,aI,u0,u1,di,qz 131,qy 34,↓uL];refine⟨λh2=>?_,λh2=>?_⟩;have F:=aL h2;have aC:gd ((aR ns 5).drop<|k+1) j∈ns:=(by grind [ig]);rw[(H T u.gw).2 j F];refine ic u.le λv7 Y6 F6 N6 d6=>?_;refine cy (cs:=aH8.c<|gd ((aR ns 5).drop<|k+1) j) d6 rfl rfl (by decide) λY7 F7 d7=>?_;have ae:box Y7 (7,v7)=V ⟨107,3,U,U,[aH8.c<|gd ((aR ns 5).drop<|k+1) j]⟩:=d7;have v:Fx T Y7 []:=(F6.trans F7).mono (by grind [bK.no]);have D:=u.fx v;have y:=v.kq d5;simp only[qz 36,u0,u1,ae,y,z,rk,aj,↓uL];refine⟨λh3=>?_,λh3=>?_⟩;refine lq D t N ?_;simp only[qz 38,de t,aY,u0,u1,ae,z,↓uL];refine lq D t aC ?_;simp only[qz 40,de t,aY,fi,bQ,qz 42,↓uL];refine boV D (by grind) [_,_] (by simp) λZ Y8 C8 A8=>?_;simp only[qz 44,↓uL];refine dT ?_ ?_;have:=C.sb;clear ah;obtain⟨E,R⟩:=b;simp only at this;subst this;simp[eL,okT,tok,lb,cq,gz,dC,dK];simp only[qz 129,aI,au,cS,aY,↓uL];refine dR (p:=0) (mk:=λ_ i=>[iv i]) (s:=()) (s':=()) (λ_ _=>rfl) F (by omega) ⟨Z,?_,(S.fxn v).trans A8,A8.keep y ah<|D.ne y<|.inl rfl⟩;grind [aNG,ju];simp only[qz 129,aI,au,cS,aY,↓uL];refine dR (p:=0) (mk:=λ_ i=>[iv i]) (s:=()) (s':=()) (λ_ _=>rfl) F (by omega) ⟨a5,?_,S.fxn v,y⟩;grind [aNG,ju];have aA:j=L ((aR ns 5).drop<|k+1):=(by grind);subst aA;refine dR (p:=0) (mk:=λ_ i=>[iv i]) (s:=()) (s':=()) (λ_ _=>rfl) o (by omega) ⟨a5,?_,S⟩;rw[aNG,<-bje];exact u;have G:k=L (aR ns 5):=(by grind);subst G;have aa:=B.bx;simp only[aPF aa,u0,u1,aa,rkC,aj,lnI B.gw,bJ,↓uL];generalize b0:O1++(aH<|L<|aR ns 5).flatMap (lP ns<|aR ns 5)=O2 at*;have bO:L O2<501010000:=(by grind);have B3:∀k,L ((aH k).flatMap<|lQ ns w<|aR ns 5)<=k*1000:=λk=>(by have:=jo (f:=lQ ns w<|aR ns 5) (m:=1000) (l:=aH k) λe _=>(by have h1:=jo (f:=λj=>jk ns w (gd (aR ns 5) e)<|gd ((aR ns 5).drop<|e+1) j) (m:=1) (l:=aH<|L<|(aR ns 5).drop<|e+1) λj _=>(by unfold jk;split<;>simp);refine gl h1 ?_;rw[bnJ,oz];omega);simp_all);refine yV (L<|aR ns 5) (λk _ Y'=>∃q,bD Y' b w ns (O2++(aH k).flatMap (lQ ns w<|aR ns 5)) n wk q bm bo f/\Ad Y Y' b a q) (by grind) ?_;rintro k _ Y2 hk ⟨a2,B,A2⟩;have l2:=B3 k;simp only[qz 157,qy 46,au,aI,u0,u1,↓uL];refine⟨λh=>?_,λh=>?_⟩;have o:=aL h;have N:=az _<|ig o;rw[qB B.gw o];refine ic B.le λW Y3 F3 N3 d3=>?_;refine cy (cs:=aH8.c<|gd (aR ns 5) k) d3 rfl rfl (by decide) λO F4 P=>?_;have aU:box O (9,W)=V ⟨107,3,U,U,[aH8.c<|gd (aR ns 5) k]⟩:=P;have al:Fx Y2 O []:=(F3.trans F4).mono (by grind [bK.no]);have A:=B.fx al;have ab:=A.bx;obtain⟨s,hs,H⟩:=slW A.gw o;have ah:((9,W):Id)≠b:=(by grind);have aB:dq.wrap ((k:Int)+1)=((k+1:Nat):Int):=fX (by omega);simp only[qz 48,aPF ab,u0,u1,ab,rkC,aj,au,aB,hs,(H O A.gw).1,↓uL];refine yV (L<|(aR ns 5).drop<|k+1) (λj _ Y'=>∃q,bD Y' b w ns (O2++(aH k).flatMap (lQ ns w<|aR ns 5)++(aH j).flatMap λj=>jk ns w (gd (aR ns 5) k)<|gd ((aR ns 5).drop<|k+1) j) n wk q bm bo f/\Ad Y Y' b a q/\box Y' (9,W)=V ⟨107,3,U,U,[aH8.c<|gd (aR ns 5) k]⟩) ⟨a2,by grind,A2.fxn al,aU⟩ ?_;rintro j _ T hj ⟨a5,u,S,d5⟩;have l5:L ((aH j).flatMap λj=>jk ns w (gd (aR ns 5) k)<|gd ((aR ns 5).drop<|k+1) j)<=j:=(by have:=jo (f:=λj=>jk ns w (gd (aR ns 5) k)<|gd ((aR ns 5).drop<|k+1) j) (m:=1) (l:=aH j) λj _=>(by unfold jk;split<;>simp);simp_all);have bp:L ((aR ns 5).drop<|k+1)<=1000:=(by grind);simp only[qz 193,au,aI,u0,u1,di,qz 215,qy 50,↓uL];refine⟨λh2=>?_,λh2=>?_⟩;have F:=aL h2;have aC:gd ((aR ns 5).drop<|k+1) j∈ns:=(by grind [ig]);rw[(H T u.gw).2 j F];refine ic u.le λv7 Y6 F6 N6 d6=>?_;refine cy (cs:=aH8.c<|gd ((aR ns 5).drop<|k+1) j) d6 rfl rfl (by decide) λY7 F7 d7=>?_;have ae:box Y7 (11,v7)=V ⟨107,3,U,U,[aH8.c<|gd ((aR ns 5).drop<|k+1) j]⟩:=d7;have v:Fx T Y7 []:=(F6.trans F7).mono (by grind [bK.no]);have D:=u.fx v;have y:=v.kq d5;have aT:=D.bx;simp+contextual only[qz 52,u0,u1,ae,y,aPF aT,aT,rkC,ix,z,rk,aj,↓uL];refine⟨(by grind [ig]),λh3=>?_,λh3=>?_⟩;refine lq D t N ?_;simp only[qz 54,de t,aY,u0,u1,ae,z,↓uL];refine lq D t aC ?_;simp only[qz 56,de t,aY,fi,bQ,qz 58,↓uL];refine boV D (by grind) [_,_] (by simp) λZ Y8 C8 A8=>?_;simp only[qz 60,↓uL];refine dT ?_ ?_;have:=C.sb;clear ah;obtain⟨E,R⟩:=b;simp only at this;subst this;simp[eL,okT,tok,lb,cq,gz,dC,dK];simp only[qz 213,aI,au,cS,aY,↓uL];refine dR (p:=0) (mk:=λ_ i=>[iv i]) (s:=()) (s':=()) (λ_ _=>rfl) F (by omega) ⟨Z,?_,(S.fxn v).trans A8,A8.keep y ah<|D.ne y<|.inl rfl⟩;grind [aNG,jk];simp only[qz 213,aI,au,cS,aY,↓uL];refine dR (p:=0) (mk:=λ_ i=>[iv i]) (s:=()) (s':=()) (λ_ _=>rfl) F (by omega) ⟨a5,?_,S.fxn v,y⟩;rw[aNG,<-bje,jk,dB (by simp_all),cL];exact D;have aA:j=L ((aR ns 5).drop<|k+1):=(by grind);subst aA;refine dR (p:=0) (mk:=λ_ i=>[iv i]) (s:=()) (s':=()) (λ_ _=>rfl) o (by omega) ⟨a5,?_,S⟩;rw[aNG,<-bje];exact u;have G:k=L (aR ns 5):=(by grind);subst G;have aa:=B.bx;simp only[aPF aa,u0,u1,aa,rkC,aj,lnI B.gw,bJ,↓uL];generalize b1:O2++(aH<|L<|aR ns 5).flatMap (lQ ns w<|aR ns 5)=O3 at*;have bR:L O3<502010000:=(by grind);have B4:∀x,L (qw ns w x)<=1001:=λx=>(by have h1:=jo (f:=brU ns w (aR ns 5) x) (m:=1) (l:=aH<|L<|(aR ns 5).filter<|eZ x) λj _=>(by simp[brU]);grind [qw]);have B5:∀k,L ((aH k).flatMap λk=>qw ns w<|gd (aR ns 5) k)<=k*1001:=λk=>(by have:=jo (f:=λk=>qw ns w<|gd (aR ns 5) k) (m:=1001) (l:=aH k) λe _=>B4 _;simp_all);refine yV (L<|aR ns 5) (λk _ Y'=>∃q,bD Y' b w ns (O3++(aH k).flatMap λk=>qw ns w<|gd (aR ns 5) k) n wk q bm bo f/\Ad Y Y' b a q) (by grind) ?_;rintro k _ Y3 hk ⟨a3,X,A3⟩;have l3:=B5 k;simp only[qz 235,qy 62,au,aI,u0,u1,↓uL];refine⟨λh=>?_,λh=>?_⟩;have o:=aL h;have l4:=B4<|gd (aR ns 5) k;rw[qB X.gw o];refine ic X.le λW O F4 N4 P=>?_;refine cy (cs:=aH8.c<|gd (aR ns 5) k) P rfl rfl (by decide) λT F5 d5=>?_;have bk:box T (13,W)=V ⟨107,3,U,U,[aH8.c<|gd (aR ns 5) k]⟩:=d5;have aP:Fx Y3 T []:=(F4.trans F5).mono (by grind [bK.no]);have u:=X.fx aP;simp only[qz 64,u0,u1,bk,z,↓uL];refine bsi rfl (aDx u M Wk hw (ig o)<|by grind) λa6 Y6 C6 A6=>?_;simp only[qz 66,au,cS,aY,↓uL];refine dR (p:=0) (mk:=λ_ i=>[iv i]) (s:=()) (s':=()) (λ_ _=>rfl) o (by omega) ⟨a6,?_,(A3.fxn aP).trans A6⟩;grind [aNG];have G:k=L (aR ns 5):=(by grind);subst G;simp only[aNN,aoz];refine⟨a3,rfl,?_,A3⟩;grind
def oa(r:Nat)(x:aH8):Bool:=Q (x.kind=4)&&Q (x.a=(r:Int))
structure GU(w:am)(ns:List aH8):Prop where
 eq:∀r,r<L w.ac->fR (gd w.ac r)=U->ns.filter (oa r)=(dx w r).map λs=>(⟨4,(r:Int),s⟩:aH8)
 ok:∀r:Nat,∀s∈dx w r,0<=s->aF (L w.ac) s/\s≠(r:Int)
 ln:∀r:Nat,L (dx w r)<=1000
theorem aDV(C:bD Y b w ns out n wk a bm bo f)(M:jb w ns)(D:tP w)(S:GU w ns)(bu:∀k,k<L w.ac->aF (L w.aQ.ay) (gd w.ac k).aq)(hw:L w.ac<=16)(ho:L out+L ((aH<|L w.ac).flatMap<|gW ns w)<999990000):∃r Y1,mS Y b w ns out ((aH<|L w.ac).flatMap<|gW ns w) n wk a bm bo f r Y1/\cZ aS GG 89 [.p b 0 0] Y r Y1:=by have N:=M.ln;refine aKy C.le ?_;have bx:=C.bx;have al:∀{x:aH8},aN (V 3) (aH8.c x)=V (.a<|aH8.c x):=rfl;simp only[HS,aPF bx,u0,u1,bx,rkC,rk,aj,cT,↓uL];refine yV (L w.ac) (λk _ Y'=>∃Z,bD Y' b w ns (out++(aH k).flatMap (gW ns w)) n wk Z bm bo f/\Ad Y Y' b a Z) (by grind [Ad.refl]) ?_;rintro r _ Y1 hr ⟨a1,C1,A1⟩;simp only[qz 7,au,aI,u0,u1,ix,rk,bh,↓uL];refine⟨λh=>?_,λh=>?_⟩;have m:=aL h;refine bsK (λe=>∀E a8,bD E b w ns (out++(aH r).flatMap (gW ns w)++gW ns w r) n wk a8 bm bo f->Ad Y E b a a8->e [] E) ?_ λe ad=>?_;intro E a8 C8 A8;simp only[qz 27,aI,au,cS,aY,↓uL];refine dR (p:=0) (mk:=λ_ i=>[iv i]) (s:=()) (s':=()) (λ_ _=>rfl) m (by omega) ⟨a8,?_,A8⟩;grind [aNG];simp only[qz 29,qy 2,au,u0,u1,ix,rk,bh,↓uL];refine⟨dJ m,?_⟩;have l1:=fU (f:=gW ns w)<|show r+1<=L w.ac from m;rw[aNG,a6G] at l1;refine ic C1.le λv Y2 F2 N2 b2=>?_;refine cy (y:=7) (cs:=aP.c<|gd w.ac r) b2 rfl rfl (by decide) λY3 F3 b3=>?_;have bf:box Y3 (3,v)=V ⟨62,7,U,U,[aP.c<|gd w.ac r]⟩:=b3;have aC:Fx Y1 Y3 []:=(F2.trans F3).mono (by grind [bK.no]);have C3:=C1.fx aC;have A3:=A1.fxn aC;simp only[qz 4,u0,u1,bf,rk,aj,ar,amn,au,↓uL];refine⟨λh1=>?_,λh1=>?_⟩;refine ad Y3 a1 ?_ A3;grind [gW];have ak:fR (gd w.ac r)=U:=(by grind);have bp:gW ns w r=[[-lF ns r,lE ns r],-lF ns r::(dx w r).map (lS ns r)]++(aH<|L<|dx w r).flatMap (λj=>iP ns w r<|gd (dx w r) j):=(by grind [gW]);have aG:=M.fx _ (dJ m) (by simpa using ak);have hS:=S.eq r m ak;have cb:=S.ln r;have bn:=S.ok r;rw[bp] at l1 ad;simp only[a6G,bZ,aO1] at l1;refine AQ C3 N aG ?_;simp only[qz 6,de N,aY,au,↓uL];refine gq C3 N (M.ex _<|dJ m) ?_;simp only[qz 8,fi,bQ,qz 10,↓uL];refine boV C3 (by grind) [_,_] (by simp) λa4 Y4 B A4=>?_;simp only[qz 12,au,↓uL];refine AQ B N aG ?_;have aD:=B.bx;simp only[qz 14,de N,aY,a5Y,bQ,↓uL];obtain⟨t,o',rfl⟩:=B.nm;simp only[qz 16,aPF aD,u0,u1,aD,rkC,aj,gT,↓uL];refine jD (α:=AV×AV) (λa i=>[a.1,a.2,iv i]) 2 (L ns) (λk a Y'=>gA Y' 3 1 a.1 ((-lF ns r::((ns.take k).filter<|oa r).map (dP ns)).map ci)/\bc Y' 107 3 a.2 (((ns.take k).filter<|oa r).map aH8.c)/\Fx Y4 Y' []/\(∀q∈aA a.1,bK Y4 q/\q.1=66)/\∀q∈aA a.2,bK Y4 q/\q.1=60) (s0:=(_, .l [] U U)) ⟨.inl ⟨U,rfl⟩,bc.nil,Fx.refl _ _,by simp[aA],by simp[aA]⟩ ?_;rintro k ⟨y,o⟩ Y5 hk ⟨gy,go,F5,Py,Po⟩;simp only at gy go Py Po;have C5:=B.fx F5;simp only[qz 79,au,ck,nr,aI,u0,u1,di,qz 101,qy 18,lX,rk,bh,↓uL];refine⟨λh2=>⟨u7 h2,?_⟩,λh2=>?_⟩;have z:=aL h2;refine ic C5.le λv7 Y6 F6 N6 d6=>?_;refine cy (cs:=aH8.c<|gd ns k) d6 rfl rfl (by decide) λX F7 d7=>?_;have aE:box X (7,v7)=V ⟨107,3,U,U,[aH8.c<|gd ns k]⟩:=d7;have O:Fx Y5 X []:=(F6.trans F7).mono (by grind [bK.no]);have P:=F5.trans O;have C7:=B.fx P;have bj:=gy.fx O (by simp);have G:=go.fx O (by simp);have ce:L ((ns.take k).filter<|oa r)<=k:=(by grind);simp+contextual only[qz 20,qy 22,u0,u1,aE,rk,al,aj,au,ck,nr,Db,bQ,↓uL];refine⟨λhb=>?_,λhb=>?_⟩;refine gD G rfl (by decide) (by rw[C7.le];decide) uT uT (by grind) λo8 E g8 T cd bt=>?_;have W:Fx Y4 E []:=(P.trans T).mono (by grind [bK.no]);have d8:=T.keep _ _ (λA=>by have:=(Po _ A).2;simp at this) aE;have bk:=bj.fx T (by grind);simp only[qz 24,u0,u1,d8,al,↓uL];refine lq (B.fx W) N (ig z) ?_;simp only[qz 26,qy 28,qy 30,a5Y,bQ,au,↓uL];refine bsg bk rfl (by decide) (by rw[W.len,B.le];decide) fF fF (by grind) λy9 Y9 g9 F9 bs=>?_;simp only[qz 99,aI,au,ck,nr,cS,aY,↓uL];refine dR (p:=2) (mk:=λ(a:AV×AV) i=>[a.1,a.2,iv i]) (s:=(y,o)) (s':=(y9,o8)) (λ_ _=>rfl) z (by omega) ⟨?_,?_,(W.trans F9).mono (by grind [bK.no]),λq A=>?_,λq A=>?_⟩;rw[pH z,f8<|by grind [oa]];grind;rw[pH z,f8 (by grind [oa]),dg];refine g8.fx F9 λq A ah=>?_;have h1:=(Py q ah).2;rcases bt q A with F|F;grind;omega;rcases bs q A with F|F;exact Py q F;grind [bK.old];refine⟨?_,by grind⟩;grind [bK.old];simp only[qz 99,aI,au,ck,nr,cS,aY,↓uL];have cc:¬oa r (gd ns k)=U:=(by grind [oa]);refine dR (p:=2) (mk:=λ(a:AV×AV) i=>[a.1,a.2,iv i]) (s:=(y,o)) (s':=(y,o)) (λ_ _=>rfl) z (by omega) ⟨?_,?_,P,Py,Po⟩;grind [pH];grind [pH];have ag:k=L ns:=(by grind);subst ag;rw[gV,hS] at gy go;have bq:(-lF ns r::((dx w r).map λs=>(⟨4,(r:Int),s⟩:aH8)).map (dP ns))= -lF ns r::(dx w r).map (lS ns r):=(by simp);rw[bq] at gy;have br:∀j,j<L (dx w r)->gd ((dx w r).map λs=>(⟨4,(r:Int),s⟩:aH8)) j=⟨4,(r:Int),gd (dx w r) j⟩:=(by grind [bT]);have a0:∀s∈dx w r,(⟨4,(r:Int),s⟩:aH8)∈ns:=λs hs=>(by have:(⟨4,(r:Int),s⟩:aH8)∈ns.filter (oa r):=(by grind);grind);refine Ea C5 (by grind) _ gy (by simp;omega) (by grind) λa6 Y6 C6 A6=>?_;have b8:Ad Y Y6 b a a6:=((A3.trans A4).fxn F5).trans A6;have H:∀{Ya Yb:ae} {aa ab:AV} {oo:List (List Int)},bD Ya b w ns oo (.l (ns.map aH8.c) t o') wk aa bm bo f->Ad Ya Yb b aa ab->bc Ya 107 3 o (((dx w r).map λs=>(⟨4,(r:Int),s⟩:aH8)).map aH8.c)->bc Yb 107 3 o (((dx w r).map λs=>(⟨4,(r:Int),s⟩:aH8)).map aH8.c):=(by intro Ya Yb aa ab oo Ca Aa g;refine g.fx Aa.fx λq A ah=>?_;rcases eW.1 ah with h|h;grind [bD.sb];exact Ca.ne (g.ids q A) (.inr<|by simp) h);have bi:=H C5 A6 go;simp only[qz 32,au,ck,u0,lnI bi,bJ,↓uL];refine yV (L<|dx w r) (λj _ Y'=>∃Z,bD Y' b w ns (out++(aH r).flatMap (gW ns w)++[[-lF ns r,lE ns r],-lF ns r::(dx w r).map (lS ns r)]++(aH j).flatMap λj=>iP ns w r<|gd (dx w r) j) (.l (ns.map aH8.c) t o') wk Z bm bo f/\Ad Y Y' b a Z/\bc Y' 107 3 o (((dx w r).map λs=>(⟨4,(r:Int),s⟩:aH8)).map aH8.c)) (by grind) ?_;rintro j _ X hj ⟨a7,C7,A7,G⟩;simp only[qz 133,qy 34,au,ck,aI,u0,u1,↓uL];refine⟨λF=>?_,λF=>?_⟩;have u:=aL F;have l7:=fU (f:=λj=>iP ns w r<|gd (dx w r) j)<|show j+1<=L (dx w r) from u;rw[aNG,a6G] at l7;rw[qB G (by grind),br j u];refine ic C7.le λv9 E T N8 d8=>?_;refine cy (cs:=aH8.c ⟨4,(r:Int),gd (dx w r) j⟩) d8 rfl rfl (by decide) λY9 F9 d9=>?_;have bg:box Y9 (9,v9)=V ⟨107,3,U,U,[aH8.c ⟨4,(r:Int),gd (dx w r) j⟩]⟩:=d9;have R:Fx X Y9 []:=(T.trans F9).mono (by grind [bK.no]);have C9:=C7.fx R;simp only[qz 36,u0,u1,bg,al,↓uL];refine aEj C9 M D bu hw m ak (a0 _<|ig u) (bn _<|ig u) (by grind [a6G,bZ,aO1]) λbd ca b9 aB=>?_;simp only[qz 38,au,cS,aY,↓uL];refine dR (p:=0) (mk:=λ_ i=>[iv i]) (s:=()) (s':=()) (λ_ _=>rfl) u (by omega) ⟨bd,?_,(A7.fxn R).trans aB,H C9 aB<|G.fx R<|by simp⟩;grind [aNG];refine ad X a7 ?_ A7;grind;have ag:r=L w.ac:=(by grind);subst ag;exact⟨a1,rfl,C1,A1⟩
structure Sd(N:Nat)(p q:bp):Prop where
 prel:0<=p.dY->aF N p.dY
 held:p.dD<0->q.dD<0\/(0<=p.dY/\aF N p.dY/\aF N q.dD/\p.dY≠q.dD)
 own:0<=p.dD->aF N p.dD/\aF N q.dD/\p.dD≠q.dD/\(0<=p.dY->aF N p.dY/\p.dY≠q.dD)/\(0<=q.dY->aF N q.dY/\q.dY≠p.dD)
theorem aE1{p q:bp}:L (iA ns p q)<=4:=by grind [iA,jI]
theorem anl(C:bD Y b w ns out n wk a bm bo f)(M:jb w ns){l:List bp}{t o:Bool}(hl:L l<=100)(hS:∀i j,i<j->j<L l->(gd l i).aq≠(gd l j).aq->¬((gd l i).read=U/\(gd l j).read=U)->Sd (L w.ac) (gd l i) (gd l j))(ho:L out<800000000):∃r X,mS Y b w ns out (rL ns l) n wk a bm bo f r X/\cZ aS GG 84 [.p b 0 0, .l (l.map bp.c) t o] Y r X:=by have hn:=M.ln;refine aKc C.le ?_;have AG:∀{Y:ae} {i:Int} {K:cC} {l:List bp} {t o:Bool},rV (cz 4 Y (.l (l.map bp.c) t o)<|iv i) K=(aF (L l) i/\K (.q<|bp.c<|gd l i.toNat)):=λ{Y i K l t o}=>aBz (Y:=Y) (f:=bp.c) λ_=>rfl;have W:∀i k,L ((aH k).flatMap λj=>iA ns (gd l i)<|gd (l.drop<|i+1) j)<=k*4:=λi k=>(by have:=jo (f:=λj=>iA ns (gd l i)<|gd (l.drop<|i+1) j) (m:=4) (l:=aH k) λe _=>aE1;simp_all);have ao:∀k,L ((aH k).flatMap<|mw ns l)<=k*400:=λk=>(by have:=jo (f:=mw ns l) (m:=400) (l:=aH k) λe _=>(by refine gl (W e _) ?_;grind);simp_all);simp only[Hh,gT,u0,↓uL];refine yV (L l) (λk _ Y'=>∃O,bD Y' b w ns (out++(aH k).flatMap (mw ns l)) n wk O bm bo f/\Ad Y Y' b a O) (by grind [Ad.refl]) ?_;rintro k _ X hk ⟨a1,C1,A1⟩;have l1:=ao k;simp only[qz 7,qy 2,au,aI,u0,u1,AG,D2,bh,↓uL];refine⟨λh=>⟨u7 h,?_⟩,λh=>?_⟩;have aJ:=aL h;refine ic C1.le λv5 Y2 F2 N2 b2=>?_;refine cy (y:=4) (cs:=bp.c<|gd l k) b2 rfl rfl (by decide) λY3 F3 b3=>?_;have bd:box Y3 (5,v5)=V ⟨220,4,U,U,[bp.c<|gd l k]⟩:=b3;have ar:Fx X Y3 []:=(F2.trans F3).mono (by grind [bK.no]);have C3:=C1.fx ar;have aC:((5,v5):Id)≠b:=(by grind [bD.sb]);simp only[qz 4,au,cS,aY,↓uL];rw[fX (by omega),slS,bh];refine⟨(by omega),?_⟩;simp only[gT,u0,↓uL];refine yV (L<|l.drop<|k+1) (λj _ Y'=>∃O,bD Y' b w ns (out++(aH k).flatMap (mw ns l)++(aH j).flatMap λj=>iA ns (gd l k)<|gd (l.drop<|k+1) j) n wk O bm bo f/\Ad Y Y' b a O/\box Y' (5,v5)=V ⟨220,4,U,U,[bp.c<|gd l k]⟩) (by grind [Ad.fxn]) ?_;rintro j _ Y4 hj ⟨a4,C4,A4,b4⟩;have l4:=W k j;have be:L (l.drop<|k+1)<=100:=(by grind);simp only[qz 43,au,aI,u0,u1,AG,D2,bh,↓uL];refine⟨λh2=>?_,λh2=>?_⟩;have A:=aL h2;refine bsK (λg=>∀z B,bD z b w ns (out++(aH k).flatMap (mw ns l)++(aH j).flatMap (λj=>iA ns (gd l k)<|gd (l.drop<|k+1) j)++iA ns (gd l k) (gd (l.drop<|k+1) j)) n wk B bm bo f->Ad Y z b a B->box z (5,v5)=V ⟨220,4,U,U,[bp.c<|gd l k]⟩->g [] z) ?_ λg x=>?_;intro z B C8 A8 b8;simp only[qz 63,aI,au,cS,aY,↓uL];refine dR (p:=0) (mk:=λ_ i=>[iv i]) (s:=()) (s':=()) (λ_ _=>rfl) A (by omega) ⟨B,?_,A8,b8⟩;grind [aNG];simp only[qz 65,qy 6,au,u0,u1,AG,D2,bh,↓uL];refine⟨dJ A,?_⟩;have S:=hS k (k+1+j) (by omega) (by rw[oz] at A;omega);have aK:gd l (k+1+j)=gd (l.drop<|k+1) j:=(by rw[oz] at A;rw[bT (by omega),bT (by simp_all),List.getElem_drop]);rw[aK] at S;refine ic C4.le λv7 Y5 F5 N5 d5=>?_;refine cy (y:=4) (cs:=bp.c<|gd (l.drop<|k+1) j) d5 rfl rfl (by decide) λY6 F6 d6=>?_;have P:box Y6 (7,v7)=V ⟨220,4,U,U,[bp.c<|gd (l.drop<|k+1) j]⟩:=d6;have N:Fx Y4 Y6 []:=(F5.trans F6).mono (by grind [bK.no]);have H:=C4.fx N;have A6:=A4.fxn N;have Z:=N.kq b4;have aD:((7,v7):Id)≠b:=(by grind [bD.sb]);generalize gd l k=p at*;generalize gd (l.drop<|k+1) j=q at*;simp+contextual only[qz 8,qy 10,u0,u1,Z,P,aoj,En,Eo,aok,Bj,aj,↓uL];have bg:L (out++(aH k).flatMap (mw ns l)++(aH j).flatMap λj=>iA ns p<|gd (l.drop<|k+1) j)<900000000:=(by grind);refine⟨λD=>?_,λD=>⟨λh4=>?_,λh4=>?_⟩⟩;refine x Y6 a4 ?_ A6 Z;simp only[fH,bN,j4] at D;rw[iA,f8 (by grind),cL];exact H;simp only[cP,j5] at D;have T:¬(p.read=U/\q.read=U):=(by simp_all);have F:=S D.1 T;have v:=qc h4;have R:iA ns p q=uf ns p.dY q.dD:=(by rcases F.held v with E|⟨E,h6,h7,h8⟩;grind [iA,uf];have:=h7.1;rw[iA,dB (by simp_all),f8 v,uf,dB<|by omega]);rw[R] at x;refine aEe H M (by omega) (λu=>?_) (λu=>?_) ?_ λa7 Y7 C7 G=>x Y7 a7 C7 (A6.trans G) (by grind [Ad.keep,bD.ne]);exact F.prel u;rcases F.held v with E|⟨E,h6,h7,h8⟩;omega;exact h7;rcases F.held v with E|⟨E,h6,h7,h8⟩;exact .inr E;omega;simp only[cP,j5] at D;have T:¬(p.read=U/\q.read=U):=(by simp_all);have F:=S D.1 T;have v:=brD h4;obtain⟨q1,q2,q3,q4,q5⟩:=F.own (by omega);have R:iA ns p q=jI ns p.dD p.dY q.dD++jI ns q.dD q.dY p.dD:=(by have:=q2.1;rw[iA,dB (by grind),dB v]);rw[R] at x;refine anx H M (by omega) q1 q2 (λu=>(q4 u).1) q3 (λu=>(q4 u).2) λa7 Y7 C7 G=>?_;have b7:=G.keep Z aC<|H.ne Z<|.inl rfl;have d7:=G.keep P aD<|H.ne P<|.inl rfl;have bf:L (jI ns p.dD p.dY q.dD)<=2:=(by unfold jI;split<;>simp);simp only[qz 12,qy 14,u0,u1,b7,d7,Bj,↓uL];refine anx C7 M (by grind) q2 q1 (λu=>(q5 u).1) (λe=>q3 e.symm) (λu=>(q5 u).2) λB z C8 A8=>x z B (by grind) ((A6.trans G).trans A8) (by grind [Ad.keep,bD.ne]);have aE:j=L (l.drop<|k+1):=(by grind);subst aE;refine dR (p:=0) (mk:=λ_ i=>[iv i]) (s:=()) (s':=()) (λ_ _=>rfl) aJ (by omega) ⟨a4,?_,A4⟩;rw[aNG,<-bje];exact C4;have aG:k=L l:=(by grind);subst aG;simp only[aNN,aoz];exact⟨a1,rfl,C1,A1⟩
theorem anm(C:bD Y b w ns out n wk a bm bo f)(hn:L ns<100000):∃r m,(∃a1,r= .a [iv<|L w.ac,iv<|L ns,a1,a]/\bc m 86 3 a1 ((lL ns).map bqR.c)/\bc m 38 1 a (out.map λc=>[sl ci c])/\Fx Y m [])/\cZ aS GG 41 [.p b 0 0] Y r m:=by refine aKg C.le ?_;simp only[Hm,↓uL];refine ic C.le λv1 m Z N1 b1=>?_;have v:=C.fx Z;have bx:=v.bx;obtain⟨t,o,rfl⟩:=v.nm;simp only[qz 2,qy 4,aPF bx,u0,u1,bx,rkC,rk,aj,gT,cT,↓uL];have av:bM bt3 bmK [(0,iv<|L w.ac),(1,iv<|L ns),(3,a)]=V (.a [iv<|L w.ac,iv<|L ns, .l [] U U,a]):=(by simp[bM,aly,ms v.gr,zU]);simp only[av,u0,↓uL];refine ic v.le λO Y2 F2 N2 b2=>?_;refine cy (y:=4) (cs:=[iv<|L w.ac,iv<|L ns, .l [] U U,a]) b2 rfl rfl (by decide) λu F3 b3=>?_;have an:box u (3,O)=V ⟨54,4,U,U,[[iv<|L w.ac,iv<|L ns, .l [] U U,a]]⟩:=b3;have z:Fx m u []:=(F2.trans F3).mono (by grind [bK.no]);have P:=v.fx z;have G:=P.bx;have al:=z.kq b1;simp only[qz 6,↓uL];refine dT ?_ ?_;have T:=C.sb;have aB:=C.sa;have ax:=C.gr;clear bx G;obtain⟨a4,a5⟩:=b;simp only at T;subst T;rcases ax with⟨_,rfl⟩|⟨⟨d',v'⟩,rfl,_⟩;rfl;have:=aB (d',v') (by simp[aA]);simp only at this;subst this;rfl;simp only[aPF G,u0,u1,G,rkC,aj,gT,↓uL];have aE:∀{x y x2 R:AV},aN J ([x,y,x2,R].drop 2)=V x2:=rfl;have X:∀{x y x2 R:AV},aN (V 4) [x,y,x2,R]=V (.a [x,y,x2,R]):=rfl;have g:∀{l:List bqR},∀r∈l.map bqR.c,L r=3:=(by intro l r hr;obtain⟨x,_,rfl⟩:=dN.1 hr;rfl);refine yV (L ns) (λk _ Y'=>∃a1,box Y' (3,O)=V ⟨54,4,U,U,[[iv<|L w.ac,iv<|L ns,a1,a]]⟩/\bc Y' 86 3 a1 (((aR (ns.take k) 1).map λx=>(⟨x.a,x.b,-1⟩:bqR)).map bqR.c)/\Fx u Y' [(3,O)]/\∀q∈aA a1,bK u q/\q.1=42) ⟨_,an,bc.nil,Fx.refl _ _,by simp[aA]⟩ ?_;rintro k _ Y4 hk ⟨a1,m2,g1,B,P1⟩;have az:L Y4=4096:=B.len.trans P.le;simp only[qz 25,qy 18,au,aI,u0,u1,di,qz 47,qy 8,lX,rk,bh,↓uL];refine⟨λh=>⟨u7 h,?_⟩,λh=>?_⟩;have H:=aL h;refine ic az λv5 Y5 E N5 b5=>?_;refine cy (cs:=aH8.c<|gd ns k) b5 rfl rfl (by decide) λF F6 b6=>?_;have ap:box F (5,v5)=V ⟨107,3,U,U,[aH8.c<|gd ns k]⟩:=b6;have D:Fx Y4 F []:=(E.trans F6).mono (by grind [bK.no]);have N:=D.kq m2;have g6:=g1.fx D (by simp);have A:Fx u F [(3,O)]:=(B.trans D).mono (by simp);have ae:bM bt4 aon [(0,iv (gd ns k).a),(1,iv (gd ns k).b),(2,iv<|-1)]=V (.a<|bqR.c ⟨(gd ns k).a,(gd ns k).b,-1⟩):=rfl;have aw:aX btW 1 F [(0, .a<|bqR.c ⟨(gd ns k).a,(gd ns k).b,-1⟩)]=V (.l ([(⟨(gd ns k).a,(gd ns k).b,-1⟩:bqR)].map bqR.c) U U,F):=ua rfl rfl rfl (by decide) rfl (by decide);have S:=Qg (ns:=ns) (kd:=1) H;have a8:L (aR (ns.take k) 1)<=k:=(by grind [gC,aR]);simp only[qz 10,qy 12,u0,u1,ap,N,rk,aE,aj,ae,aw,↓uL];refine⟨λhb=>?_,λhb=>?_⟩;refine gD g6 rfl (by decide) (by rw[A.len,P.le];decide) g g (by grind) λa7 Y7 g7 F7 a6 a9=>?_;have aD:((3,O):Id)∉aA a1:=(by grind);have W:=F7.keep _ _ aD N;simp only[qz 14,qy 16,u0,u1,W,aj,↓uL];refine cy (y:=1) (j:=2) (cs:=[a7]) W (ms g7) rfl (by simp) λY8 F8 b8=>?_;have P7:∀q∈aA a7,bK u q/\q.1=42:=λq M=>(by refine⟨?_,by grind⟩;grind [bK.old]);simp only[qz 45,aI,au,cS,aY,↓uL];refine dR (p:=0) (mk:=λ_ i=>[iv i]) (s:=()) (s':=()) (λ_ _=>rfl) H (by omega) ⟨a7,b8,?_,?_,P7⟩;rw[S,f8<|qc hb,dg,dg];exact g7.fx F8 (by grind);refine((A.trans F7).trans F8).mono ?_;grind [bK.no];simp only[qz 45,aI,au,cS,aY,↓uL];refine dR (p:=0) (mk:=λ_ i=>[iv i]) (s:=()) (s':=()) (λ_ _=>rfl) H (by omega) ⟨a1,N,?_,A,P1⟩;rw[S,dB<|brD hb,cL];exact g6;have ay:k=L ns:=(by grind);subst ay;rw[gV] at g1;have am:=B.kq al;simp only[m2,u0,u1,X,↓uL];refine cy (y:=4) (cs:=[iv<|L w.ac,iv<|L ns,a1,a]) am rfl rfl (by decide) λY5 E b5=>?_;have ao:box Y5 (2,v1)=V ⟨54,4,U,U,[[iv<|L w.ac,iv<|L ns,a1,a]]⟩:=b5;simp only[ao,u0,u1,X,aNN,aoz,↓uL];refine⟨a1,rfl,g1.fx E (by grind),(P.gr.fx B<|λq M e=>by grind [bD.sa]).fx E (λq M e=>by grind [bD.sa]),(((Z.trans z).trans B).trans E).mono λq M=>?_⟩;simp only[dW,dF,cE] at M;rcases M with rfl|rfl;exact .inr (N2.old Z).no;exact .inr N1.no
end
def bsQ:dO:=apw
def bsw:eJ bsQ:=wS
def aBp:=@amn
def asS:=I5 10 [(3,([7],[1,2,3,6]))]
def Hq a a1 b c R:=(.mk _:NS bsQ asS Tryz.f161 [.u,a1,b] [a] c R).p
def aKj{c0:List AV}{a1 b:AV}{s0:ae}{R:be}(hs:L s0=4096)(l0:L c0=7)(h:HB1 62 7 3 c0 s0 λd c=>Hq d a1 b c R):EB 161 [.a c0,a1,b] s0 R:=zB1 asS bsw Tryz.func161 hs l0 h
def Hr a a1 b c R:=(.mk _:NS bsQ asS Tryz.f162 [.u,a1,b] [a] c R).p
def aKk{c0:List AV}{a1 b:AV}{s0:ae}{R:be}(hs:L s0=4096)(l0:L c0=7)(h:HB1 62 7 3 c0 s0 λd c=>Hr d a1 b c R):EB 162 [.a c0,a1,b] s0 R:=zB1 asS bsw Tryz.func162 hs l0 h
def HQ a b R:=(.mk _:NS bsQ at1 Tryz.f164 [.u] [a] b R).p
def aKw{c0:List AV}{s0:ae}{R:be}(hs:L s0=4096)(l0:L c0=7)(h:HB1 62 7 1 c0 s0 λc b=>HQ c b R):EB 164 [.a c0] s0 R:=zB1 at1 bsw Tryz.func164 hs l0 h
def HR a b R:=(.mk _:NS bsQ at1 Tryz.f165 [.u] [a] b R).p
def aKx{c0:List AV}{s0:ae}{R:be}(hs:L s0=4096)(l0:L c0=7)(h:HB1 62 7 1 c0 s0 λc b=>HR c b R):EB 165 [.a c0] s0 R:=zB1 at1 bsw Tryz.func165 hs l0 h
def as1:=I5 27 [(4,([9,22],[0,2,3,20,21])),(7,([9],[0,2,3,20,21,22])),(12,([43],[0,3,9,42])),(15,([],[0,3,9,42,43])),(19,([62],[0,3,9,12,42,43,60,61]))]
def HI a a1 b c s0 R:=(.mk _:NS bsQ as1 Tryz.f163 [a,a1,b,c] [] s0 R).p
def aKs{a a1 b c:AV}{s0:ae}{R:be}(hs:L s0=4096)(h:HI a a1 b c s0 R):EB 163 [a,a1,b,c] s0 R:=zB as1 bsw Tryz.func163 h
def asR:=I5 23 [(5,([6,29],[2,3,5,28])),(8,([6],[2,3,5,28,29])),(14,([6,44],[2,3,5,7,28,29,42,43])),(17,([6],[2,3,5,7,28,29,42,43,44]))]
def Hp b a c R:=(.mk _:NS bsQ asR Tryz.f85 [.u, .u] [b,a] c R).p
def aI4{b a1:AV}{s0:ae}{R:be}(h:eV (bxA 88 1 s0 2 b) λc d=>eV (bxA 3 1 d 3 a1) λa e=>Hp c a e R):EB 85 [b,a1] s0 R:=zB asR bsw Tryz.func85 h
def aKi{d a1:AV}{s0:ae}{R:be}(hs:L s0=4096)(l0:eY d=V [d])(l1:eY a1=V [a1])(h:∀(a:ae) (b c:Nat),Kp s0 a->(∀k,k≠2->k≠3->aZ a k=aZ s0 k)->(∀x,box s0 (2,b)≠V x)->(∀x,box s0 (3,c)≠V x)->box a (2,b)=V ⟨88,1,U,U,[[d]]⟩->box a (3,c)=V ⟨3,1,U,U,[[a1]]⟩->Hp (.p (2,b) 0 0) (.p (3,c) 0 0) a R):EB 85 [d,a1] s0 R:=by refine aI4 ?_;refine iN l0 rfl (by decide) (by decide) hs λq b f g0 n i=>?_;refine iN l1 rfl (by decide) (by decide) (f.len.trans hs) λa c g g1 o j=>?_;exact h a b c (Kp.trans f g) (λk l m=>(g1 k m).trans<|g0 k l) (λx e=>n x<|(Kp.refl _).keep _ _ e) (λx e=>o x<|f.keep _ _ e) (g.keep _ _ i) j
def as4:=I5 8 [(2,([3],[0]))]
def HP a s0 R:=(.mk _:NS bsQ as4 Tryz.f86 [a] [] s0 R).p
def aKv{a:AV}{s0:ae}{R:be}(hs:L s0=4096)(h:HP a s0 R):EB 86 [a] s0 R:=zB as4 bsw Tryz.func86 h
def aB8{w:am}{u:Int}{l:List Int}{q:Int}(h:q∈fg w u l):∃x∈l,0<=x-gd w.init.count u.toNat/\x-gd w.init.count u.toNat<(L (aRQ w.ac u<|L w.ac):Int)/\q=gd (aRQ w.ac u<|L w.ac) (x-gd w.init.count u.toNat).toNat:=by unfold fg bqV at h;grind [Er]
theorem an7{w:am}(h:xv w){k:Nat}(a:k<L w.ac){q:Int}{l:List Int}(j:∀x∈l,x∈(gd w.ac k).dI\/x∈(gd w.ac k).ep)(n:q∈fg w (gd w.ac k).aq l):aF (L w.ac) q/\fR (gd w.ac q.toNat)=U:=by obtain⟨x,o,v,y,rfl⟩:=aB8 n;obtain⟨s,u,e⟩:=h.rd k a x<|j x o;obtain⟨f,g⟩:=e (by omega);have c:=(h.wo.wo.named a).2;have d:(((gd w.ac k).aq.toNat:Nat):Int)=(gd w.ac k).aq:=kA c.1;simp only[aOu,bJ,d] at f g;generalize z:(x-gd w.init.count (gd w.ac k).aq.toNat).toNat=m at*;have b:m<L (fj w.ac (gd w.ac k).aq k):=(by omega);obtain⟨r,A⟩:=QC (l:=w.ac) (t:=(gd w.ac k).aq) (show k<=L w.ac by omega);have i:gd (aRQ w.ac (gd w.ac k).aq<|L w.ac) m=((gd (fj w.ac (gd w.ac k).aq k) m:Nat):Int):=(by grind [aRQ,bT]);rw[i];have p:gd (fj w.ac (gd w.ac k).aq k) m<k:=(by have:=ig b;exact fq.1 (jW.1 this).1);refine⟨⟨by omega,by omega⟩,?_⟩;grind [bT]
def an6{w:am}(h:xv w)(l:hU w):tP w:=by have i:∀k,k<L w.ac->∀x,x∈(gd w.ac k).dI\/x∈(gd w.ac k).ep-> -1000<=x/\x<=1000:=λk a x d=>⟨(h.rd k a x d).1,(h.rd k a x d).2.1⟩;refine⟨h.ct.1,(by grind [xv.ct,ii]),λk a=>⟨?_,by grind⟩,λk a=>⟨?_,by grind⟩,(by grind [an7]),by grind [an7]⟩;(all_goals have c:=(h.wo.wo.en k a).2;simp only[be3,bip,eH,cP,fK,j4] at c;obtain⟨_,_,_,_,⟨f,g⟩,_⟩:=c;have j:=(h.wo.wo.named a).2);rcases oD (L (gd w.ac k).dI) with b|b;omega;have e:=yq f (L (gd w.ac k).dI-1) (by omega);grind [ig];rcases oD (L (gd w.ac k).ep) with b|b;omega;have e:=yq g (L (gd w.ac k).ep-1) (by omega);grind [ig]
theorem D5{w:am}{x:aH8}:x∈lr (L w.ac) (L w.ac)↔x.kind=1/\aF (L w.ac) x.a/\aF (L w.ac) x.b/\x.a≠x.b:=by obtain⟨kd,a,b⟩:=x;simp only[lr,nB,iI,fq,dN,jW,j4,aH8.mk.injEq];constructor;rintro⟨i,g,j,⟨h,e⟩,rfl,rfl,rfl⟩;exact⟨rfl,⟨by omega,by omega⟩,⟨by omega,by omega⟩,e⟩;rintro⟨rfl,c,d,f⟩;refine⟨a.toNat,by have:=c.1;have:=c.2;omega,b.toNat,⟨by have:=d.1;have:=d.2;omega,?_⟩,rfl,kA c.1,kA d.1⟩;rw[kA c.1,kA d.1];exact f
theorem Qs{w:am}{x:aH8}:x∈cw w↔x∈lr (L w.ac) (L w.ac)\/x∈mK (L w.ac)\/x∈kh w.ac (L w.ac)\/x∈ki w (L w.ac)\/x∈jp w (L w.ac):=by grind [cw]
theorem D6{n:Nat}{x:aH8}:x∈mK n↔∃a:Nat,a<n/\x=⟨2,a,0⟩:=by grind [mK]
theorem D7{l:List aP}{n:Nat}{x:aH8}:x∈kh l n↔∃a:Nat,a<n/\fR (gd l a)=U/\x=⟨3,a,0⟩:=by grind [kh]
theorem ant{w:am}{n:Nat}{x:aH8}:x∈ki w n↔∃a:Nat,a<n/\∃s∈dx w a,x=⟨4,a,s⟩:=by grind [ki]
def anG{w:am}(b:L (cw w)<100000):jb w (cw w):=by refine⟨b,(by grind [Qs,D5]),λx a=>Qs.2<|.inr<|.inl<|D6.2 ⟨x.toNat,by have:=a.1;have:=a.2;omega,by rw[kA a.1]⟩,λx a c=>Qs.2<|.inr<|.inr<|.inl<|D7.2 ⟨x.toNat,by have:=a.1;have:=a.2;omega,c,by rw[kA a.1]⟩⟩
theorem D8{w:am}{n:Nat}{x:aH8}:x∈jp w n↔∃a:Nat,a<n/\pN (gd w.ac a)=U/\∃s∈mR w (gd w.ac a).bF (gd w.ac a).aq,x=⟨5,a,s⟩:=by simp only[jp,iI,fq,pR];grind
theorem yH{p:Nat->Bool}{k:Nat}{s:Int}(h:s∈fw p k):∃i:Nat,i<k/\p i=U/\s=i:=by obtain⟨i,a,rfl⟩:=dN.1 h;grind
theorem anE{w:am}(a:L w.ac<=16)(g:L w.init.bW.ay<=4):L (cw w)<2000/\L (jp w<|L w.ac)<=320:=by have b:=AS (L w.ac)<|L w.ac;have c:=AT<|L w.ac;have d:=AU w.ac<|L w.ac;have e:=AW w<|L w.ac;have f:=Qv w<|L w.ac;have m1:L w.ac*L w.ac<=16*16:=xn a a;have h:L w.ac*(1+L w.ac)<=16*17:=(by grind);have i:L w.ac*(L w.init.bW.ay+L w.ac)<=16*20:=xn a (by omega);simp only[cw,a6G];omega
theorem Qf{w:am}:aR (cw w) 5=jp w (L w.ac):=by have a:∀{l:List aH8} {k:Int},(∀x∈l,x.kind=k)->k≠5->l.filter (λx=>Q<|x.kind=5)=[]:=(by simp_all);have b:∀{l:List aH8},(∀x∈l,x.kind=5)->l.filter (λx=>Q<|x.kind=5)=l:=(by simp);simp only[aR,cw,me];rw[a (k:=1) (by grind [D5]) (by decide),a (k:=2) (by grind [D6]) (by decide),a (k:=3) (by grind [D7]) (by decide),a (k:=4) (by grind [ant]) (by decide),b<|by grind [D8]];simp
def Rq{w:am}(m:L w.ac<=16)(l:L w.init.bW.ay<=4):sE w (cw w):=by refine⟨λx b=>?_,by grind [Qf,anE]⟩;rw[Qf] at b;obtain⟨a,d,j,s,hs,rfl⟩:=D8.1 b;refine⟨⟨by simp,by simpa using d⟩,by grind,λc=>?_⟩;simp only at c⊢;rcases dF.1 hs with h|h;obtain⟨t,f,rfl⟩:=dN.1 h;grind [yH];obtain⟨i,g,k,rfl⟩:=yH h;refine⟨⟨by omega,by omega⟩,λe=>?_⟩;grind [wV]
theorem Kt{w:am}{r:Nat}{s:Int}(h:s∈dx w r):(s= -1\/0<=s)/\(0<=s->aF (L w.ac) s/\s≠(r:Int)):=by unfold dx at h;(cases a:(dh (r:Int) (L w.ac)&&fR (gd w.ac (r:Int).toNat)));grind;rw[a] at h;simp only[bdZ] at h;rcases dF.1 h with h|h;grind;obtain⟨i,b,c,rfl⟩:=yH h;refine⟨.inr (by omega),λ_=>⟨⟨by omega,by omega⟩,λe=>?_⟩⟩;grind [mr,aTG]
def al6{α β:Type}{p:β->Bool}{f:α->List β}:∀{l:List α},(l.flatMap f).filter p=l.flatMap λa=>(f a).filter p
 |[]=>rfl
 |a::l=>by rw[Cz,Cz,me,al6]
def amd{β:Type}{f:Nat->List β}{r:Nat}:∀{n:Nat},(∀a,a≠r->f a=[])->(aH n).flatMap f=if r<n then f r else[]
 |0,_=>by simp
 |n+1,h=>by
  rw[aNG,amd (n:=n) h]
  grind
def aId{w:am}(f:L w.ac<=16):GU w (cw w):=by refine⟨λr c d=>?_,λr s hs=>(Kt hs).2,by grind [vU]⟩;have b:∀{l:List aH8} {k:Int},(∀x∈l,x.kind=k)->k≠4->l.filter (oa r)=[]:=(by grind [RK,oa]);simp only[cw,me];rw[b (k:=1) (by grind [D5]) (by decide),b (k:=2) (by grind [D6]) (by decide),b (k:=3) (by grind [D7]) (by decide),b (l:=jp w<|L w.ac) (k:=5) (by grind [D8])<|by decide];simp only[dW,cL];rw[ki,al6,amd (r:=r)<|λa e=>?_,f8 c];grind [GA,oa];grind [RK,oa]
def Ec{β:Type}{f:Nat->List β}:∀{n:Nat},(∀a,(f a).Nodup)->(∀a c,a≠c->∀x∈f a,x∉f c)->((aH n).flatMap f).Nodup
 |0,_,_=>by simp
 |n+1,b,d=>by
  rw[aNG,xl]
  refine⟨Ec b d,b n,λx g y h e=>?_⟩
  grind
def wC{α β:Type}{f:α->β}{l:List α}(c:∀a b,f a=f b->a=b)(h:l.Nodup):(l.map f).Nodup:=by grind
theorem Qw{p:Nat->Bool}{k:Nat}:(fw p k).Nodup:=wC (λa b h=>by omega)<|Cr.filter _ GM
theorem aEo{w:am}{r:Nat}:(dx w r).Nodup:=by unfold dx;grind [Qw,yH]
theorem aEp{w:am}{c u:Int}:(mR w c u).Nodup:=by grind [mR,iH,Qw,yH]
def aEm{w:am}:(cw w).Nodup:=by have f:(lr (L w.ac)<|L w.ac).Nodup:=(by refine Ec (λa=>?_) λa c e x b d=>?_;exact wC (λi j h=>by simp only[aH8.mk.injEq] at h;omega)<|Cr.filter _ GM;obtain⟨i,_,rfl⟩:=dN.1 b;obtain⟨j,_,h⟩:=dN.1 d;grind);have g:(mK<|L w.ac).Nodup:=wC (λi j h=>by simp only[aH8.mk.injEq] at h;omega) GM;have k:(kh w.ac<|L w.ac).Nodup:=wC (λi j h=>by simp only[aH8.mk.injEq] at h;omega)<|Cr.filter _ GM;have l:(ki w<|L w.ac).Nodup:=(by refine Ec (by grind [aEo]) λa c e x b d=>?_;grind);have m:(jp w<|L w.ac).Nodup:=(by refine Ec (λa=>?_) λa c e x b d=>?_;grind [pR,aEp];grind [pR]);have n:∀x∈lr (L w.ac) (L w.ac),x.kind=1:=λx b=>(D5.1 b).1;have o:∀x∈mK (L w.ac),x.kind=2:=(by grind [D6]);have p:∀x∈kh w.ac (L w.ac),x.kind=3:=(by grind [D7]);have q:∀x∈ki w (L w.ac),x.kind=4:=(by grind [ant]);have r:∀x∈jp w (L w.ac),x.kind=5:=(by grind [D8]);unfold cw;rw[xl,xl,xl,xl];grind
def gZ(w:J9)(lock:Int)(e:aP):Bool:=Q<|mM w lock e=lock
def boU(E:aP->Bool)(l:List aP)(x:bp)(i:Nat):Bool:=Q (x.dD<i)&&(Q ((gd l i).aq=x.aq)&&E (gd l i))
def fT(E:aP->Bool)(l:List aP)(x:bp):Nat->Int|0=> -1|k+1=>bif Q (fT E l x k<0)&&boU E l x k then k else fT E l x k
def gk(E:aP->Bool)(l:List aP)(k:Nat)(x:bp):bp:={x with dY:=fT E l x k}
theorem El{E:aP->Bool}{l:List aP}{x:bp}:∀{k:Nat},(∀i,i<k->boU E l x i=I)->fT E l x k= -1
 |0,_=>rfl
 |k+1,h=>by
  rw[fT,h k (by omega),bsm,bdT,El<|by grind]
def aob{E:aP->Bool}{l:List aP}{x:bp}{i:Nat}(h:∀j,j<i->boU E l x j=I)(c:boU E l x i=U):∀{k:Nat},i<k->fT E l x k=i
 |0,b=>by omega
 |k+1,b=>by
  rcases jj i k with a|a
  ·rw[fT,aob h c a,bqL (by omega),Bool.false_and,bdT]
  grind [fT,El]
def an9{E:aP->Bool}{l:List aP}{x:bp}:∀{k:Nat},fT E l x k= -1\/∃i:Nat,i<k/\boU E l x i=U/\fT E l x k=i
 |0=> .inl rfl
 |k+1=>by
  rw[fT]
  cases d:(Q (fT E l x k<0)&&boU E l x k) with
  |true=>
   grind
  |false=>
   rw[bdT]
   rcases an9 (E:=E) (l:=l) (x:=x) (k:=k) with h|⟨i,a,b,c⟩
   ·exact .inl h
   grind
def oF(w:J9)(lock:Int)(l:List aP)(k:Nat):List bp:=(aH k).flatMap λi=>oY w lock (gd l i) i
def nu(w:J9)(s:aW)(lock:Int):List bp:=(aH<|L s.ay).flatMap<|bqI w s lock
theorem zL{w:J9}{lock:Int}{l:List aP}{k:Nat}{x:bp}(h:x∈oF w lock l k):∃i:Nat,i<k/\lK w lock (gd l i)=lock/\x=⟨(gd l i).aq,i,-1,(dD w<|gd l i).2⟩:=by obtain⟨i,a,b⟩:=iI.1 h;grind [oY]
theorem uu{w:J9}{s:aW}{lock:Int}{x:bp}(h:x∈nu w s lock):∃u:Nat,u<L s.ay/\x.aq=u/\x.dD= -1/\x.dY= -1/\(if lock=L w.ak then s.tx=u/\x.read=I else if x.read=U then(u:Int)∈(gd s.ak lock.toNat).bk else(gd s.ak lock.toNat).awG=u):=by obtain⟨u,c,a⟩:=iI.1 h;refine⟨u,fq.1 c,?_⟩;unfold bqI at a;by_cases b:lock=L w.ak;simp_all;rw[dB b] at a;rw[dB b];rcases dF.1 a with a|a;grind [pJ];grind [pK]
def aos{w:J9}{s:aW}{l:List aP}{lock:Int}:∀{k:Nat},dZ w s l lock k=(nu w s lock++oF w lock l k).map (gk (gZ w lock) l k)
 |0=>by
  simp only[dZ,oF,List.range_zero,RN,cL]
  refine(brw _).symm.trans (ja λx a=>?_)
  obtain⟨u,i,b,d,c,_⟩:=uu a
  cases x
  simp only at c
  subst c
  rfl
 |k+1=>by
  rw[dZ,aos]
  have e:∀x∈nu w s lock++oF w lock l k,x.dD<(k:Int):=by
   grind [uu,zL]
  have f:oF w lock l (k+1)=oF w lock l k++oY w lock (gd l k) k:=aNG
  rw[f,<-bje]
  conv=>rhs;rw[dg]
  congr 1
  ·unfold tv
   by_cases g:mM w lock (gd l k)=lock
   ·rw[f8 g,vA]
    refine ja λx a=>?_
    have:=e x a
    have h:fT (gZ w lock) l x (k+1)=bif Q (fT (gZ w lock) l x k<0)&&boU (gZ w lock) l x k then(k:Int) else fT (gZ w lock) l x k:=rfl
    by_cases b:x.aq=(gd l k).aq/\fT (gZ w lock) l x k<0
    ·have d:ma (gd l k).aq k (gk (gZ w lock) l k x)={gk (gZ w lock) l k x with dY:=k}:=f8 b
     grind [gk,boU,gZ]
    ·have d:ma (gd l k).aq k (gk (gZ w lock) l k x)=gk (gZ w lock) l k x:=dB b
     have c:(Q (fT (gZ w lock) l x k<0)&&boU (gZ w lock) l x k)=I:=by
      grind [boU]
     grind [gk]
   grind [ja,gk,fT,boU,gZ]
  ·refine(brw _).symm.trans (ja λx a=>?_)
   grind [oY,gk,El,boU]
def Q5{w:J9}{s:aW}{l:List aP}{lock:Int}:jE w s l lock=(nu w s lock++oF w lock l (L l)).map (gk (gZ w lock) l<|L l):=aos
def xo(w:J9)(Lw:Int)(s:aW)(x:bp):Prop:=
 if Lw=L w.ak then s.tx=x.aq/\x.read=I else if x.read=U then x.aq∈(cH s Lw).bk else(cH s Lw).awG=x.aq
def alS{w:J9}{s:aW}{t a bF:Int}(h:jm w s t a bF=U):lc w s t a bF=U/\named w a bF=U/\aF (L w.ay) t/\lh w s=U:=by grind [jm,dX]
theorem aDe{s:aW}{Lw:Int}{a:cg}(h:aF (L s.ak) Lw):cH (I9 s Lw a) Lw=a:=Af h
def aDf{s:aW}{i Lw:Int}{a:cg}(b:0<=i)(c:0<=Lw)(h:i≠Lw):cH (I9 s i a) Lw=cH s Lw:=by grind [cH,I9,gd]
theorem aFa{l:List Int}{t x:Int}(h:x∈l\/x=t):x∈fk l t:=by induction l with|nil=>grind [fk]|cons y l a=>grind [fk]
def Qk{s:aW}{i:Int}{t:aoC}{Lw:Int}:cH (ni s i t) Lw=cH s Lw:=rfl
def ane{Lw:Int}:∀{l:List Int} {s:aW},cH (l.foldl (λs u=>Ab.ni s u {fA s u with cQ:=4}) s) Lw=cH s Lw|[],_=>rfl|u::l,s=>(ane (l:=l)).trans Qk
theorem apE:∀{l:List Int} {s:aW},(l.foldl (λs u=>Ab.ni s u {fA s u with cQ:=4}) s).tx=s.tx|[],_=>rfl|u::l,s=>(apE (l:=l)).trans rfl
theorem aIL{w:J9}{s:aW}{t a bF amt:Int}(o:a≠12)(p:a≠13):(cU w s t a bF amt).1.tx=s.tx:=by unfold cU;rw[dB o,dB p];by_cases g:a=1;rw[f8 g];rfl;rw[dB g];by_cases i:a=2;rw[f8 i];rfl;rw[dB i];by_cases k:a=6\/a=10;rw[f8 k];rfl;rw[dB k];by_cases l:a=7\/a=11;rw[f8 l];rfl;rw[dB l];by_cases m:a=8;rw[f8 m];rfl;rw[dB m];by_cases n:a=9;rw[f8 n];rfl;rw[dB n];by_cases b:a=14;rw[f8 b];rfl;rw[dB b];by_cases c:a=15;rw[f8 c];rfl;rw[dB c];by_cases d:a=16;rw[f8 d];rfl;rw[dB d];by_cases e:a=17;rw[f8 e];rfl;rw[dB e];by_cases f:a=18;rw[f8 f];split<;>rfl;rw[dB f];by_cases h:a=19;grind [apE];rw[dB h];by_cases j:a=20;rw[f8 j];rfl;grind
theorem aDg{w:J9}{s:aW}{t a bF amt Lw:Int}(h:¬(6<=a/\a<=11))(b:a≠16)(c:a≠17):cH (cU w s t a bF amt).1 Lw=cH s Lw:=by unfold cU;rw[dB (show¬(a=6\/a=10) by omega),dB (show¬(a=7\/a=11) by omega),dB (show¬(a=8) by omega),dB (show¬(a=9) by omega),dB b,dB c];(repeat' split);all_goals first|rfl|exact ane
def yu{w:J9}{s:aW}{i Lw:Int}{a:cg}{x:bp}(c:0<=i)(b:aF (L s.ak) Lw)(e:if x.read=U then x.aq∈(cH s Lw).bk else(cH s Lw).awG=x.aq)(h:i=Lw->if x.read=U then x.aq∈a.bk else a.awG=x.aq):if x.read=U then x.aq∈(cH (I9 s i a) Lw).bk else(cH (I9 s i a) Lw).awG=x.aq:=by by_cases d:i=Lw;grind [aDe];rw[aDf c b.1 d];exact e
def aEW{w:J9}{s:aW}{e:aP}{amt Lw:Int}{x:bp}(r:jm w s e.aq e.kind e.bF=U)(t:0<=Lw/\Lw<=L w.ak)(E:∀l∈s.ak,jC l.bk)(G:0<=x.aq)(b:xo w Lw s x)(p:¬(x.aq=e.aq/\mM w Lw e=Lw)):xo w Lw (cU w s e.aq e.kind e.bF amt).1 x:=by
 obtain⟨A,f,F,u⟩:=alS r
 obtain⟨fc,fl,D,y⟩:=iY u
 unfold xo at b⊢
 by_cases n:Lw=L w.ak
 ·rw[f8 n] at b⊢
  refine⟨?_,b.2⟩
  have k:mM w Lw e=bif Q (e.kind=13) then Lw else-1:=by rw[mM,brS n];rfl
  by_cases B:e.kind=12
  ·grind [lc]
  grind [lc,aIL]
 ·rw[dB n] at b⊢
  have z:aF (L w.ak) Lw:=⟨t.1,by omega⟩
  have d:aF (L s.ak) Lw:=by simp_all
  have k:mM w Lw e=(dY w e).1:=by rw[mM,bqL n];rfl
  have j:∀{c:Int},aF (L w.bC) c->0<=(gd w.bC c.toNat).eg/\sd w c=(gd w.bC c.toNat).eg:=(by grind [ii,sd,dX])
  by_cases H:e.kind=6\/e.kind=10
  ·have a:=mJ f (by omega) (by omega)
   have o:(gd s.ak e.bF.toNat).awG= -1:=by
    grind [lc]
   rw[show(cU w s e.aq e.kind e.bF amt).1=I9 s e.bF {cH s e.bF with awG:=e.aq} from by
    grind [cU]]
   refine yu (w:=w) a.1 d b λi=>?_
   grind [cH]
  by_cases K:e.kind=7\/e.kind=11
  ·have a:=mJ f (by omega) (by omega)
   have o:(gd s.ak e.bF.toNat).awG=e.aq:=by
    grind [lc]
   rw[show(cU w s e.aq e.kind e.bF amt).1=I9 s e.bF {cH s e.bF with awG:= -1} from by
    grind [cU]]
   refine yu (w:=w) a.1 d b λi=>?_
   grind [dY,cH]
  by_cases M:e.kind=8
  ·have a:=mJ f (by omega) (by omega)
   rw[show(cU w s e.aq e.kind e.bF amt).1=I9 s e.bF {cH s e.bF with bk:=mP (cH s e.bF).bk [e.aq]} from by
    grind [cU]]
   refine yu (w:=w) a.1 d b λi=>?_
   grind [cH,Ro,ii,aFa]
  by_cases v:e.kind=9
  ·have a:=mJ f (by omega) (by omega)
   rw[show(cU w s e.aq e.kind e.bF amt).1=I9 s e.bF {cH s e.bF with bk:=fJ (cH s e.bF).bk e.aq} from by
    grind [cU]]
   refine yu (w:=w) a.1 d b λi=>?_
   have m:(dY w e).1=e.bF:=by simp[dY,v]
   subst i
   split
   ·rename_i g;rw[f8 g] at b
    simp only
    refine jW.2 ⟨b,brS λh=>p ⟨h,by rw[k,m]⟩⟩
   simp_all
  by_cases q:e.kind=16
  ·have a:=oT f (by omega) (by omega)
   have o:(gd s.ak (gd w.bC e.bF.toNat).eg.toNat).awG=e.aq:=by
    grind [lc]
   rw[show(cU w s e.aq e.kind e.bF amt).1=ni (I9 s (gd w.bC e.bF.toNat).eg {cH s (gd w.bC e.bF.toNat).eg with awG:= -1}) e.aq {fA s e.aq with cQ:=3,cond:=e.bF} from by
    grind [cU]]
   rw[Qk]
   refine yu (w:=w) (j a).1 d b λi=>?_
   have m:(dY w e).1=(gd w.bC e.bF.toNat).eg:=by simp[dY,q,(j a).2]
   subst i
   split
   ·rename_i g;rw[f8 g] at b;exact b
   ·rename_i g;rw[dB g] at b;rw[cH] at b
    exact aNK ⟨by omega,by rw[k,m]⟩ p
  by_cases C:e.kind=17
  ·have a:=oT f (by omega) (by omega)
   have o:(gd s.ak (gd w.bC e.bF.toNat).eg.toNat).awG= -1:=by
    grind [lc]
   rw[show(cU w s e.aq e.kind e.bF amt).1=ni (I9 s (gd w.bC e.bF.toNat).eg {cH s (gd w.bC e.bF.toNat).eg with awG:=e.aq}) e.aq {fA s e.aq with cQ:=2,cond:=0} from by
    grind [cU]]
   rw[Qk]
   refine yu (w:=w) (j a).1 d b λi=>?_
   grind [cH]
  grind [aDg]
def asn{w:J9}{s:aW}{e:aP}{Lw:Int}{p:bp}(h:jm w s e.aq e.kind e.bF=U)(v:0<=Lw/\Lw<=L w.ak)(x:0<=p.aq)(c:xo w Lw s p)(k:lK w Lw e=Lw)(o:¬(p.read=U/\(dD w e).2=U))(g:Lw≠L w.ak->p.read=U->(gd w.ak Lw.toNat).rw=U)(d:∀j,j<L w.bC->uh w j=I):False:=by obtain⟨n,f,z,l⟩:=alS h;obtain⟨fc,fl,r,m⟩:=iY l;unfold xo at c;by_cases b:Lw=L w.ak;grind [lK,lc];rw[dB b] at c;rw[lK,bqL b,bdT] at k;have A:=g b;by_cases B:e.kind=6\/e.kind=10;grind [lc,dD,named,cH];by_cases C:e.kind=8;grind [lc,dD,cH];by_cases q:e.kind=17;have a:=oT f (by omega) (by omega);have u:(gd s.ak (gd w.bC e.bF.toNat).eg.toNat).awG= -1:=(by grind [lc]);have i:(gd w.bC e.bF.toNat).eg=Lw:=(by grind [dD,sd]);subst i;split at c;rename_i y;have t:=d e.bF.toNat (by have:=a.1;have:=a.2;omega);grind [uh];grind [cH];grind [dD]
theorem QP{E:aP->Bool}{l:List aP}{x:bp}{m:Nat}:∀{n:Nat},m<=n->fT E l x n<0->fT E l x m<0
 |0,h,b=>by simp_all
 |n+1,h,b=>by
  rcases jj n m with a|a
  ·grind
  ·refine QP a ?_
   grind [fT]
def axy{w:J9}(h:mQ w=U):∀j,j<L w.bC->uh w j=I:=by grind [mQ]
theorem amB{w:am}(h:vL w){Lw:Int}(d:0<=Lw/\Lw<=L w.aQ.ak){y:bp}(b:y∈nu w.aQ w.init.bW Lw):∀{k:Nat},k<=L w.ac->fT (gZ w.aQ Lw) w.ac y k<0->xo w.aQ Lw (cY w k).bW y
 |0,_,_=>by
  obtain⟨u,j,c,f,g,a⟩:=uu b
  rw[<-c] at a
  exact a
 |k+1,m,i=>by
  obtain⟨u,j,c,f,g,a⟩:=uu b
  have e:=QP (show k<=k+1 by omega) i
  have n:boU (gZ w.aQ Lw) w.ac y k=I:=by
   grind [fT]
  rw[aoF h<|by omega]
  refine aEW (Kk h<|by omega).1 d (by grind [kQ.rd,vL.sy]) (by omega) (amB h d b (by omega) e) λl=>?_
  grind [boU,gZ]
def Bx{w:am}(h:bcV w=U):(∀j,j<L w.init.bW.ak->uD w j)/\yS w=I/\mQ w.aQ=U/\lh w.aQ w.init.bW=U/\L w.init.count=L w.aQ.ay:=by have a:=(aQA h).1;simp only[oh,cP,fK,j5] at a;grind [ny,fN]
def amr{l:List bp}{f:bp->bp}{i:Nat}(h:i<L l):gd (l.map f) i=f (gd l i):=by grind [bT]
def amq{A B:List bp}{i:Nat}(h:i<L (A++B)):(i<L A/\gd (A++B) i∈A)\/(L A<=i/\gd (A++B) i∈B):=by grind [bT]
theorem anV{w:am}(R:hU w)(G:bcV w=U){Lw:Int}(M:0<=Lw/\Lw<=L w.aQ.ak):∀i j,i<j->j<L (jE w.aQ w.init.bW w.ac Lw)->(gd (jE w.aQ w.init.bW w.ac Lw) i).aq≠(gd (jE w.aQ w.init.bW w.ac Lw) j).aq->¬((gd (jE w.aQ w.init.bW w.ac Lw) i).read=U/\(gd (jE w.aQ w.init.bW w.ac Lw) j).read=U)->Sd (L w.ac) (gd (jE w.aQ w.init.bW w.ac Lw) i) (gd (jE w.aQ w.init.bW w.ac Lw) j):=by have O:=vd R G;obtain⟨C,ag,H,B,ab⟩:=Bx G;obtain⟨fc,fl,fd,X⟩:=iY B;rw[Q5];intro i j ad r;simp only[bJ] at r;rw[amr (show i<_ by omega),amr r];have ci:=amq (show i<L (nu w.aQ w.init.bW Lw++oF w.aQ Lw w.ac (L w.ac)) by omega);have c:=amq r;generalize gd (nu w.aQ w.init.bW Lw++oF w.aQ Lw w.ac (L w.ac)) i=p at ci⊢;generalize gd (nu w.aQ w.init.bW Lw++oF w.aQ Lw w.ac (L w.ac)) j=q at c⊢;simp only[gk];intro d n;have g:∀y:bp,0<=fT (gZ w.aQ Lw) w.ac y (L w.ac)->aF (L w.ac) (fT (gZ w.aQ Lw) w.ac y<|L w.ac)/\(gd w.ac (fT (gZ w.aQ Lw) w.ac y<|L w.ac).toNat).aq=y.aq:=(by intro y f;rcases an9 (E:=gZ w.aQ Lw) (l:=w.ac) (x:=y) (k:=L w.ac) with h|⟨a,z,hs,he⟩;omega;grind [boU,dJ]);refine⟨λh=>(g p h).1,λs=>?_,λs=>?_⟩;rcases c with⟨_,c⟩|⟨_,c⟩;grind [uu];obtain⟨m,S,A,rfl⟩:=zL c;simp only at d n⊢;have cp:p∈nu w.aQ w.init.bW Lw:=(by rcases ci with⟨_,ci⟩|⟨_,ci⟩;exact ci;obtain⟨m',ae,_,rfl⟩:=zL ci;simp only at s;omega);have af:0<=fT (gZ w.aQ Lw) w.ac p (L w.ac):=(by rcases Int.lt_or_le (fT (gZ w.aQ Lw) w.ac p<|L w.ac) 0 with f|f;exfalso;obtain⟨u,F,t,o,v,K⟩:=uu cp;refine asn (Kk O S).1 M (by omega) (by grind [amB,QP]) A n (λN D=>?_)<|axy H;rw[dB N,f8 D] at K;have h5:=(C Lw.toNat<|by omega).1;grind [AM];exact f);grind [dJ];simp only at s;obtain⟨a,z,Z,rfl⟩:∃a:Nat,a<L w.ac/\lK w.aQ Lw (gd w.ac a)=Lw/\p=⟨(gd w.ac a).aq,a,-1,(dD w.aQ<|gd w.ac a).2⟩:=(by rcases ci with⟨_,ci⟩|⟨_,ci⟩;obtain⟨u,F,t,o,v,_⟩:=uu ci;omega;exact zL ci);obtain⟨b,P,aa,rfl⟩:∃a:Nat,a<L w.ac/\lK w.aQ Lw (gd w.ac a)=Lw/\q=⟨(gd w.ac a).aq,a,-1,(dD w.aQ<|gd w.ac a).2⟩:=(by rcases ci with⟨T,ci⟩|⟨T,ci⟩;obtain⟨u,F,t,o,v,_⟩:=uu ci;simp only at o;omega;rcases c with⟨W,c⟩|⟨W,c⟩;omega;exact zL c);simp only at d⊢;refine⟨dJ z,dJ P,λe=>d ?_,λf=>⟨(g _ f).1,λe=>d ?_⟩,λf=>⟨(g _ f).1,λe=>d ?_⟩⟩;grind;grind;grind
def sJ(w:J9)(lock:Int)(e:aP):Bool:=bif Q (e.kind=6)||(Q (e.kind=8)||Q (e.kind=10)) then Q (e.bF=lock) else bif Q (e.kind=17) then Q ((gd w.bC e.bF.toNat).eg=lock) else I
def sQ(w:J9)(lock:Int)(e:aP):Bool:=bif Q (e.kind=7)||(Q (e.kind=9)||Q (e.kind=11)) then Q (e.bF=lock) else bif Q (e.kind=16) then Q ((gd w.bC e.bF.toNat).eg=lock) else I
def tG(x:bp):bp:={x with dY:=0}
def aoc{E:aP->Bool}{l:List aP}{x:bp}:∀{n:Nat},fT E l (tG x) n=fT E l x n
 |0=>rfl
 |n+1=>by simp only[fT,aoc (n:=n)];rfl
theorem aMY{E:aP->Bool}{l:List aP}{n:Nat}{x:bp}:gk E l n (tG x)=gk E l n x:=by simp only[gk,aoc];rfl
theorem aoa{E a:aP->Bool}{l:List aP}{x:bp}:∀{n:Nat},(∀i,i<n->E (gd l i)=a (gd l i))->fT E l x n=fT a l x n
 |0,_=>rfl
 |n+1,h=>by
  have c:=aoa (x:=x) (n:=n) λi b=>h i (by omega)
  grind [fT,boU]
def mq(B:aP->Bool)(l:List aP)(k:Nat):List bp:=(aH k).flatMap λi=>if B (gd l i)=U then[⟨(gd l i).aq,i,0,Q<|(gd l i).kind=8⟩] else[]
def aso{w:J9}{e:aP}:(dD w e).2=Q (e.kind=8):=by grind [dD]
def awn{w:J9}{Lw:Int}{l:List aP}{B:aP->Bool}{k:Nat}(h:∀i,i<k->B (gd l i)=Q (lK w Lw (gd l i)=Lw)):mq B l k=(oF w Lw l k).map tG:=by unfold mq oF;rw[RT];have:∀(m:Nat),m<=k->(aH m).flatMap (λi=>if B (gd l i)=U then[(⟨(gd l i).aq,i,0,Q<|(gd l i).kind=8⟩:bp)] else[])=(aH m).flatMap λi=>(oY w Lw (gd l i) i).map tG:=(by intro m;induction m with|zero=>intro _;rfl|succ m b=>intro c;rw[aNG,aNG,b (by omega)];congr 1;rw[h m (by omega),oY];by_cases a:lK w Lw (gd l m)=Lw;rw[f8<|brS a,f8 a,aso];rfl;simp_all);simp_all
def aor{w:J9}{s:aW}{l:List aP}{Lw:Int}{H:List bp}{B E:aP->Bool}(b:H=(nu w s Lw).map tG)(a:∀i,i<L l->B (gd l i)=Q (lK w Lw (gd l i)=Lw))(c:∀i,i<L l->E (gd l i)=Q (mM w Lw (gd l i)=Lw)):(H++mq B l (L l)).map (gk E l<|L l)=jE w s l Lw:=by rw[Q5,b,awn a,<-dg,vA];refine ja λx _=>?_;grind [aMY,gk,aoa,gZ]
def qH(s:aW)(lock:Int)(u j:Nat):List bp:=(((gd s.ak lock.toNat).bk.take j).filter λx:Int=>Q<|x=(u:Int)).map λ_=>⟨u,-1,0,U⟩
def qG(s:aW)(lock:Int)(u:Nat):List bp:=if(gd s.ak lock.toNat).awG=u then[⟨u,-1,0,I⟩] else qH s lock u (L (gd s.ak lock.toNat).bk)
def qF(s:aW)(lock:Int)(k:Nat):List bp:=(aH k).flatMap<|qG s lock
def aBN{w:J9}{s:aW}{lock:Int}(c:lock≠L w.ak)(h:(gd s.ak lock.toNat).awG≠-1->(gd s.ak lock.toNat).bk=[]):qF s lock (L s.ay)=(nu w s lock).map tG:=by unfold qF nu;rw[RT];have b:qG s lock=λu=>(bqI w s lock u).map tG:=(by funext u;rw[qG,bqI,dB c,pJ];by_cases a:(gd s.ak lock.toNat).awG=u;rw[f8 a,f8 a,pK,h<|by omega];rfl;rw[dB a,dB a,pK,qH,dW,vA];rfl);rw[b]
def sZ(s:aW):List bp:=if 0<=s.tx then[⟨s.tx,-1,0,I⟩] else[]
def aBP{w:J9}{s:aW}(h:s.tx≠-1->aF (L s.ay) s.tx):sZ s=(nu w s<|L w.ak).map tG:=by unfold sZ nu;rw[RT];have c:∀n:Nat,(aH n).flatMap (λu=>(bqI w s (L w.ak) u).map tG)=if 0<=s.tx/\s.tx<n then[⟨s.tx,-1,0,I⟩] else[]:=(by intro n;induction n with|zero=>simp|succ n e=>rw[aNG,e,bqI,f8 rfl];by_cases a:s.tx=n;rw[dB (by omega),f8 a,f8 (by omega),a];rfl;rw[dB a];by_cases d:0<=s.tx/\s.tx<n;grind;rw[dB d,dB<|by omega];rfl);rw[c];by_cases b:s.tx= -1;simp_all;have:=h b;rw[f8 this.1,f8 ⟨this.1,this.2⟩]
def awl{w:J9}{Lw:Int}{e:aP}(a:aF (L w.ak) Lw)(d:named w e.kind e.bF=U):sJ w Lw e=Q (lK w Lw e=Lw):=by have c:Q (Lw=(L w.ak:Int))=I:=bqL (by have:=a.2;omega);have b:¬(-1:Int)=Lw:=(by have:=a.1;omega);grind [lK,sJ,dD,oT,sd,dX]
def axI{w:J9}{Lw:Int}{e:aP}(a:aF (L w.ak) Lw)(d:named w e.kind e.bF=U):sQ w Lw e=Q (mM w Lw e=Lw):=by have c:Q (Lw=(L w.ak:Int))=I:=bqL (by have:=a.2;omega);have b:¬(-1:Int)=Lw:=(by have:=a.1;omega);grind [mM,sQ,dY,oT,sd,dX]
def awm{w:J9}{e:aP}:Q (e.kind=12)=Q (lK w (L w.ak) e=L w.ak):=by grind [lK]
def axJ{w:J9}{e:aP}:Q (e.kind=13)=Q (mM w (L w.ak) e=L w.ak):=by grind [mM]
section
variable{Y:ae}
theorem aDT(f:L Y=4096)(e:aP):∃r b,(r=bv (Q<|e.kind=12)/\Fx Y b [])/\cZ aS GG 164 [.a e.c] Y r b:=by refine aKw f rfl λj k h g i d=>?_;simp only[HQ,u0,u1,d,rk,aj,aNN,aoz,↓uL];grind [Kp.fx]
theorem aDU(f:L Y=4096)(e:aP):∃r b,(r=bv (Q<|e.kind=13)/\Fx Y b [])/\cZ aS GG 165 [.a e.c] Y r b:=by refine aKx f rfl λj k h g i d=>?_;simp only[HR,u0,u1,d,rk,aj,aNN,aoz,↓uL];grind [Kp.fx]
theorem aDE{b:Id}{w:am}{ns:List aH8}{l:List (List Int)}{n D a:AV}{s t k h:Id}{f:Nat->AV}{t1 B:TypeId}{o1 y:Bool}(C:bD Y b w ns l n D a s t f){lock:Int}(v:box Y k=V ⟨t1,1,o1,U,[[iv lock]]⟩)(u:box Y h=V ⟨B,1,y,U,[[.p b 0 0]]⟩)(e:aP)(F:e.kind=17->aF (L w.aQ.bC) e.bF):∃r g,(r=bv (sJ w.aQ lock e)/\Fx Y g [])/\cZ aS GG 161 [.a e.c, .p k 0 0, .p h 0 0] Y r g:=by refine aKj C.le rfl λA H o E G q=>?_;have d:Fx Y A []:=o.fx [];have m:=C.fx d;have bx:=m.bx;have j:=d.kq v;have i:=d.kq u;have z:∀{x:AV},aN J [x]=V x:=λ{x}=>rfl;simp+contextual only[Hq,a7i,qz 23,qz 21,aI,au,u0,u1,q,j,i,aPF bx,bx,rkC,z,rk,ix,iy,aj,aNN,aoz,sr,eE,aPy,aYF,zp,↓uL];grind [sJ]
theorem aDF{b:Id}{w:am}{ns:List aH8}{l:List (List Int)}{n D a:AV}{s t k h:Id}{f:Nat->AV}{t1 B:TypeId}{o1 y:Bool}(C:bD Y b w ns l n D a s t f){lock:Int}(v:box Y k=V ⟨t1,1,o1,U,[[iv lock]]⟩)(u:box Y h=V ⟨B,1,y,U,[[.p b 0 0]]⟩)(e:aP)(F:e.kind=16->aF (L w.aQ.bC) e.bF):∃r g,(r=bv (sQ w.aQ lock e)/\Fx Y g [])/\cZ aS GG 162 [.a e.c, .p k 0 0, .p h 0 0] Y r g:=by refine aKk C.le rfl λA H o E G q=>?_;have d:Fx Y A []:=o.fx [];have m:=C.fx d;have bx:=m.bx;have j:=d.kq v;have i:=d.kq u;have z:∀{x:AV},aN J [x]=V x:=λ{x}=>rfl;simp+contextual only[Hr,a7i,qz 23,qz 21,aI,au,u0,u1,q,j,i,aPF bx,bx,rkC,z,rk,ix,iy,aj,aNN,aoz,sr,eE,aPy,aYF,zp,↓uL];grind [sQ]
theorem aE0{l:List aP}{t:Int}{n a i:Nat}(c:a<L (fj l t n))(h:i<gd (fj l t n) a)(b:(gd l i).aq=t):∃m,m<a/\gd (fj l t n) m=i:=by have hs:(fj l t n).Pairwise (·<·):=Cr.sublist List.filter_sublist List.pairwise_lt_range;have j:gd (fj l t n) a<n:=fq.1 (jW.1<|ig c).1;have d:i∈fj l t n:=jW.2 ⟨fq.2 (by omega),by simpa using b⟩;obtain⟨m,f,g⟩:=RU.1 d;have e:gd (fj l t n) m=i:=(by grind [bT]);grind [List.pairwise_iff_getElem,bT]
theorem aEZ{l:List aP}{t:Int}{n i:Nat}(c:i<n)(b:(gd l i).aq=t):∃m,m<L (fj l t n)/\gd (fj l t n) m=i:=by have d:i∈fj l t n:=jW.2 ⟨fq.2 c,by simpa using b⟩;obtain⟨m,a,e⟩:=RU.1 d;exact⟨m,a,by grind [bT]⟩
def ko(k:Nat):Prop:=k=20\/k=39\/k=40\/k=55
theorem bD.fxs{b:Id}{w:am}{ns:List aH8}{h:List (List Int)}{n j a:AV}{e g:Id}{f:Nat->AV}{Y':ae}{ks:List Id}(C:bD Y b w ns h n j a e g f)(F:Fx Y Y' ks)(v:∀k∈ks,ko k.1):bD Y' b w ns h n j a e g f:=by obtain⟨t,u⟩:=C.mp;have c:∀q:Id,¬ko q.1->q∉ks:=(by grind);have l:b∉ks:=c b (by rw[C.sb];simp[ko]);have m:e∉ks:=c e (by rw[C.sm];simp[ko]);have o:g∉ks:=c g (by rw[C.so];simp[ko]);have p:∀q∈aA j,q∉ks:=λq d=>c q (by rw[C.sw q d];simp[ko]);have r:∀q∈aA a,q∉ks:=λq d=>c q (by rw[C.sa q d];simp[ko]);exact⟨F.keep _ _ l C.bx,C.nm,⟨t,F.keep _ _ m u⟩,C.gw.fx F p,C.ow.keep F o<|λi s q d=>c q<|by rw[C.ow.pl i s q d];simp[ko],C.gr.fx F r,F.len.trans C.le,C.sb,C.sm,C.so,C.sw,C.sa⟩
theorem awo{B:aP->Bool}{l:List aP}:∀k,L (mq B l k)<=k:=by intro k;induction k with|zero=>simp[mq]|succ k a=>have:mq B l (k+1)=mq B l k++if B (gd l k)=U then[⟨(gd l k).aq,k,0,Q<|(gd l k).kind=8⟩] else[]:=aNG;grind
theorem awp{B:aP->Bool}{l:List aP}{k:Nat}{x:bp}(h:x∈mq B l k):∃i,i<k/\x.aq=(gd l i).aq:=by obtain⟨i,a,b⟩:=iI.1 h;grind
def CZ{Y:ae}{x:bp}:aX bte 1 Y [(0, .a<|bp.c x)]=V (.l ([x].map bp.c) U U,Y):=ua rfl rfl rfl (by decide) rfl (by decide)
theorem ann{b:Id}{w:am}{ns:List aH8}{bn:List (List Int)}{n wk a a1 fb fe:AV}{bm bo:Id}{f:Nat->AV}{hs:List bp}{B E:aP->Bool}(C:bD Y b w ns bn n wk a bm bo f)(hw:L w.ac<=16)(cd:L hs<=80)(cn:∀i,i<L w.ac->aF (L w.aQ.ay) (gd w.ac i).aq)(ce:∀x∈hs,aF (L w.aQ.ay) x.aq)(G:bc Y 220 4 a1<|hs.map bp.c)(hp:∀k∈aA a1,ko k.1)(hB:∀Y',Fx Y Y' (aA a1)->∀i,i<L w.ac->∀d K,K (bv<|B<|gd w.ac i) Y'->cF fb [.a (gd w.ac i).c] Y' d K)(hE:∀Y',Fx Y Y' (aA a1)->∀i,i<L w.ac->∀d K,K (bv<|E<|gd w.ac i) Y'->cF fe [.a (gd w.ac i).c] Y' d K):∃r X,(bc X 220 4 r (((hs++mq B w.ac (L w.ac)).map<|gk E w.ac<|L w.ac).map bp.c)/\Fx Y X (aA a1)/\(∀k∈aA r,ko k.1)/\∀k∈aA r,k∈aA a1\/bK Y k)/\cZ aS GG 163 [.p b 0 0,a1,fb,fe] Y r X:=by refine aKs C.le ?_;have bx:=C.bx;have a9:∀{x y:Int} {r:Bool},bM brT bmK [(0,iv x),(1,iv y),(3,bv r)]=V (.a<|bp.c ⟨x,y,0,r⟩):=rfl;simp only[HI,u0,u1,aPF bx,bx,rkC,aj,cT,↓uL];refine jD (α:=AV) (λa i=>[a,iv i]) 1 (L w.ac) (λk r Y'=>bc Y' 220 4 r ((hs++mq B w.ac k).map bp.c)/\Fx Y Y' (aA a1)/\(∀k∈aA r,ko k.1)/\∀k∈aA r,k∈aA a1\/bK Y k) (s0:=a1) (by grind [mq,Fx.refl]) ?_;rintro k r X D ⟨g1,F1,P1,N1⟩;have bi:L X=4096:=F1.len.trans C.le;have C1:=C.fxs F1 hp;have lk:=awo (B:=B) (l:=w.ac) k;simp only[qz 25,au,ck,aI,u0,u1,ix,rk,bh,↓uL];refine⟨λh=>?_,λh=>?_⟩;have ak:=aL h;refine bsK (λe=>∀Z Y2,bc Y2 220 4 Z ((hs++mq B w.ac (k+1)).map bp.c)->Fx Y Y2 (aA a1)->(∀k∈aA Z,ko k.1)->(∀k∈aA Z,k∈aA a1\/bK Y k)->e [Z] Y2) ?_ λe aC=>?_;intro Z Y2 q1 q2 q3 q4;simp only[qz 45,au,ck,aI,u0,u1,↓uL];exact dR (mk:=λa i=>[a,iv i]) (s:=r) (s':=Z) (λ_ _=>rfl) ak (by omega) ⟨q1,q2,q3,q4⟩;simp only[qz 47,qy 2,au,ck,u0,u1,ix,rk,bh,↓uL];refine⟨dJ ak,?_⟩;refine ic bi λv3 Y3 F3 N3 b3=>?_;refine cy (cs:=aP.c<|gd w.ac k) b3 rfl rfl (by decide) λY4 F4 b4=>?_;have ax:box Y4 (11,v3)=V ⟨62,7,U,U,[aP.c<|gd w.ac k]⟩:=b4;have aw:Fx X Y4 []:=(F3.trans F4).mono (by grind [bK.no]);have g4:=g1.fx aw (by simp);have F:=(F1.trans aw).mono (ks':=aA a1) (by simp_all);have cj:L Y4=4096:=F.len.trans C.le;have r7:aN (V 7) (gd w.ac k).c=V (.a (gd w.ac k).c):=rfl;have b5:mq B w.ac (k+1)=mq B w.ac k++if B (gd w.ac k)=U then[⟨(gd w.ac k).aq,k,0,Q<|(gd w.ac k).kind=8⟩] else[]:=aNG;simp only[qz 4,qy 8,qy 10,u0,u1,ax,r7,↓uL];refine hB Y4 F k ak _ _ ?_;simp+contextual only[au,ck,u0,u1,ax,rk,aj,a9,CZ,↓uL];refine⟨λhb=>?_,λhb=>aC r Y4 (by simp_all) F P1 N1⟩;refine gD g4 rfl (by decide) (by omega) nC nC (by simp only[bJ,bZ,aO1,a6G];omega) λr5 Y5 g5 F5 hi hd=>?_;refine aC r5 Y5 ?_ ((F.trans F5).mono λk D=>?_) (λk D=>?_) (λk D=>?_);simp_all;grind [bK.no];rcases hd k D with D|D;exact P1 k D;exact .inr<|.inl D;grind [bK.old];have bd:k=L w.ac:=(by grind);subst bd;generalize hL:hs++mq B w.ac (L w.ac)=Lw at g1;have cb:L Lw<=96:=(by rw[<-hL,a6G];omega);have a8:∀x∈Lw,aF (L w.aQ.ay) x.aq:=(by grind [awp]);simp only[lnI g1,bJ,u0,↓uL];refine yV (L Lw) (λj _ Y'=>bc Y' 220 4 r (((Lw.take j).map (gk E w.ac<|L w.ac)++Lw.drop j).map bp.c)/\Fx Y Y' (aA a1)) (by simp_all) ?_;rintro j _ Y5 hj ⟨g5,F5⟩;have C5:=C.fxs F5 hp;have b9:=C5.bx;simp only[qz 73,au,aI,u0,u1,↓uL];refine⟨λh5=>?_,λh5=>?_⟩;have A:=aL h5;have aU:L ((Lw.take j).map (gk E w.ac<|L w.ac)++Lw.drop j)=L Lw:=(by simp;omega);obtain⟨g,rfl,R⟩:∃g,r= .m g (L Lw)/\box Y5 g=V ⟨220,4,U,I,((Lw.take j).map (gk E w.ac<|L w.ac)++Lw.drop j).map bp.c⟩:=(by rcases g5 with⟨h',_⟩|⟨g,h',ca⟩;grind [List.map_eq_nil_iff];simp_all);have cc:g∈aA (.m g<|L Lw):=(by simp[aA]);have hx:((Lw.take j).map (gk E w.ac<|L w.ac)++Lw.drop j)[j]?=V (gd Lw j):=(by rw[xf<|by simp;omega];simp only[bJ,gC,rD<|aYB A,tM,List.getElem?_drop,Nat.add_zero];grind [bT]);have an:∀y,((Lw.take j).map (gk E w.ac<|L w.ac)++Lw.drop j).set j y=(Lw.take j).map (gk E w.ac<|L w.ac)++y::Lw.drop (j+1):=λy=>(by rw[CD _ _<|by simp;omega];simp only[bJ,gC,rD<|aYB A,tM];rw[List.drop_eq_getElem_cons A,RY]);have S:(Lw.take<|j+1).map (gk E w.ac<|L w.ac)++Lw.drop (j+1)=(Lw.take j).map (gk E w.ac<|L w.ac)++gk E w.ac (L w.ac) (gd Lw j)::Lw.drop (j+1):=(by grind [iJ,bT]);have H:=a8 _<|ig A;generalize cp:gd Lw j=x at hx S H;generalize hM:(Lw.take j).map (gk E w.ac<|L w.ac)=M at R aU hx an S;have aD:L M=j:=(by grind);have T:∀{Y':ae} {bA:List (List AV)},box Y' g=V ⟨220,4,U,I,bA⟩->cz 4 Y' (.m g<|L Lw) (iv j)=V (.p g j 0):=λh=>(by simp[cz,h];omega);have u:∀{Y':ae} {bA:List (List AV)} {q p:Nat},box Y' g=V ⟨220,4,U,I,bA⟩->iQ p Y' (.p g j q)=V (.p g j<|q+p):=(by grind [iQ]);have aG:∀{Y':ae} {q:Nat} {y:bp},box Y' g=V ⟨220,4,U,I,(M++y::Lw.drop (j+1)).map bp.c⟩->vl J Y' (.p g j q)=aN J ((bp.c y).drop q):=λ{Y' q y} h=>(by simp_all [vl,iE]);have aV:∀{x:bp},aN J (bp.c x)=V (iv x.aq):=rfl;have aW:∀{x:bp},aN J ((bp.c x).drop 1)=V (iv x.dD):=rfl;refine bsK (λe=>∀(y:bp) t,y=gk E w.ac (L w.ac) x->box t g=V ⟨220,4,U,I,(M++y::Lw.drop (j+1)).map bp.c⟩->Fx Y t (aA a1)->e [] t) ?_ λe ag=>?_;intro y t hy h7 v;simp only[qz 93,au,aI,u0,u1,↓uL];refine yU A ⟨.inr ⟨g,?_,?_⟩,v⟩;grind;simp_all;simp only[qz 95,au,ck,u0,T R,u R,aj,↓uL];refine wL R (by rw[bj9,hx];rfl) (by simp[bp.c]) λY6 F6 b6=>?_;rw[show(bp.c x).set 2 (iv<|-1)=bp.c {x with dY:= -1} from rfl,<-vB,an] at b6;have mn:∀{Ya Yb:ae},Fx Y Ya (aA a1)->Fx Ya Yb [g]->Fx Y Yb (aA a1):=λq1 q2=>(q1.trans q2).mono (by grind [bK.no]);have G6:=mn F5 F6;have C6:=C.fxs G6 hp;have az:=C6.bx;have aE:x.aq.toNat<L w.aQ.ay:=(by have:=H.1;have:=H.2;omega);have co:((x.aq.toNat:Nat):Int)=x.aq:=kA H.1;have ao:∀{Y':ae},Fx Y Y' (aA a1)->bc Y' 3 1 (f x.aq.toNat) ((aRQ w.ac x.aq<|L w.ac).map ci):=λq=>(by have:=(C.fxs q hp).ow.gr _ aE;grind [btL]);have bj:fS Y6 (f x.aq.toNat)=V (iv<|L<|aRQ w.ac x.aq<|L w.ac):=(by rw[lnI<|ao G6,bJ]);have cm:L (aRQ w.ac x.aq<|L w.ac)<=L w.ac:=(by rw[wE];exact wF);simp only[qz 12,au,u0,u1,aPF az,az,rkC,aj,T b6,u b6,aG b6,iy,aV,C6.ow.ix H,C6.ow.ld aE,bj,↓uL];refine yV (L<|aRQ w.ac x.aq<|L w.ac) (λo _ Y'=>box Y' g=V ⟨220,4,U,I,(M++{x with dY:= -1}::Lw.drop (j+1)).map bp.c⟩/\Fx Y Y' (aA a1)/\∀m,m<o->boU E w.ac x (gd (fj w.ac x.aq<|L w.ac) m)=I) (by simp_all) ?_;rintro o _ t cg ⟨z,v,cl⟩;have C7:=C.fxs v hp;have aB:=C7.bx;simp only[qz 115,qy 16,au,aI,u0,u1,↓uL];refine⟨λh7=>?_,λh7=>?_⟩;have ah:=aL h7;have O:o<L (fj w.ac x.aq<|L w.ac):=(by grind [wE]);have bf:gd (fj w.ac x.aq<|L w.ac) o<L w.ac/\(gd w.ac<|gd (fj w.ac x.aq<|L w.ac) o).aq=x.aq:=(by have:=jW.1<|ig O;exact⟨fq.1 this.1,qc this.2⟩);obtain⟨W,bg⟩:=bf;have be:gd (aRQ w.ac x.aq<|L w.ac) o=((gd (fj w.ac x.aq<|L w.ac) o:Nat):Int):=(by rw[bT ah,bT O];simp[aRQ]);rw[Dw (ao v)<|dJ ah,bh,be];generalize ch:gd (fj w.ac x.aq<|L w.ac) o=N at W bg;have bq:boU E w.ac x N=I->(yI (λ_ i=>[iv i]) (L<|aRQ w.ac x.aq<|L w.ac) λo (_:Unit) Y'=>box Y' g=V ⟨220,4,U,I,(M++{x with dY:= -1}::Lw.drop (j+1)).map bp.c⟩/\Fx Y Y' (aA a1)/\∀m,m<o->boU E w.ac x (gd (fj w.ac x.aq<|L w.ac) m)=I) [iv<|dq.wrap<|(o:Int)+1] t/\gM 0 (L<|aRQ w.ac x.aq<|L w.ac) [iv<|dq.wrap<|(o:Int)+1] t<gM 0 (L<|aRQ w.ac x.aq<|L w.ac) [iv o] t:=(by intro hs;refine yU ah ⟨z,v,λm hm=>?_⟩;grind);simp only[u0,u1,T z,u z,aG z,aj,aW,↓uL];rcases sq (Q<|x.dD<(N:Int)) with ad|ad;simp only[ad,u0,u1,jA,Lg,aPF aB,aB,rkC,aj,ix,rk,bh,↓uL];refine⟨λ_=>dJ W,hE t v N W _ _ ?_⟩;rcases sq (E<|gd w.ac N) with he|he;rw[he];simp only[show mL (bv U) (bv U) (bv I)=V (bv U) from rfl,u0,T z,u z,aj,↓uL];refine⟨λ_=>?_,λh=>nomatch h⟩;have aX:((M++{x with dY:= -1}::Lw.drop (j+1)).map bp.c)[j]?=V (bp.c {x with dY:= -1}):=(by rw[bj9,xf (by omega),aD,tM];rfl);refine wL z aX (by simp[bp.c]) λY8 F8 b8=>?_;rw[show(bp.c {x with dY:= -1}).set 2 (iv N)=bp.c {x with dY:=N} from rfl,<-vB,CD _ _ (by omega),aD,tM,RY] at b8;refine ag {x with dY:=N} Y8 ?_ b8 (mn v F8);rw[gk,aob (i:=N) (λi hi=>?_) (by grind [boU]) W];by_cases P:(gd w.ac i).aq=x.aq;obtain⟨m,hm,he⟩:=aE0 O (by omega) P;grind;grind [boU];rw[he];simp only[show mL (bv U) (bv I) (bv I)=V (bv I) from rfl,u0,↓uL];exact⟨λh=>(nomatch h),by grind [boU]⟩;simp only[ad,u0,u1,jN,gF,bdT,show∀x,mL (bv I) x (bv I)=V (bv I) fromλ_=>rfl,↓uL];exact⟨λh=>(nomatch h),by grind [boU]⟩;have cf:o=L (aRQ w.ac x.aq<|L w.ac):=(by grind);refine ag _ t ?_ z v;rw[gk,El];intro i hi;by_cases P:(gd w.ac i).aq=x.aq;obtain⟨m,hm,he⟩:=aEZ hi P;grind [wE];grind [boU];have ba:j=L Lw:=(by grind);rw[ba,gV,Gz,cL] at g5;exact⟨g5,F5,P1,N1⟩
theorem amz{s:aW}{lock:Int}{u j:Nat}(h:j<L (gd s.ak lock.toNat).bk):qH s lock u (j+1)=qH s lock u j++if gd (gd s.ak lock.toNat).bk j=(u:Int) then[⟨u,-1,0,U⟩] else[]:=by grind [qH,pH]
theorem amy{s:aW}{lock:Int}{u j:Nat}:L (qH s lock u j)<=L (gd s.ak lock.toNat).bk:=by grind [qH]
theorem aBM{s:aW}{lock:Int}{u:Nat}:L (qG s lock u)<=L (gd s.ak lock.toNat).bk+1:=by grind [qG,amy]
theorem aBO{s:aW}{lock:Int}{k:Nat}{x:bp}(h:x∈qF s lock k):aF k x.aq:=by obtain⟨u,a,b⟩:=iI.1 h;grind [qG,qH,dJ]
theorem aDG{b:Id}{w:am}{ns:List aH8}{aa:List (List Int)}{n wk a:AV}{bm bo:Id}{f:Nat->AV}(C:bD Y b w ns aa n wk a bm bo f)(hf:hU w)(hv:bcV w=U){lock:Int}(P:aF (L w.aQ.ak) lock):∃r Y1,(bc Y1 220 4 r ((jE w.aQ w.init.bW w.ac lock).map bp.c)/\Fx Y Y1 []/\∀k∈aA r,bK Y k)/\cZ aS GG 85 [.p b 0 0,iv lock] Y r Y1:=by
 have M:=vd hf hv
 obtain⟨a6,bX,bY,a4,bO⟩:=Bx hv
 obtain⟨fc,fl,fd,aU⟩:=iY a4
 have hw:=M.wo.ev
 have az:=M.th
 have D:aF (L w.init.bW.ak) lock:=by simp_all
 have a0:=Bq hv 0<|mh _
 have bV:L (gd w.init.bW.ak lock.toNat).bk<=4:=by
  have h1:=a0.rd _<|ii (l:=(cY w 0).bW.ak) (i:=lock) D
  have:=AC h1.1 h1.2
  exact gl this az
 refine aKi C.le rfl rfl λs4 v2 v3 K4 b0 nf2 b4 b2 b3=>?_
 have F4:Fx Y s4 []:=K4.fx []
 have C4:=C.fx F4
 have bx:=C4.bx
 have r1:∀{x:AV},aN J [x]=V x:=λ{x}=>rfl
 have a3:∀{x y:Int},bM brT bmK [(0,iv x),(1,iv y)]=V (.a<|bp.c ⟨x,y,0,I⟩):=rfl
 have ax:∀{x y:Int} {r:Bool},bM brT bmK [(0,iv x),(1,iv y),(3,bv r)]=V (.a<|bp.c ⟨x,y,0,r⟩):=rfl
 simp only[Hp,qy 6,u0,u1,b2,b3,r1,aPF bx,bx,rkC,rk,ix,aj,dc,↓uL]
 refine⟨D,?_⟩
 refine ic C4.le λv5 Y5 F5 N5 b5=>?_
 refine cy (cs:=cg.c<|gd w.init.bW.ak lock.toNat) b5 rfl rfl (by decide) λv F6 b6=>?_
 have aK:box v (5,v5)=V ⟨184,2,U,U,[cg.c<|gd w.init.bW.ak lock.toNat]⟩:=b6
 have t:Fx s4 v []:=(F5.trans F6).mono (by grind [bK.no])
 have C6:=C4.fx t
 have W:=C6.bx
 have c2:=t.kq b2
 have c3:=t.kq b3
 have N:=C.sb
 simp only[qz 8,↓uL]
 refine dT (by obtain⟨b1,b2⟩:=b;simp only at N;subst N;simp[eL,okT,tok,lb,cq,gz,dC,dK,sl]) ?_
 simp only[u0,u1,c2,r1,aPF W,W,rkC,rk,aj,dc,cT,↓uL]
 have bL:∀k,qF w.init.bW lock (k+1)=qF w.init.bW lock k++qG w.init.bW lock k:=λk=>aNG
 have aZ:∀k,L (qF w.init.bW lock k)<=k*5:=λk=>bhO (f:=qG w.init.bW lock) (c:=5) (by grind [aBM]) k
 refine jD (α:=AV) (λa i=>[a,iv i]) 1 (L w.aQ.ay) (λk a Y'=>bc Y' 220 4 a ((qF w.init.bW lock k).map bp.c)/\Fx v Y' []/\∀q∈aA a,bK v q/\ko q.1) (s0:= .l [] U U) ⟨bc.nil,Fx.refl _ _,by simp[aA]⟩ ?_
 rintro k a1 Y7 hk ⟨g7,F,N7⟩
 have d6:=F.kq aK
 have C7:=C6.fx F
 have lk:=aZ k
 simp only[qz 31,qy 18,au,ck,aI,u0,u1,d6,rk,aj,↓uL]
 refine⟨λh=>?_,λh=>?_⟩
 ·have a7:=aL h
  refine bsK (λe=>∀m g,bc g 220 4 m ((qF w.init.bW lock<|k+1).map bp.c)->Fx v g []->(∀q∈aA m,bK v q/\ko q.1)->e [m] g) ?_ λe Z=>?_
  ·intro m g R S q3
   simp only[qz 51,au,ck,aI,u0,u1,↓uL]
   exact dR (mk:=λa i=>[a,iv i]) (s:=a1) (s':=m) (λ_ _=>rfl) a7 (by omega) ⟨R,S,q3⟩
  simp only[qz 53,qy 10,qy 12,au,ck,u0,u1,d6,rk,aj,↓uL]
  refine⟨λho=>?_,λho=>?_⟩
  ·simp only[a3,aY,CZ,bQ,↓uL]
   refine gD g7 rfl (by decide) (by rw[C7.le];decide) nC nC (by grind) λa8 g g8 G bR bb=>Z a8 g ?_ ((F.trans G).mono<|by grind [bK.no]) λq o=>⟨?_,?_⟩
   ·grind [qG]
   ·grind [bK.old]
   ·exact(bb q o).elim (λh=>(N7 q h).2) λh=> .inr<|.inr<|.inl h
  ·have bT:qG w.init.bW lock k=qH w.init.bW lock k (L (gd w.init.bW.ak lock.toNat).bk):=by grind [qG]
   refine jD (α:=AV) (λa i=>[a,iv i]) 1 (L (gd w.init.bW.ak lock.toNat).bk) (λj a Y'=>bc Y' 220 4 a ((qF w.init.bW lock k++qH w.init.bW lock k j).map bp.c)/\Fx v Y' []/\∀q∈aA a,bK v q/\ko q.1) (s0:=a1) (by grind [qH]) ?_
   rintro j m g hj ⟨g8,G,N8⟩
   have C8:=C6.fx G
   have bU:=amy (s:=w.init.bW) (lock:=lock) (u:=k) (j:=j)
   simp only[qz 85,au,ck,aI,u0,u1,di,qz 107,qy 14,qy 16,ix,rk,iF,bh,↓uL]
   refine⟨λH=>⟨u7 H,λhu=>?_,λhu=>?_⟩,λH=>?_⟩
   ·simp only[ax,aY,CZ,bQ,↓uL]
    refine gD g8 rfl (by decide) (by rw[C8.le];decide) nC nC (by simp only[bJ,bZ,aO1,a6G];omega) λa9 Y9 g9 F9 bS bd=>?_
    simp only[qz 105,au,ck,aI,u0,u1,↓uL]
    refine dR (mk:=λa i=>[a,iv i]) (s:=m) (s':=a9) (λ_ _=>rfl) (aL H) (by omega) ⟨?_,(G.trans F9).mono (by grind [bK.no]),λq o=>⟨?_,?_⟩⟩
    ·grind [amz]
    ·grind [bK.old]
    ·exact(bd q o).elim (λh=>(N8 q h).2) λh=> .inr<|.inr<|.inr h
   ·simp only[qz 105,au,ck,aI,u0,u1,↓uL]
    refine dR (mk:=λa i=>[a,iv i]) (s:=m) (s':=m) (λ_ _=>rfl) (aL H) (by omega) ⟨?_,G,N8⟩
    grind [amz]
   ·rw[bP hj<|bw H] at g8
    exact Z m g (by simp_all) G N8
 ·have a5:k=L w.aQ.ay:=(by grind)
  have X:=F.kq c2
  have aR:=F.kq c3
  simp only[X,r1,aY,u0,u1,↓uL]
  have O:∀{Y':ae},Fx Y7 Y' (aA a1)->bD Y' b w ns aa n wk a bm bo f/\box Y' (2,v2)=V ⟨88,1,U,U,[[.p b 0 0]]⟩/\box Y' (3,v3)=V ⟨3,1,U,U,[[iv lock]]⟩:=λz=>
   ⟨C7.fxs z λq o=>(N7 q o).2,z.keep _ _ (by grind [ko]) X,z.keep _ _ (by grind [ko]) aR⟩
  obtain⟨r,g,⟨R,S,q3,q4⟩,hF⟩:=ann (Y:=Y7) (a1:=a1) (fb:= .f 161 [] [.p (3,v3) 0 0, .p (2,v2) 0 0]) (fe:= .f 162 [] [.p (3,v3) 0 0, .p (2,v2) 0 0]) (hs:=qF w.init.bW lock k) (B:=sJ w.aQ lock) (E:=sQ w.aQ lock) C7 hw (by omega) (λi A=>(M.wo.named A).2) (by grind [aBO]) g7 (by grind) (λY' z i A d K hK=>by
   obtain⟨C',e2,e3⟩:=O z
   simp only[cF,rn]
   rw[dB (show¬GG.nw 161=U by decide),f8<|show GG.imp 161=U by decide]
   exact aS2 rfl (aDE C' e3 e2 (gd w.ac i)<|by grind [oT,kB.named,vL.wo]) hK) (λY' z i A d K hK=>by
   obtain⟨C',e2,e3⟩:=O z
   simp only[cF,rn]
   rw[dB (show¬GG.nw 162=U by decide),f8<|show GG.imp 162=U by decide]
   exact aS2 rfl (aDF C' e3 e2 (gd w.ac i)<|by grind [oT,kB.named,vL.wo]) hK)
  rw[aor (w:=w.aQ) (s:=w.init.bW) (Lw:=lock) ?_ (λi A=>awl P (M.wo.named A).1)<|λi A=>axI P (M.wo.named A).1] at R
  ·refine⟨r,g,hF,S.len,?_⟩
   rw[dB<|show¬GG.rd 163=U by decide]
   have T:=F4.trans<|t.trans F
   refine⟨R,(T.trans S).mono λq o=>?_,λq o=>?_⟩
   ·simp only[dW] at o
    exact .inr (((N7 q o).1.old t).old F4).no
   ·rcases q4 q o with h'|h'
    ·grind [bK.old]
    ·exact h'.old T
  ·rw[a5,<-aU]
   refine aBN (by have:=P.2;omega) λho=>?_
   have h5:=(a6 lock.toNat (by have:=D.1;have:=D.2;omega)).1
   grind [AM,List.length_eq_zero_iff]
theorem aDS{b:Id}{w:am}{ns:List aH8}{O:List (List Int)}{n wk a:AV}{X Z:Id}{f:Nat->AV}(C:bD Y b w ns O n wk a X Z f)(hf:hU w)(N:bcV w=U):∃r u,(bc u 220 4 r ((jE w.aQ w.init.bW w.ac<|L w.aQ.ak).map bp.c)/\Fx Y u []/\∀k∈aA r,bK Y k)/\cZ aS GG 86 [.p b 0 0] Y r u:=by
 have F:=vd hf N
 obtain⟨ap,aq,ar,H,an⟩:=Bx N
 obtain⟨fc,fl,fd,al⟩:=iY H
 have hw:=F.wo.ev
 have z:w.init.bW.tx≠-1->aF (L w.init.bW.ay) w.init.bW.tx:=(by grind [yS,nO,dX])
 refine aKv C.le ?_
 have bx:=C.bx
 have G:∀{x y:Int},bM brT bmK [(0,iv x),(1,iv y)]=V (.a<|bp.c ⟨x,y,0,I⟩):=rfl
 simp only[HP,di,↓uL]
 refine bsh (λvs Y'=>∃a1,vs=[a1]/\bc Y' 220 4 a1 ((sZ w.init.bW).map bp.c)/\Fx Y Y' []/\∀q∈aA a1,bK Y q/\ko q.1) (λg hJ=>?_) ?_
 ·simp only[qz 17,qy 2,qy 4,u0,u1,aPF bx,bx,rkC,rk,aj,dc,↓uL]
  refine⟨λh=>?_,by grind [sZ,bc.nil,Fx.refl,aA]⟩
  simp only[G,aY,CZ,bQ,↓uL]
  refine gD bc.nil rfl (by decide) (by rw[C.le];decide) (by simp) nC (by simp) λW A g8 S ao M=>hJ _ _ ⟨W,rfl,?_,S.mono (by simp[aA]),λq l=>⟨?_,?_⟩⟩
  ·grind [sZ]
  ·grind [aA]
  ·exact(M q l).elim (by simp[aA]) λh=> .inl h
 ·rintro vs T ⟨a1,rfl,g7,t,N7⟩
  have m:=C.fx t
  simp only[qz 15,qy 6,aI,au,↓uL]
  have hl:L (sZ w.init.bW)<=1:=by grind [sZ]
  obtain⟨r,A,⟨P,R,q3,q4⟩,hF⟩:=ann (Y:=T) (a1:=a1) (fb:= .f 164 [] []) (fe:= .f 165 [] []) (hs:=sZ w.init.bW) (B:=λe=>Q<|e.kind=12) (E:=λe=>Q<|e.kind=13) m hw (by omega) (λi j=>(F.wo.named j).2) (by grind [sZ]) g7 (by grind) (λY' o i j d K v=>by
   simp only[cF,rn]
   rw[dB (show¬GG.nw 164=U by decide),f8<|show GG.imp 164=U by decide]
   exact aS2 rfl (aDT (o.len.trans m.le)<|gd w.ac i) v) (λY' o i j d K v=>by
   simp only[cF,rn]
   rw[dB (show¬GG.nw 165=U by decide),f8<|show GG.imp 165=U by decide]
   exact aS2 rfl (aDU (o.len.trans m.le)<|gd w.ac i) v)
  rw[aor (w:=w.aQ) (s:=w.init.bW) (Lw:=L w.aQ.ak) (aBP z) (λi j=>awm)<|λi j=>axJ] at P
  refine⟨r,A,hF,R.len,?_⟩
  rw[dB<|show¬GG.rd 163=U by decide]
  refine⟨P,(t.trans R).mono λq l=>?_,λq l=>?_⟩
  ·grind [bK.no]
  ·rcases q4 q l with D|D
   ·simp_all
   ·exact D.old t
def aEf{b:Id}{w:am}{ns:List aH8}{g:List (List Int)}{n o a:AV}{h i:Id}{f:Nat->AV}{d:Nat}{K:be}(C:bD Y b w ns g n o a h i f)(k:hU w)(m:bcV w=U){lock:Int}(e:aF (L w.aQ.ak) lock)(j:∀t,K (.l ((jE w.aQ w.init.bW w.ac lock).map bp.c) t U) Y):cB 85 [.p b 0 0,iv lock] Y d K:=xC rfl (aDG C k m e) j
def aEk{b:Id}{w:am}{ns:List aH8}{e:List (List Int)}{n m a:AV}{g h:Id}{f:Nat->AV}{d:Nat}{K:be}(C:bD Y b w ns e n m a g h f)(j:hU w)(k:bcV w=U)(i:∀t,K (.l ((jE w.aQ w.init.bW w.ac<|L w.aQ.ak).map bp.c) t U) Y):cB 86 [.p b 0 0] Y d K:=xC rfl (aDS C j k) i
theorem Q6{w:am}(h:hU w)(b:bcV w=U){Lw:Int}(e:0<=Lw/\Lw<=L w.aQ.ak):L (jE w.aQ w.init.bW w.ac Lw)<=100:=by
 have g:=vd h b
 obtain⟨m,o,p,d,k⟩:=Bx b
 obtain⟨fc,fl,q,j⟩:=iY d
 rw[Q5,bJ,a6G]
 have a:L (nu w.aQ w.init.bW Lw)<=L w.init.bW.ay*5:=bhO (f:=bqI w.aQ w.init.bW Lw) (c:=5) (λu=>by
  unfold bqI
  split
  ·grind
  ·have n:L (gd w.init.bW.ak Lw.toNat).bk<=4:=by
    have a:=(Bq b 0<|mh _).rd _ (ii (l:=(cY w 0).bW.ak) (i:=Lw)<|by rw[show(cY w 0).bW=w.init.bW from rfl,fl];exact⟨e.1,by omega⟩)
    exact gl (AC a.1 a.2) g.th
   grind [pJ,Ln]) _
 have r:L (oF w.aQ Lw w.ac<|L w.ac)<=L w.ac*1:=bhO (f:=λi=>oY w.aQ Lw (gd w.ac i) i) (c:=1) (by grind [oY]) _
 grind [vL.th,kB.ev,vL.wo]
end
def apy:dO:=bsQ
def aph:eJ apy:=bsw
def aBq:=@aBp
def asE:=I5 16 [(5,([13],[3,12]))]
def bt8 a b R:=(.mk _:NS apy asE Tryz.f32 [.u] [a] b R).p
def aJ5{c0:List AV}{s0:ae}{R:be}(hs:L s0=4096)(l0:L c0=15)(h:HB1 43 15 1 c0 s0 λc b=>bt8 c b R):EB 32 [.a c0] s0 R:=zB1 asE aph Tryz.func32 hs l0 h
def nT(ns:List aH8)(w:am)(l:List aH8)(x:aH8):List (List Int):=(kZ ns w l x++(l.filter<|eZ x).map (dP ns))::(aH<|L<|l.filter<|eZ x).flatMap (brU ns w l x)
def ng(ns:List aH8)(w:am)(l:List aH8)(k:Nat):List (List Int):=
 if(gd w.ac k).kind=17/\(bh0 w k).2=U then(-lE ns k::gO ns l (bh0 w k).1)::(aH<|L l).flatMap (iO ns k (bh0 w k).1 l) else[]
def sN(ns:List aH8)(w:am)(l:List aH8):List (List Int):=((aH<|L l).flatMap λk=>iW ns<|gd l k)++((aH<|L l).flatMap (lP ns l)++((aH<|L l).flatMap (lQ ns w l)++(((aH<|L l).flatMap λk=>nT ns w l<|gd l k)++(aH<|L w.ac).flatMap (ng ns w l))))
def bwR{n:Nat}{B:aG}{A:(aG)->Prop}(Q:aG)(e:∀c,(∀vs Y',Q vs Y'->c vs Y')->A c)(f:∀vs Y',Q vs Y'->B vs Y'):jV n B A:=e B f
def KT{α β:Type}[Inhabited α]{p:α->Bool}{g:α->β}{l:List α}:∀{k:Nat},k<=L l->(aH k).flatMap (λj=>if p (gd l j)=U then[g<|gd l j] else[])=((l.take k).filter p).map g
 |0,_=>by simp
 |k+1,h=>by
  rw[aNG,KT (by omega),pH (by omega),dg]
  grind
def aHX{α β:Type}[Inhabited α]{g:α->β}{l:List α}:(aH<|L l).flatMap (λj=>[g<|gd l j])=l.map g:=by have h:=KT (p:=λ_=>U) (g:=g) (l:=l)<|dA _;grind [GA]
def ue(ns:List aH8)(w:am)(l:List aH8)(x:aH8)(j:Nat):List (List Int):=if eZ x (gd l j)=U then[kZ ns w l x++[-dP ns (gd l j),lB ns (gd l j).a x.a]] else[]
def axi{ns:List aH8}{w:am}{l:List aH8}{x:aH8}:(aH<|L l).flatMap (ue ns w l x)=(aH<|L<|l.filter<|eZ x).flatMap (brU ns w l x):=by have c:=KT (p:=eZ x) (g:=λy=>kZ ns w l x++[-dP ns y,lB ns y.a x.a]) (l:=l)<|dA _;have e:=aHX (g:=λy=>kZ ns w l x++[-dP ns y,lB ns y.a x.a]) (l:=l.filter<|eZ x);rw[gV] at c;exact c.trans e.symm
theorem alM{ns:List aH8}{w:am}{l:List aH8}{x:aH8}:L (nT ns w l x)<=L l+1:=by unfold nT;rw[bZ];have h:=bhO (f:=brU ns w l x) (c:=1) (λj=>by simp[brU])<|L<|l.filter<|eZ x;grind
section
variable{Y:ae}{b:Id}{w:am}{ns:List aH8}{out:List (List Int)}{n a:AV}{d:Nat}{K:be}
def slV{l:List aH8}{i:Int}{K:cC}{t o:Bool}:rV (fo 3 Y (.l (l.map aH8.c) t o) (V<|iv i) J J) K=((0<=i/\i<=L l)/\K (.l ((l.drop i.toNat).map aH8.c) t o)):=slT λ_=>rfl
def tj{x:aH8}:vl (V 3) Y (.q<|aH8.c x)=V (.a<|aH8.c x):=rfl
set_option maxHeartbeats 8000000 in
theorem aCC(B:cm Y b w ns out n a)(u:L ns<100000)(W:WV w)(hV:∀x∈aR ns 5,aF (L w.ac) x.a/\(0<=x.b->aF (L w.ac) x.b))(eJ:L (aR ns 5)<=400)(ho:L out<100000000):∃r Y1,sj Y b w ns out (sN ns w<|aR ns 5) n a r Y1/\cZ aS GG 98 [.p b 0 0] Y r Y1:=by
 refine aMr B.le ?_
 have nb:∀{k v:Nat},k≠sB->(k,v)≠b:=(by grind [cm.sb])
 simp only[Jx,↓uL]
 refine De B u 5 λt=>?_
 have eG:L (aR ns 5)<=L ns:=fZ _ _
 generalize cJ:aR ns 5=l at*
 simp only[qz 2,gT,u0,↓uL]
 refine yV (L l) (λk _ Y'=>∃g,cm Y' b w ns (out++(aH k).flatMap λk=>iW ns<|gd l k) n g/\Ad Y Y' b a g) (by grind [Ad.refl]) ?_
 rintro i _ Y1 Z ⟨a1,B1,A1⟩
 have m1:=bhO (f:=λk=>iW ns<|gd l k) (c:=3) (by grind [iW]) i
 simp+contextual only[qz 19,au,aI,u0,u1,gT,↓uL]
 refine⟨λh=>?_,λh=>?_⟩
 ·have M:=aL h
  refine bsh (λvs Y'=>vs=[]/\∃g,cm Y' b w ns (out++((aH i).flatMap λk=>iW ns<|gd l k)++iW ns (gd l i)) n g/\Ad Y Y' b a g) (λe hJ=>?_) ?_
  ·simp only[qz 41,qy 4,au,lX,u0,u1,tj,bh,↓uL]
   refine⟨dJ M,?_⟩
   generalize gd l i=x at*
   refine ic B1.le λv2 Y2 F2 N2 b2=>?_
   refine cy (cs:=aH8.c x) b2 rfl rfl (by decide) λY3 F3 b3=>?_
   have bm:box Y3 (4,v2)=V ⟨107,3,U,U,[aH8.c x]⟩:=b3
   have cr:Fx Y1 Y3 []:=(F2.trans F3).mono (by grind [bK.no])
   have B3:=B1.kp cr
   have A3:=A1.fxn cr
   simp only[qz 6,u0,u1,bm,rk,aj,↓uL]
   refine nc (d:=0) B3 u _ _ _ ?_
   simp only[qz 8,de u,u0,u1,bm,rk,aj,↓uL]
   refine bno (d:=0) B3 u _ ?_
   simp only[qz 10,fi,bQ,qz 12]
   refine fQ B3 (by grind) [_,_] λa4 D O A4=>?_
   have b4:=A4.keep bm (nb<|by decide)<|B3.nv bm<|.inl rfl
   simp+contextual only[qz 14,de u,u0,u1,b4,rk,aj,↓uL]
   refine⟨λhb=>?_,λhb=>hJ [] D ⟨rfl,a4,?_,A3.trans A4⟩⟩
   ·refine bno (d:=0) O u _ ?_
    simp only[qz 16,fi,bQ,qz 18]
    refine fQ O (by grind) [_,_] λa5 Y5 R A5=>?_
    have b5:=A5.keep b4 (nb<|by decide)<|O.nv b4<|.inl rfl
    simp only[qz 20,de u,u0,u1,b5,rk,aj,↓uL]
    refine kV (d:=0) R u _ _ ?_
    simp only[qz 22,qy 24,qy 26,fi,bQ]
    refine fQ R (by grind) [_,_] λa6 Y6 B6 A6=>hJ [] Y6 ⟨rfl,a6,?_,by grind [Ad.trans]⟩
    rw[iW,f8<|qc hb]
    simpa using B6
   ·rw[iW,dB<|brD hb,cL]
    exact O
  ·rintro vs Y' ⟨rfl,g,B',A'⟩
   simp only[qz 39,au,aI,u0,u1,↓uL]
   refine yU M ⟨g,?_,A'⟩
   grind [aNG]
 rw[bP Z<|bw h] at B1 m1
 generalize dv:out++((aH<|L l).flatMap λk=>iW ns<|gd l k)=O1 at B1
 have o1:L O1<=L out+L l*3:=by grind
 clear Z h i
 refine yV (L l) (λk _ Y'=>∃g,cm Y' b w ns (O1++(aH k).flatMap (lP ns l)) n g/\Ad Y Y' b a g) (by grind) ?_
 rintro i _ Y2 Z ⟨a2,B2,A2⟩
 have m2:=bhO (f:=lP ns l) (c:=400) (λk=>gl (bhO (f:=λj=>ju ns (gd l k)<|gd (l.drop<|k+1) j) (c:=1) (by grind [ju]) _)<|by simp;omega) i
 simp+contextual only[qz 85,qy 28,au,aI,u0,u1,lX,tj,bh,gT,↓uL]
 refine⟨λh=>⟨u7 h,?_⟩,λh=>?_⟩
 ·have M:=aL h
  refine ic B2.le λv3 Y3 F3 N3 b3=>?_
  refine cy (cs:=aH8.c<|gd l i) b3 rfl rfl (by decide) λD F4 b4=>?_
  have ao:box D (7,v3)=V ⟨107,3,U,U,[aH8.c<|gd l i]⟩:=b4
  have aD:Fx Y2 D []:=(F3.trans F4).mono (by grind [bK.no])
  have O:=B2.kp aD
  simp only[qz 30,au,u0,u1,slV,gT,↓uL]
  rw[fX<|by omega]
  refine⟨(by omega),?_⟩
  rw[bh]
  have c4:lP ns l i=(aH<|L<|l.drop<|i+1).flatMap λj=>ju ns (gd l i) (gd (l.drop<|i+1) j):=rfl
  have dE:L (l.drop<|i+1)<=L l:=by simp
  generalize l.drop (i+1)=q at*
  refine yV (L q) (λj _ Y'=>∃g,cm Y' b w ns (O1++(aH i).flatMap (lP ns l)++(aH j).flatMap λj=>ju ns (gd l i)<|gd q j) n g/\Ad Y Y' b a g/\box Y' (7,v3)=V ⟨107,3,U,U,[aH8.c<|gd l i]⟩) (by grind [Ad.fxn]) ?_
  rintro j _ Y5 hj ⟨a5,R,A5,b5⟩
  have m5:=bhO (f:=λj=>ju ns (gd l i)<|gd q j) (c:=1) (by grind [ju]) j
  simp+contextual only[qz 121,au,aI,u0,u1,↓uL]
  refine⟨λh5=>?_,λh5=>?_⟩
  ·refine bsh (λvs Y'=>vs=[]/\∃g,cm Y' b w ns (O1++(aH i).flatMap (lP ns l)++((aH j).flatMap λj=>ju ns (gd l i)<|gd q j)++ju ns (gd l i) (gd q j)) n g/\Ad Y Y' b a g/\box Y' (7,v3)=V ⟨107,3,U,U,[aH8.c<|gd l i]⟩) (λe hJ=>?_) ?_
   ·simp only[qz 143,qy 32,au,lX,u0,u1,tj,bh,↓uL]
    refine⟨u7 h5,?_⟩
    generalize gd q j=y at*
    generalize gd l i=x at*
    refine ic R.le λv6 Y6 F6 N6 b6=>?_
    refine cy (cs:=aH8.c y) b6 rfl rfl (by decide) λF T b7=>?_
    have ad:box F (9,v6)=V ⟨107,3,U,U,[aH8.c y]⟩:=b7
    have al:Fx Y5 F []:=(F6.trans T).mono (by grind [bK.no])
    have E:=R.kp al
    have A7:=A5.fxn al
    have ap:=al.kq b5
    simp+contextual only[qz 34,u0,u1,ap,ad,rk,aj,↓uL]
    refine⟨λhc=>?_,λhc=>hJ [] F ⟨rfl,a5,?_,A7,ap⟩⟩
    ·refine nc (d:=0) E u _ _ _ ?_
     simp only[qz 36,de u,u0,u1,ad,rk,aj,↓uL]
     refine nc (d:=0) E u _ _ _ ?_
     simp only[qz 38,de u,aY,fi,bQ,qz 40,↓uL]
     refine fQ E (by grind) [_,_] λa8 Y8 S A8=>?_
     simp only[qz 42]
     refine dT (by simp[eL,okT,tok,lb,cq,gz,dC,dK]) (hJ [] Y8 ⟨rfl,a8,?_,A7.trans A8,by grind [Ad.keep,cm.nv]⟩)
     rw[ju,f8<|qc hc]
     exact S
    grind [ju]
   ·rintro vs Y' ⟨rfl,g,B',A',b'⟩
    simp only[qz 141,au,aI,u0,u1,↓uL]
    refine yU (aL h5) ⟨g,?_,A',b'⟩
    grind [aNG]
  ·refine yU M ⟨a5,?_,A5⟩
   grind [aNG]
 rw[bP Z<|bw h] at B2 m2
 generalize dw:O1++(aH<|L l).flatMap (lP ns l)=O2 at B2
 have o2:L O2<=L O1+L l*400:=by grind
 clear Z h i
 refine yV (L l) (λk _ Y'=>∃g,cm Y' b w ns (O2++(aH k).flatMap (lQ ns w l)) n g/\Ad Y Y' b a g) (by grind) ?_
 rintro i _ Y2 Z ⟨a3,bj,ew⟩
 have m3:=bhO (f:=lQ ns w l) (c:=400) (λk=>gl (bhO (f:=λj=>jk ns w (gd l k)<|gd (l.drop<|k+1) j) (c:=1) (by grind [jk]) _)<|by simp;omega) i
 simp+contextual only[qz 169,qy 44,au,aI,u0,u1,lX,tj,bh,gT,↓uL]
 refine⟨λh=>⟨u7 h,?_⟩,λh=>?_⟩
 ·have M:=aL h
  refine ic bj.le λv3 Y3 F3 N3 b3=>?_
  refine cy (cs:=aH8.c<|gd l i) b3 rfl rfl (by decide) λD F4 b4=>?_
  have ao:box D (11,v3)=V ⟨107,3,U,U,[aH8.c<|gd l i]⟩:=b4
  have aD:Fx Y2 D []:=(F3.trans F4).mono (by grind [bK.no])
  have O:=bj.kp aD
  simp only[qz 46,au,u0,u1,slV,gT,↓uL]
  rw[fX<|by omega]
  refine⟨(by omega),?_⟩
  rw[bh]
  have c4:lQ ns w l i=(aH<|L<|l.drop<|i+1).flatMap λj=>jk ns w (gd l i) (gd (l.drop<|i+1) j):=rfl
  have dE:L (l.drop<|i+1)<=L l:=by simp
  generalize l.drop (i+1)=q at*
  refine yV (L q) (λj _ Y'=>∃g,cm Y' b w ns (O2++(aH i).flatMap (lQ ns w l)++(aH j).flatMap λj=>jk ns w (gd l i)<|gd q j) n g/\Ad Y Y' b a g/\box Y' (11,v3)=V ⟨107,3,U,U,[aH8.c<|gd l i]⟩) (by grind [Ad.fxn]) ?_
  rintro j _ Y5 hj ⟨a5,R,A5,b5⟩
  have m5:=bhO (f:=λj=>jk ns w (gd l i)<|gd q j) (c:=1) (by grind [jk]) j
  simp+contextual only[qz 205,au,aI,u0,u1,↓uL]
  refine⟨λh5=>?_,λh5=>?_⟩
  ·refine bsh (λvs Y'=>vs=[]/\∃g,cm Y' b w ns (O2++(aH i).flatMap (lQ ns w l)++((aH j).flatMap λj=>jk ns w (gd l i)<|gd q j)++jk ns w (gd l i) (gd q j)) n g/\Ad Y Y' b a g/\box Y' (11,v3)=V ⟨107,3,U,U,[aH8.c<|gd l i]⟩) (λe hJ=>?_) ?_
   ·simp only[qz 227,qy 48,au,lX,u0,u1,tj,bh,↓uL]
    refine⟨u7 h5,?_⟩
    generalize gd q j=y at*
    have bY:=(hV (gd l i)<|ig M).1
    generalize gd l i=x at*
    refine ic R.le λv6 Y6 F6 N6 b6=>?_
    refine cy (cs:=aH8.c y) b6 rfl rfl (by decide) λF T b7=>?_
    have ad:box F (13,v6)=V ⟨107,3,U,U,[aH8.c y]⟩:=b7
    have al:Fx Y5 F []:=(F6.trans T).mono (by grind [bK.no])
    have E:=R.kp al
    have A7:=A5.fxn al
    have ap:=al.kq b5
    have aW:=E.bx
    have dU:=aPF (i:=0) (j:=0) aW
    rcases sq (Q<|x.a=y.a) with bq|bq
    ·simp+contextual only[qz 50,u0,u1,ap,ad,rk,aj,bq,jA,qE,uO,bdZ,dU,aW,rkB,ix,↓uL]
     refine⟨bY,λhc=>?_,λhc=>hJ [] F ⟨rfl,a5,?_,A7,ap⟩⟩
     ·refine nc (d:=0) E u _ _ _ ?_
      simp only[qz 52,de u,u0,u1,ad,rk,aj,↓uL]
      refine nc (d:=0) E u _ _ _ ?_
      simp only[qz 54,de u,aY,fi,bQ,qz 56,↓uL]
      refine fQ E (by grind) [_,_] λa8 Y8 S A8=>?_
      simp only[qz 58]
      refine dT (by simp[eL,okT,tok,lb,cq,gz,dC,dK]) (hJ [] Y8 ⟨rfl,a8,?_,A7.trans A8,by grind [Ad.keep,cm.nv]⟩)
      rw[jk,f8 ⟨qc bq,qc hc⟩]
      exact S
     grind [jk]
    ·simp+contextual only[qz 50,u0,u1,ap,ad,rk,aj,bq,jN,xM,uO,bdT,↓uL]
     refine⟨λh=>(nomatch h),λ_=>hJ [] F ⟨rfl,a5,?_,A7,ap⟩⟩
     grind [jk]
   ·rintro vs Y' ⟨rfl,g,B',A',b'⟩
    simp only[qz 225,au,aI,u0,u1,↓uL]
    refine yU (aL h5) ⟨g,?_,A',b'⟩
    grind [aNG]
  ·refine yU M ⟨a5,?_,A5⟩
   grind [aNG]
 rw[bP Z<|bw h] at bj m3
 generalize dx:O2++(aH<|L l).flatMap (lQ ns w l)=O3 at bj
 have o3:L O3<=L O2+L l*400:=by grind
 clear Z h i
 refine yV (L l) (λk _ Y'=>∃g,cm Y' b w ns (O3++(aH k).flatMap λk=>nT ns w l<|gd l k) n g/\Ad Y Y' b a g) (by grind) ?_
 rintro i _ Y2 Z ⟨a4,aQ,db⟩
 have m4:=bhO (f:=λk=>nT ns w l<|gd l k) (c:=401) (by grind [alM]) i
 simp+contextual only[qz 253,qy 60,au,aI,u0,u1,lX,tj,bh,gT,↓uL]
 refine⟨λh=>⟨u7 h,?_⟩,λh=>?_⟩
 ·have M:=aL h
  refine ic aQ.le λv3 Y3 F3 N3 b3=>?_
  refine cy (cs:=aH8.c<|gd l i) b3 rfl rfl (by decide) λD F4 b4=>?_
  have ao:box D (15,v3)=V ⟨107,3,U,U,[aH8.c<|gd l i]⟩:=b4
  have aD:Fx Y2 D []:=(F3.trans F4).mono (by grind [bK.no])
  have O:=aQ.kp aD
  have A4:=db.fxn aD
  have bY:=(hV (gd l i)<|ig M).1
  have d2:∀g Y',cm Y' b w ns (O3++((aH i).flatMap λk=>nT ns w l<|gd l k)++nT ns w l (gd l i)) n g->Ad Y Y' b a g->yI (λ(_:Unit) i=>[iv i]) (L l) (λk (_:Unit) Y'=>∃g,cm Y' b w ns (O3++(aH k).flatMap λk=>nT ns w l<|gd l k) n g/\Ad Y Y' b a g) [iv<|dq.wrap<|(i:Int)+1] Y'/\gM 0 (L l) [iv<|dq.wrap<|(i:Int)+1] Y'<gM 0 (L l) [iv i] Y2:=by
   intro g Y' B' A'
   refine yU M ⟨g,?_,A'⟩
   grind [aNG]
  generalize cH:O3++((aH i).flatMap λk=>nT ns w l<|gd l k)=O4 at*
  have o4:L O4<=L O3+i*401:=by grind
  generalize gd l i=x at*
  simp only[qz 62,u0,u1,ao,rk,aj,↓uL]
  refine bno (d:=0) O u _ ?_
  simp only[qz 64,de u,aY,a5Y,bQ,qz 66,↓uL]
  refine bwR (λvs Y'=>∃y0,vs=[y0]/\gA Y' 3 1 y0 ((jd ns x).map ci)/\Fx D Y' []/\∀q∈aA y0,bK D q/\q.1=206) (λe hJ=>?_) ?_
  ·simp only[qz 293,u0,u1,ao,rk,aj,↓uL]
   refine⟨λh=>?_,λh=>hJ _ _ ⟨_,rfl, .inl ⟨U,by grind [jd]⟩,Fx.refl _ _,by simp[aA]⟩⟩
   have h0:=qc h
   refine bno (d:=0) O u _ ?_
   simp only[qz 68,de u,aY,u0,u1,ao,rk,aj,↓uL]
   refine kV (d:=0) O u _ _ ?_
   simp only[qz 70,qy 72,de u,aY,fi,bQ,↓uL]
   refine bsg (bA:=[-lE ns x.a].map ci) (.inl ⟨U,rfl⟩) rfl (by decide) (by rw[O.le];decide) fF fF (by simp) λy5 Y5 g5 F5 eF=>?_
   rw[<-dg] at g5
   simp only[qz 74]
   refine dT (by simp[eL,okT,tok,lb,cq,gz,dC,dK]) (hJ _ _ ⟨y5,rfl,?_,F5.mono (by simp[aA]),λq A=>?_⟩)
   ·grind [jd]
   grind [aA]
  ·rintro vs Y5 ⟨y0,rfl,g0,F5,P0⟩
   simp only[qz 291,aI,au,gT,u0,↓uL]
   refine jD (α:=AV) (λa i=>[a,iv i]) 1 (L l) (λk y Y'=>gA Y' 3 1 y ((jd ns x++((l.take k).filter<|j8 w x).map (dP ns)).map ci)/\Fx D Y' []/\∀q∈aA y,bK D q/\(q.1=206\/q.1=246)) (s0:=y0) ⟨by grind,F5,by grind⟩ ?_
   rintro k y Y6 hk ⟨gy,F6,Py⟩
   have B6:=O.kp F6
   have cK:L (jd ns x++((l.take k).filter<|j8 w x).map (dP ns))<=3+k:=by
    have z:=fZ (j8 w x)<|l.take k
    simp only[gC] at z
    have G:L (jd ns x)<=3:=by unfold jd;split<;>simp
    grind
   simp+contextual only[qz 313,au,ck,aI,u0,u1,↓uL]
   refine⟨λh6=>?_,λh6=>?_⟩
   ·have aM:=aL h6
    refine bsK (λe=>∀y' Y',gA Y' 3 1 y' ((jd ns x++((l.take<|k+1).filter<|j8 w x).map (dP ns)).map ci)->Fx D Y' []->(∀q∈aA y',bK D q/\(q.1=206\/q.1=246))->e [y'] Y') ?_ λe bp=>?_
    ·intro y' Y' q1 q2 q3
     simp only[qz 333,au,ck,aI,u0,u1,↓uL]
     exact dR (mk:=λa i=>[a,iv i]) (s:=y) (s':=y') (λ_ _=>rfl) aM (by omega) ⟨q1,q2,q3⟩
    simp only[qz 335,qy 76,au,ck,u0,u1,lX,tj,bh,↓uL]
    refine⟨dJ aM,?_⟩
    refine ic B6.le λv7 F T N7 b7=>?_
    refine cy (cs:=aH8.c<|gd l k) b7 rfl rfl (by decide) λY8 F8 b8=>?_
    have dr:box Y8 (18,v7)=V ⟨107,3,U,U,[aH8.c<|gd l k]⟩:=b8
    have cu:Fx Y6 Y8 []:=(T.trans F8).mono (by grind [bK.no])
    have ah:=F6.trans cu
    have S:=O.kp ah
    have cD:=S.bx
    have dX:=aPF (i:=0) (j:=0) cD
    have bX:=ah.kq ao
    have cG:=gy.fx cu (by simp)
    have dY:aN (V 3) (aH8.c x)=V (.a<|aH8.c x):=rfl
    have dZ:aN (V 3) (aH8.c<|gd l k)=V (.a<|aH8.c<|gd l k):=rfl
    simp+contextual only[qz 78,u0,u1,dr,bX,dY,dZ,rk,ix,alV,dX,cD,rkB,aj,au,ck,↓uL]
    refine⟨λ_ _=>bY,λhb=>?_,λhb=>bp y Y8 ?_ ah Py⟩
    ·refine nc (d:=0) S u _ _ _ ?_
     simp only[qz 80,qy 82,qy 84,a5Y,bQ,au]
     refine bsg cG rfl (by decide) (by rw[S.le];decide) fF fF (by grind [aO1]) λy9 Y9 g9 F9 dG=>bp y9 Y9 ?_ ((ah.trans F9).mono<|by grind [bK.no]) (λq A=>?_)
     ·rw[pH aM,f8<|by grind [j8]]
      simpa using g9
     ·rcases dG q A with X|X
      ·exact Py q X
      grind [bK.old]
    ·rw[pH aM,dB (by grind [j8]),cL]
     exact cG
   ·have dH:k=L l:=(by grind)
    subst dH
    rw[gV] at gy cK
    rw[show jd ns x++(l.filter<|j8 w x).map (dP ns)=kZ ns w l x from rfl] at gy cK
    have cI:nT ns w l x=(kZ ns w l x++(l.filter<|eZ x).map (dP ns))::(aH<|L l).flatMap (ue ns w l x):=by rw[nT,axi]
    have bn:∀j,ue ns w l x j=if eZ x (gd l j)=U then[kZ ns w l x++[-dP ns (gd l j),lB ns (gd l j).a x.a]] else[]:=λ_=>rfl
    have eA:L (l.filter<|eZ x)<=L l:=(by grind)
    generalize hL:kZ ns w l x=Lw at*
    refine bup gy (by omega) (by rw[B6.le];decide) λy7 F g7 T N7=>?_
    have E:=B6.kp T
    have cB:=(F6.trans T).kq ao
    simp only[qz 86,u0,u1,cB,rk,aj,↓uL]
    refine Ks (d:=0) E u _ _ λt2=>?_
    rw[cJ,show nG ns l x.b x.a=(l.filter<|eZ x).map (dP ns) from rfl]
    generalize eB:(l.filter<|eZ x).map (dP ns)=Wk at*
    have dz:L Wk<=L l:=by grind
    simp only[qz 88]
    refine gD g7 rfl (by decide) (by rw[E.le];decide) fF fF (by grind) λy8 Y8 g8 F8 bW dI=>?_
    rw[<-dg] at g8
    have ah:Fx D Y8 []:=((F6.trans T).trans F8).mono (by grind [bK.no,bK.old])
    have S:=O.kp ah
    have A8:=A4.fxn ah
    have c6:∀{q:Id},bK D q->bK Y q:=λh=>h.old A4.fx
    simp only[qz 90]
    refine Dd S (by omega) _ g8.t A8 (λq A=>?_) λa9 Y9 B9 A9 F9=>?_
    ·rcases bW q A with X|X
     ·grind [bK.old]
     ·exact c6 (X.old<|F6.trans T)
    have yp:∀q∈aA y,q.1=206\/q.1=246:=λq A=>(Py q A).2
    have ey:gA Y9 3 1 y (Lw.map ci):=by
     refine((gy.fx T<|by simp).fx F8 λq A m=>?_).fx F9 λq A m=>?_
     ·have z:=(N7 q m).2
      rcases yp q A with G|G<;>(omega)
     ·rcases eW.1 m with rfl|m
      ·rcases yp _ A with G|G<;>(grind)
      ·rcases dF.1 m with m|m
       ·have z:=S.sa q m
        rcases yp q A with G|G<;>(omega)
       ·have z:q.1=250\/q.1=257:=(by grind)
        rcases yp q A with G|G<;>rcases z with z|z<;>(omega)
    have ds:=F8.keep _ _ (λA=>by have z:=(N7 _ A).2;simp at z) cB
    have ex:=F9.keep _ _ (λm=>by
     rcases eW.1 m with h|m
     ·exact nb (by decide) h
     ·rcases dF.1 m with m|m
      ·have z:=S.sa _ m;simp at z
      ·have z:(15:Nat)=250\/(15:Nat)=257:=(dI _ m).imp (λh=>(N7 _ h).2) id
       omega) ds
    simp only[qz 92]
    refine dT (by
     rcases gy with⟨o,rfl⟩|⟨bb,rfl,hb⟩
     ·simp[eL,okT,tok,lb,cq,gz,dC,dK,au]
     ·have z:=yp bb (by simp[aA])
      obtain⟨b1,b2⟩:=bb
      rcases z with z|z<;>(simp only at z;subst z;simp[eL,okT,tok,lb,cq,gz,dC,dK,au])) ?_
    simp only[gT,u0,↓uL]
    refine yV (L l) (λj _ Y'=>∃g,cm Y' b w ns (O4++[Lw++Wk]++(aH j).flatMap (ue ns w l x)) n g/\Ad Y Y' b a g/\gA Y' 3 1 y (Lw.map ci)/\box Y' (15,v3)=V ⟨107,3,U,U,[aH8.c x]⟩) (by grind) ?_
    rintro j _ bl hj ⟨aV,ag,bi,cY,cV⟩
    have dQ:=bhO (f:=ue ns w l x) (c:=1) (λj=>by rw[bn];split<;>simp) j
    simp+contextual only[qz 361,au,ck,aI,u0,u1,↓uL]
    refine⟨λaE=>?_,λaE=>?_⟩
    ·have aX:=aL aE
     refine bsK (λe=>∀g Y',cm Y' b w ns (O4++[Lw++Wk]++(aH j).flatMap (ue ns w l x)++ue ns w l x j) n g->Ad Y Y' b a g->gA Y' 3 1 y (Lw.map ci)->box Y' (15,v3)=V ⟨107,3,U,U,[aH8.c x]⟩->e [] Y') ?_ λe aw=>?_
     ·intro g Y' q1 q2 q3 q4
      simp only[qz 381,au,aI,u0,u1,↓uL]
      refine yU aX ⟨g,?_,q2,q3,q4⟩
      grind [aNG]
     simp only[qz 383,qy 94,au,ck,u0,u1,lX,tj,bh,↓uL]
     refine⟨dJ aX,?_⟩
     refine ic ag.le λb9 dk bB dh bL=>?_
     refine cy (cs:=aH8.c<|gd l j) bL rfl rfl (by decide) λP bC bM=>?_
     have N:box P (20,b9)=V ⟨107,3,U,U,[aH8.c<|gd l j]⟩:=bM
     have C:Fx bl P []:=(bB.trans bC).mono (by grind [bK.no])
     have H:=ag.kp C
     have ab:=bi.fxn C
     have aq:=C.kq cV
     have aK:=cY.fx C (by simp)
     rcases sq (Q<|(gd l j).b=x.b) with b0|b0
     ·simp+contextual only[qz 96,u0,u1,N,aq,rk,aj,b0,jA,qE,uO,bdZ,au,↓uL]
      refine⟨λdO=>?_,λdO=>aw aV P ?_ ab aK aq⟩
      ·refine bup aK (by omega) (by rw[H.le];decide) λeK cx dt aC cw=>?_
       have aO:=H.kp aC
       have cA:=aC.kq N
       have bS:=aC.kq aq
       simp only[qz 98,u0,u1,cA,rk,aj,↓uL]
       refine nc (d:=0) aO u _ _ _ ?_
       simp only[qz 100,de u,aY,u0,u1,cA,bS,rk,aj,↓uL]
       refine kV (d:=0) aO u _ _ ?_
       simp only[qz 102,qy 104,fi,bQ]
       refine gD dt rfl (by decide) (by rw[aO.le];decide) fF fF (by grind [bZ,aO1]) λd0 dl cF bD c2 eh=>?_
       rw[<-dg] at cF
       have bk:Fx P dl []:=(aC.trans bD).mono (by grind [bK.no])
       have bv:=H.kp bk
       have c9:=ab.fxn bk
       simp only[qz 106]
       refine Dd bv (by simp only[a6G,bZ,aO1];omega) _ cF.t c9 (λq A=>?_) λdn cz dd da cp=>?_
       ·rcases c2 q A with X|X
        ·exact(cw q X).1.old ab.fx
        ·exact(X.old aC).old ab.fx
       have cn:∀q∈aA d0,q.1=279\/q.1=296:=λq A=>(by grind)
       have c0:gA cz 3 1 y (Lw.map ci):=by
        refine((aK.fx aC<|by simp).fx bD λq A m=>?_).fx cp λq A m=>?_
        ·have z:=(cw q m).2
         rcases yp q A with G|G<;>(omega)
        ·rcases eW.1 m with rfl|m
         ·rcases yp _ A with G|G<;>(grind)
         ·rcases dF.1 m with m|m
          ·have z:=bv.sa q m
           rcases yp q A with G|G<;>(omega)
          ·have z:=cn q m
           rcases yp q A with G|G<;>rcases z with z|z<;>(omega)
       have cW:=bD.keep _ _ (by grind) bS
       have cX:=cp.keep _ _ (λm=>by
        rcases eW.1 m with h|m
        ·grind
        ·rcases dF.1 m with m|m
         ·have z:=bv.sa _ m;simp at z
         grind) cW
       simp only[qz 108]
       refine dT (by
        rcases gy with⟨o,rfl⟩|⟨bb,rfl,hb⟩
        ·simp[eL,okT,tok,lb,cq,gz,dC,dK,au]
        ·have z:=yp bb (by simp[aA])
         obtain⟨b1,b2⟩:=bb
         rcases z with z|z<;>(simp only at z;subst z;simp[eL,okT,tok,lb,cq,gz,dC,dK,au])) (aw dn cz ?_ da c0 cX)
       rw[bn,f8<|by grind [eZ]]
       exact dd
      ·rw[bn,dB (by grind [eZ]),cL]
       exact H
     ·simp+contextual only[qz 96,u0,u1,N,aq,rk,aj,b0,jN,xM,uO,bdT,au,↓uL]
      refine⟨λh=>(nomatch h),λ_=>aw aV P ?_ ab aK aq⟩
      rw[bn,dB (by grind [eZ]),cL]
      exact H
    grind
 ·rw[bP Z<|bw h] at aQ m4
  generalize cH:O3++((aH<|L l).flatMap λk=>nT ns w l<|gd l k)=O4 at aQ
  have o4:L O4<=L O3+L l*401:=by grind
  clear Z h i
  have cC:=aQ.bx
  simp only[aPF cC,u0,u1,cC,rkB,aj,cT,↓uL]
  refine yV (L w.ac) (λk _ Y'=>∃g,cm Y' b w ns (O4++(aH k).flatMap (ng ns w l)) n g/\Ad Y Y' b a g) (by grind) ?_
  rintro i _ Y5 Z ⟨a5,R,A5⟩
  have eD:=W.ok.ev
  have m5:=bhO (f:=ng ns w l) (c:=401) (λk=>by
   unfold ng
   split
   ·have:=bhO (f:=iO ns k (bh0 w k).1 l) (c:=1) (λj=>by unfold iO;split<;>simp)<|L l
    grind
   ·simp) i
  simp+contextual only[qz 403,au,aI,u0,u1,↓uL]
  refine⟨λh5=>?_,λh5=>?_⟩
  ·have bo:=aL h5
   refine bsK (λe=>∀g Y',cm Y' b w ns (O4++(aH i).flatMap (ng ns w l)++ng ns w l i) n g->Ad Y Y' b a g->e [] Y') ?_ λe aw=>?_
   ·intro g Y' q1 q2
    simp only[qz 423,au,aI,u0,u1,↓uL]
    refine yU bo ⟨g,?_,q2⟩
    grind [aNG]
   simp only[qz 425,qy 110,au,u0,u1,ix,rk,bh,↓uL]
   refine⟨dJ bo,?_⟩
   generalize ez:O4++(aH i).flatMap (ng ns w l)=O5 at*
   have o5:L O5<=L O4+i*401:=by grind
   refine ic R.le λv6 Y6 F6 N6 b6=>?_
   refine cy (cs:=aP.c<|gd w.ac i) b6 rfl rfl (by decide) λF T b7=>?_
   have ad:box F (22,v6)=V ⟨62,7,U,U,[aP.c<|gd w.ac i]⟩:=b7
   have ct:Fx Y5 F []:=(F6.trans T).mono (by grind [bK.no])
   have E:=R.kp ct
   have A7:=A5.fxn ct
   have aW:=E.bx
   simp+contextual only[qz 112,au,aPF aW,u0,u1,aW,ad,rkB,rk,ix,aj,sY,ar,oJ,pG,↓uL]
   refine⟨λc3=>?_,λc3=>⟨⟨by omega,dJ bo,(W.th i bo).2,by have:=W.ts;omega⟩, .inl rfl,λdL=>?_,λdL=>?_⟩⟩
   ·refine aw a5 F ?_ A7
    grind [ng]
   ·refine aw a5 F ?_ A7
    grind [ng]
   ·have d1:(gd w.ac i).kind=17:=by simp_all
    have ej:(bh0 w i).2=U:=by grind
    have cI:ng ns w l i=(-lE ns i::gO ns l (bh0 w i).1)::(aH<|L l).flatMap (iO ns i (bh0 w i).1 l):=by grind [ng]
    generalize(bh0 w (i:Int)).1=wt at*
    refine bno (d:=0) E u _ ?_
    simp only[qz 114,de u,aY,a5Y,bQ,qz 116,↓uL]
    refine Ks (d:=0) E u _ _ λt2=>?_
    have dM:nG ns l wt (-1)=gO ns l wt:=by
     unfold nG gO
     congr 1
     refine List.filter_congr λv hv=>?_
     have:=(hV v hv).1.1
     simp;omega
    rw[cJ,dM]
    have dz:L (gO ns l wt)<=L l:=by grind [gO]
    simp only[qz 118]
    refine bsg (bA:=[-lE ns i].map ci) (.inl ⟨U,rfl⟩) rfl (by decide) (by rw[E.le];decide) fF fF (by grind) λy8 Y8 g8 F8 bW=>?_
    rw[<-dg,List.singleton_append] at g8
    have cv:Fx F Y8 []:=F8.mono (by simp[aA])
    have S:=E.kp cv
    have A8:=A7.fxn cv
    simp only[qz 120]
    refine Dd S (by omega) _ g8 A8 (λq A=>?_) λa9 Y9 B9 A9 F9=>?_
    ·rcases bW q A with X|X
     ·simp[aA] at X
     ·exact X.1.old A7.fx
    simp only[qz 122,gT,u0,↓uL]
    refine yV (L l) (λj _ Y'=>∃g,cm Y' b w ns (O5++[-lE ns i::gO ns l wt]++(aH j).flatMap (iO ns i wt l)) n g/\Ad Y Y' b a g) (by grind) ?_
    rintro j _ bl hj ⟨aV,ag,bi⟩
    have dQ:=bhO (f:=iO ns i wt l) (c:=1) (λj=>by unfold iO;split<;>simp) j
    simp+contextual only[qz 475,au,aI,u0,u1,↓uL]
    refine⟨λaE=>?_,λaE=>?_⟩
    ·have aX:=aL aE
     refine bsK (λe=>∀g Y',cm Y' b w ns (O5++[-lE ns i::gO ns l wt]++(aH j).flatMap (iO ns i wt l)++iO ns i wt l j) n g->Ad Y Y' b a g->e [] Y') ?_ λe cM=>?_
     ·intro g Y' q1 q2
      simp only[qz 495,au,aI,u0,u1,↓uL]
      refine yU aX ⟨g,?_,q2⟩
      grind [aNG]
     simp only[qz 497,qy 124,au,u0,u1,lX,tj,bh,↓uL]
     refine⟨dJ aX,?_⟩
     refine ic ag.le λb9 dk bB dh bL=>?_
     refine cy (cs:=aH8.c<|gd l j) bL rfl rfl (by decide) λP bC bM=>?_
     have N:box P (26,b9)=V ⟨107,3,U,U,[aH8.c<|gd l j]⟩:=bM
     have C:Fx bl P []:=(bB.trans bC).mono (by grind [bK.no])
     have H:=ag.kp C
     have ab:=bi.fxn C
     have dD:iO ns i wt l j=if(gd l j).b=wt then[[-lE ns i,-dP ns (gd l j),lB ns (gd l j).a i]] else[]:=rfl
     generalize dy:O5++[-lE ns i::gO ns l wt]++(aH j).flatMap (iO ns i wt l)=O6 at*
     have o6:L O6<=L O5+1+j:=by rw[<-dy];simp only[a6G,bZ,aO1];omega
     simp+contextual only[qz 126,au,u0,u1,N,rk,aj,↓uL]
     refine⟨λhb=>?_,λhb=>cM aV P ?_ ab⟩
     ·refine bno (d:=0) H u _ ?_
      simp only[qz 128,au,de u,u0,u1,N,rk,aj,↓uL]
      refine nc (d:=0) H u _ _ _ ?_
      simp only[qz 130,au,de u,u0,u1,N,rk,aj,↓uL]
      refine kV (d:=0) H u _ _ ?_
      simp only[qz 132,xA,bQ,qz 134]
      refine fQ H (by omega) [_,_,_] λdm cx aO c8=>?_
      simp only[qz 136]
      refine dT (by simp[eL,okT,tok,lb,cq,gz,dC,dK])<|cM dm cx ?_<|ab.trans c8
      rw[dD,f8<|qc hb]
      exact aO
     simp_all
    ·rw[bP hj<|bw aE] at ag
     refine aw aV bl ?_ bi
     rw[cI]
     simpa using ag
  ·rw[bP Z<|bw h5] at R
   refine⟨a5,rfl,?_,A5⟩
   rw[sN]
   simp only[<-bje,dv,dw,dx,cH]
   exact R
end
def brQ(ns:List aH8)(w:am):List (List Int):=bqD ns w++oH ns w++sN ns w (aR ns 5)++rJ ns w
def yc(w:am)(u:Int)(l:List Int):L (fg w u l)<=L l:=by unfold fg bqV;have h:=jo (f:=λn=>fw (lm w u n)<|L w.ac) (m:=1) (l:=l.take<|L l) (by grind [Er]);simp_all
theorem KI{w:am}(h:xv w){k:Nat}(b:k<L w.ac):L (gd w.ac k).dI<=2000/\L (gd w.ac k).ep<=2000:=by have i:∀x,x∈(gd w.ac k).dI\/x∈(gd w.ac k).ep-> -1000<=x/\x<=1000:=λx d=>⟨(h.rd k b x d).1,(h.rd k b x d).2.1⟩;have c:=(h.wo.wo.en k b).2;simp only[be3,bip,eH,cP,fK,j4] at c;obtain⟨_,_,_,_,⟨f,g⟩,_⟩:=c;constructor;rcases oD (L (gd w.ac k).dI) with a|a;omega;have e:=yq f (L (gd w.ac k).dI-1) (by omega);grind [ig];rcases oD (L (gd w.ac k).ep) with a|a;omega;have e:=yq g (L (gd w.ac k).ep-1) (by omega);grind [ig]
structure VW(w:am):Prop where
 hf:hU w
 hv:bcV w=U
 ps:xv w
 wv:WV w
 ln:L (cw w)<2000
 l5:L (aR (cw w) 5)<=320
 nt:L w.aQ.ay<=4
 it:L w.init.bW.ay=L w.aQ.ay
 th:∀k,k<L w.ac->aF (L w.aQ.ay) (gd w.ac k).aq
 hp:∀r:Nat,r<L w.ac->((gd w.ac r).kind=23->aF (L w.init.bW.done) (gd w.ac r).bF/\aF (L w.init.bU) (gd w.ac r).bF)/\((gd w.ac r).kind=3->aF (L w.init.cells) (gd w.ac r).bF)
def vw{w:am}(d:hU w)(a:bcV w=U):VW w:=by have s:=anT d a;have b:=vd d a;obtain⟨v,x,y,i,t⟩:=Bx a;obtain⟨fc,fl,z,e⟩:=iY i;have n:=b.th;have g:=(aQA a).1;simp only[oh,cP,fK,j5] at g;have o:=g.1.1.1.1.2;simp only[fN,bN,j4] at o;have c:=Bq a 0<|mh _;have p:∀k,k<L w.ac->aF (L w.aQ.ay) (gd w.ac k).aq:=λk j=>(b.wo.named j).2;have m:=anE b.wo.ev (show L w.init.bW.ay<=4 by omega);refine⟨d,a,s,⟨b.wo,λk j=>?_,(by simp_all),λu B=>?_,by omega,⟨fl,by have:=c.lo;grind [cY]⟩,λl q=>?_⟩,m.1,by rw[Qf];exact m.2,n,e,p,λr A=>⟨λh=>?_,λh=>?_⟩⟩;grind [KI];grind [xv.ct,ii];have f:=c.rd l q;have:=AC f.1 f.2;omega;grind [oU,kB.named,vL.wo];grind [qP,kB.named,vL.wo]
section
variable{w:am}{ns:List aH8}
theorem KB(e:L w.ac<=16):L (bqD ns w)<=1000:=by
 have a:=bhO (f:=jy ns<|L w.ac) (c:=16) (λx=>by
  have:=bhO (f:=my ns x) (c:=1) (by grind [my])<|L w.ac
  unfold jy;omega) (L w.ac)
 have b:=bhO (f:=kY ns w) (c:=2) (by grind [kY])<|L w.ac
 have d:=bhO (f:=mA ns w) (c:=2) (by grind [mA])<|L w.ac
 grind [bqD]
theorem axl{s:List bp}(h:L s<=100):L (rL ns s)<=40000:=by
 have:=bhO (f:=mw ns s) (c:=400) (λi=>by
  have a:=bhO (f:=λj=>iA ns (gd s i)<|gd (s.drop<|i+1) j) (c:=4) (λj=>axk)<|L<|s.drop<|i+1
  grind [mw]) (L s)
 unfold rL;omega
theorem btz(a:VW w)(k:Nat)(c:k<=L w.aQ.ak+1):L ((aH k).flatMap<|pE ns w)<=200000:=by have h:=jo (f:=pE ns w) (m:=40000) (l:=aH k) λi b=>axl (Q6 a.hf a.hv ⟨by omega,by have:=fq.1 b;omega⟩);have:=a.wv.lk.2;grind
theorem Kz{l:List aH8}(a:L l<=320)(b:L w.ac<=16):L (sN ns w l)<=400000:=by
 have m1:=bhO (f:=λk=>iW ns<|gd l k) (c:=3) (by grind [iW])<|L l
 have d:=bhO (f:=lP ns l) (c:=320) (λk=>gl (bhO (f:=λj=>ju ns (gd l k)<|gd (l.drop<|k+1) j) (c:=1) (by grind [ju]) _)<|by simp;omega)<|L l
 have e:=bhO (f:=lQ ns w l) (c:=320) (λk=>gl (bhO (f:=λj=>jk ns w (gd l k)<|gd (l.drop<|k+1) j) (c:=1) (by grind [jk]) _)<|by simp;omega)<|L l
 have g:=bhO (f:=λk=>nT ns w l<|gd l k) (c:=321) (by grind [alM])<|L l
 have h:=bhO (f:=ng ns w l) (c:=321) (λk=>by
  unfold ng
  split
  ·have:=bhO (f:=iO ns k (bh0 w k).1 l) (c:=1) (by grind [iO])<|L l
   grind
  ·simp) (L w.ac)
 grind [sN]
theorem KA(a:VW w)(k:Nat)(q:k<=L w.ac):L ((aH k).flatMap<|gW ns w)<=1000000:=by have u:=a.wv.ok.ev;have h:=jo (f:=gW ns w) (m:=60000) (l:=aH k) λr t=>(by unfold gW;split;have e:=jo (f:=λj=>iP ns w r<|gd (dx w r) j) (m:=2020) (l:=aH<|L<|dx w r) λj d=>(by have hs:=(Kt<|ig<|fq.1 d).2;generalize gd (dx w r) j=s at hs⊢;unfold iP;rw[a6G];have g:L (kD ns w r s)<=2002:=(by unfold kD;split;rename_i b;have i:=bhO (f:=pD ns r s<|fg w (gd w.ac s.toNat).aq (gd w.ac s.toNat).ep) (c:=1) (λj=>by simp[pD])<|L<|fg w (gd w.ac s.toNat).aq (gd w.ac s.toNat).ep;have n:=yc w (gd w.ac s.toNat).aq (gd w.ac s.toNat).ep;have o:=(KI a.ps (k:=s.toNat) (by have:=(hs b).1.1;have:=(hs b).1.2;omega)).2;simp only[a6G,bZ,aO1];omega;simp);have p:=bhO (f:=bpl ns w r s) (c:=1) (by grind [bpl])<|L w.ac;omega);grind [vU];simp);grind
theorem Kw(a:VW w):L ((aH<|L w.ac).flatMap<|kX ns w)<=40000:=by have n:=a.wv.ok.ev;have h:=jo (f:=kX ns w) (m:=2000) (l:=aH<|L w.ac) λi b=>(by have d:=bhO (f:=qv ns i<|fg w (gd w.ac i).aq (gd w.ac i).dI) (c:=1) (λj=>by simp[qv])<|L<|fg w (gd w.ac i).aq (gd w.ac i).dI;have e:=yc w (gd w.ac i).aq (gd w.ac i).dI;have g:=(KI a.ps (k:=i)<|fq.1 b).1;unfold kX;omega);grind
def Kv(a:VW w)(b:L (aR ns 5)<=320):L (brQ ns w)<=2000000:=by have c:=KB (ns:=ns) a.wv.ok.ev;have d:=btz (ns:=ns) a (L w.aQ.ak+1)<|dA _;have e:=Kz (ns:=ns) (w:=w) b a.wv.ok.ev;have f:=KA (ns:=ns) a (L w.ac)<|dA _;have g:=Kw (ns:=ns) a;simp only[brQ,rJ,oH,a6G];omega
end
section
variable{Y:ae}
theorem ank{w:am}(d:VW w)(hl:L Y=4096):∃r z,(∃b n m a i j f,r= .p b 0 0/\bD z b w (cw w) (brQ (cw w) w) n m a i j f/\Fx Y z []/\bK Y b)/\cZ aS GG 32 [.a w.c] Y r z:=by refine aJ5 hl rfl λs2 v1 K2 aJ nf O=>?_;have x:Fx Y s2 []:=K2.fx [];have ab:L s2=4096:=x.len.trans hl;have r15:aN (V 15) w.c=V (.a w.c):=rfl;have e:=d.wv.ok.ev;have aF:=d.ln;have aG:=d.wv.lk.2;have M:jb w (cw w):=anG (by omega);have D:=an6 d.ps d.hf;have S:GU w (cw w):=aId e;have Wk:sE w (cw w):=Rq e d.wv.ts;have ad:=d.l5;have q1:=KB (ns:=cw w) e;have q3:=Kz (ns:=cw w) (w:=w) ad e;have q4:=KA (ns:=cw w) d (L w.ac)<|dA _;have q6:=Kw (ns:=cw w) d;have q2:=λk X=>btz (ns:=cw w) d k X;simp only[bt8,qy 4,u0,u1,O,r15,↓uL];refine jH rfl (aCA ab d.hv d.hf aEm<|by omega) ?_;rintro r3 Y3 ⟨b,n,m,i,j,f,rfl,C3,y,Nb,_,_⟩;refine⟨y.len,?_⟩;have P:=y.kq O;have T:((1,v1):Id)≠b:=(by grind [bD.sb]);generalize cw w=ns at*;refine aEh C3 M d.th e (by grind) λa4 Y4 C4 A4=>?_;have R:=A4.keep P T (by simp[aA]);simp only[qz 6,u0,u1,R,rk,aj,cT,↓uL];refine yV (L w.aQ.ak) (λk _ Y'=>∃G,bD Y' b w ns (bqD ns w++(aH k).flatMap (pE ns w)) n m G i j f/\Ad Y3 Y' b (.l [] U U) G) (by grind) ?_;rintro k _ Y5 X ⟨a5,g,E⟩;have aK:=q2 k (by omega);simp only[qz 31,au,aI,u0,u1,↓uL];refine⟨λh=>?_,λh=>?_⟩;have o:=aL h;refine aEf g d.hf d.hv (dJ o) λt=>?_;simp only[qz 8,↓uL];refine bsi rfl (anl g M (by grind [Q6,VW.hf,VW.hv]) (by grind [anV,VW.hf,VW.hv])<|by grind) λK Y6 v u=>?_;simp only[qz 10,au,u0,u1,↓uL];refine yU o ⟨K,?_,E.trans u⟩;rw[aNG,<-bje];exact v;have Z:k=L w.aQ.ak:=(by grind);subst Z;have s:=q2 (L w.aQ.ak+1)<|dA _;rw[aNG,a6G] at s;have W:pE ns w (L w.aQ.ak)=rL ns (jE w.aQ w.init.bW w.ac<|L w.aQ.ak):=rfl;rw[W] at s;refine aEk g d.hf d.hv λt=>?_;simp only[qz 12,qy 14,↓uL];refine bsi rfl (anl g M (by grind [Q6,VW.hf,VW.hv]) (by grind [anV,VW.hf,VW.hv])<|by grind) λK Y6 v u=>?_;refine bsi rfl (aDJ v M Wk e<|by grind) λa7 Y7 C7 A7=>?_;simp only[qz 16,qy 18,↓uL];have hN:sN ns w (aR ns 5)=(((aH<|L<|aR ns 5).flatMap λk=>iW ns<|gd (aR ns 5) k)++((aH<|L<|aR ns 5).flatMap (lP ns<|aR ns 5)++((aH<|L<|aR ns 5).flatMap (lQ ns w<|aR ns 5)++((aH<|L<|aR ns 5).flatMap λk=>qw ns w<|gd (aR ns 5) k))))++(aH<|L w.ac).flatMap (bru ns w):=(by simp only[sN,bje];rfl);rw[hN,a6G] at q3;generalize(((aH<|L<|aR ns 5).flatMap λk=>iW ns<|gd (aR ns 5) k)++((aH<|L<|aR ns 5).flatMap (lP ns<|aR ns 5)++((aH<|L<|aR ns 5).flatMap (lQ ns w<|aR ns 5)++((aH<|L<|aR ns 5).flatMap λk=>qw ns w<|gd (aR ns 5) k))))=N at*;refine bsi rfl (aDv C7 M Wk d.th d.it d.nt e<|by grind) λa8 Y8 C8 A8=>?_;refine bsi rfl (aDV C8 M D S d.th e<|by grind) λa9 Y9 C9 A9=>?_;simp only[qz 20,qy 22,↓uL];refine aEd C9 M D d.th e (by grind [a6G]) λH aE F C=>?_;have A:=((((E.trans u).trans A7).trans A8).trans A9).trans C;have B:brQ ns w=bqD ns w++(aH<|L w.aQ.ak).flatMap (pE ns w)++rL ns (jE w.aQ w.init.bW w.ac<|L w.aQ.ak)++N++(aH<|L w.ac).flatMap (bru ns w)++(aH<|L w.ac).flatMap (gW ns w)++(aH<|L w.ac).flatMap (kX ns w):=(by simp_all [brQ,oH,aNG,rJ]);rw[B];refine⟨b,n,m,H,i,j,f,rfl,F,((x.trans y).trans A.fx).mono λq hq=>?_,Nb.old x⟩;simp only[dW,aA,cE] at hq;grind [bK.no,bK.old]
end
def apz:dO:=apy
def Ri:eJ apz:=aph
def Ld:=@aBq
def S1 a b R:=(.mk _:NR apz auF Tryz.f13 [.u] [a] b R).p
def aJ2{c0:List AV}{R:cC}(l0:L c0=15)(h:H1 43 15 1 c0 λia b=>S1 ia b R):Ct 13 [.a c0] R:=z1 auF Ri Tryz.func13 l0 h
def vZ(w:am)(a:List<|List Int):br6:=⟨L w.ac,L<|cw w,lL<|cw w,a⟩
def Em{Y:ae}{p v:Nat}{zs:List AV}{a1 a:AV}{w:am}{d:List (List Int)}{R:cC}(m:box Y (p,v)=V ⟨54,4,U,U,[zs]⟩)(K:L zs=4)(g1:bc Y 86 3 a1<|(lL<|cw w).map bqR.c)(g:bc Y 38 1 a<|d.map λc=>[sl ci c])(n:∀ds,Lk ds (vZ w d).c->R (.a ds)):sV (aK 4 Y (.p (p,v) 0 0)<|.a [iv<|L w.ac,iv<|L<|cw w,a1,a]) λs=>rV (vl (V 4) s<|.p (p,v) 0 0) λt=>aE R s [t]:=by have j:∀{x y x2 k:AV},aN (V 4) [x,y,x2,k]=V (.a [x,y,x2,k]):=rfl;refine cy (y:=4) (cs:=[iv<|L w.ac,iv<|L<|cw w,a1,a]) m rfl rfl (by omega) λb f F=>?_;have h:box b (p,v)=V ⟨54,4,U,U,[[iv<|L w.ac,iv<|L<|cw w,a1,a]]⟩:=(by simp_all);have i:∀{e:TypeId} {z:Nat} {x:AV} {bA:List (List AV)},bc Y e z x bA->∀q∈aA x,q∉[((p,v):Id)]:=(by intro e z x bA o q r G;rcases o with⟨_,rfl⟩|⟨E,rfl,H⟩;simp[aA] at r;grind [aA]);obtain⟨t1,o1,B⟩:=(g1.fx f<|i g1).frD;obtain⟨D,A,C⟩:=(g.fx f<|i g).frD;simp only[u1,h,u0,j,↓uL];have u:jS b [.a [iv<|L w.ac,iv<|L<|cw w,a1,a]]= .a [iv<|L w.ac,iv<|L<|cw w, .l ((lL<|cw w).map bqR.c) t1 o1, .l (d.map λc=>[sl ci c]) D A]:=(by show AV.a [dQ b<|iv<|L w.ac,dQ b<|iv<|L<|cw w,dQ b a1,dQ b a]=_;rw[B,C];rfl);unfold aE;rw[u];exact⟨rfl,n _ ⟨rfl,rfl⟩⟩
def NN(w:am)(s:bcV w=U/\hU w):Ct 13 [.a w.c] (λr=>∃ds,r= .a ds/\Lk ds (vZ w<|brQ (cw w) w).c):=by refine aJ2 rfl λD l p A=>?_;obtain⟨m,k⟩:=s;have d:=vw k m;have r15:aN (V 15) w.c=V (.a w.c):=rfl;simp only[S1,↓uL];refine ic l λF E e t q=>?_;have j:=e.kq p;simp only[qz 4,qy 6,qy 8,u0,u1,j,r15,ar,Ld,m,k,asq,ip,fh,eE,aPy,aYF,↓uL];refine jH rfl (ank d<|e.len.trans l) ?_;rintro B v ⟨b,n,G,a,y,z,f,rfl,o,h,u⟩;refine⟨h.len,?_⟩;refine jH rfl (anm o (by have:=d.ln;omega)) ?_;rintro C x ⟨a1,rfl,g1,g,i⟩;refine⟨i.len,?_⟩;simp only[qz 10,qy 12,↓uL];exact Em ((h.trans i).kq q) rfl g1 g (by simp)
def E1:FT:=om NN
def ax0{w Lw K}:=f111 E1 NN w Lw K
structure bxT(w:am)(g:cJ):Prop where
 h1:g.kind=1->aF (L w.ac) g.ea/\aF (L w.ac) g.eb
 h2:g.kind=2->(∀e∈g.cW,aF (L w.ac) e)/\L g.cW<=4
 h3:g.kind=3->aF (L w.ac) g.ea/\aF (L w.ac) g.eb/\g.ea≠g.eb
 h4:g.kind=4->aF (L w.ac) g.ea/\aF (L w.ac) g.eb/\aF (L w.ac) g.ec/\aF (L w.ac) g.ed/\g.ea≠g.ec
def apB:dO:=(13,E1)::apz
def Rj:eJ apB:=sz (rj NN)<|Ri
def amo:=ai @ax0<|@Ld
def afM a b R:=(.mk _:NR apB at1 Tryz.f14 [.u] [a] b R).p
def aMb{c0:List AV}{R:cC}(l0:L c0=15)(h:H1 43 15 1 c0 λia b=>afM ia b R):Ct 14 [.a c0] R:=z1 at1 Rj Tryz.func14 l0 h
section
variable{Y:ae}{b:Id}{w:am}{ns:List aH8}{out:List (List Int)}{n a:AV}{d:Nat}{K:be}
theorem am3{w:am}(e:VW w){Y:ae}(m:L Y=4096):∃r i,(∃b n a,r= .p b 0 0/\cm i b w (cw w) (brQ (cw w) w) n a/\Fx Y i []/\bK Y b)/\cZ aS GG 42 [.a w.c] Y r i:=by refine aMg m rfl λz v1 P ab nf T=>?_;have h:Fx Y z []:=P.fx [];have o:L z=4096:=h.len.trans m;have r15:aN (V 15) w.c=V (.a w.c):=rfl;have g:=e.wv.ok.ev;have Wk:sE w (cw w):=Rq g e.wv.ts;simp only[Jk,qy 6,u0,u1,T,r15,ar,amo,↓uL];have aa:=e.ln;have s:=e.l5;have f:L (cw w)<100000:=(by omega);have q1:=KB (ns:=cw w) g;have q2:=btz (ns:=cw w) e (L w.aQ.ak+1)<|dA _;have q3:=Kz (ns:=cw w) (w:=w) s g;have q4:=KA (ns:=cw w) e (L w.ac)<|dA _;have q6:=Kw (ns:=cw w) e;have u:fN w.aQ w.init=U:=(by have hB:=(aQA e.hv).1;grind [oh]);refine⟨⟨e.wv.ok,e.wv.ts,u⟩,λt=>⟨.inl rfl,?_⟩⟩;have v:L w.c=15:=(by simp[am.c,J9.c,sA.c,aW.c]);have k:bM rq [(0,15),(15,1),(16,1)] [(0, .a w.c),(1, .l ((cw w).map aH8.c) t U)]=V (.a<|w.c++[.l ((cw w).map aH8.c) t U, .l [] U U]):=rfl;simp only[k,aY,↓uL];refine bxI (by simp[v]) (by decide) (by omega) λB Z j R W=>?_;have G:cm Z (8,B) w (cw w) [] (.l ((cw w).map aH8.c) t U) (.l [] U U):=⟨W,⟨_,_,rfl⟩,bc.nil,j.len.trans o,rfl,by simp[aA]⟩;generalize cw w=ns at*;refine aw6 G f g (by grind) λa6 s6 H C=>?_;refine awX H f e.wv (by simp only[dW,oH];omega) λa7 s7 M D=>?_;simp only[qz 8,qy 10,qy 12,↓uL];have y:∀x∈aR ns 5,aF (L w.ac) x.a/\(0<=x.b->aF (L w.ac) x.b):=(by grind [sE.ok]);refine ub rfl (aCC M f e.wv y (by omega)<|by grind [oH]) λa8 s8 N E=>?_;refine ub rfl (aCI N f e.wv (by grind [Kt]) (by grind [vU]) (yc w) e.hp<|by grind [oH,rJ]) λS s9 O F=>?_;have A:=((C.trans D).trans E).trans F;refine⟨(8,B),_,S,rfl,by simpa[brQ] using O,((h.trans j).trans A.fx).mono λq X=>?_,R.old h⟩;simp only[dW,aA,cE] at X;grind [bK.no,bK.old]
end
def PH(w:am)(q:bcV w=U/\hU w):Ct 14 [.a w.c] (λr=>∃ds,r= .a ds/\Lk ds (vZ w<|brQ (cw w) w).c):=by refine aMb rfl λB k m y=>?_;obtain⟨s,p⟩:=q;have e:=vw p s;have r15:aN (V 15) w.c=V (.a w.c):=rfl;simp only[afM,↓uL];refine ic k λD C f t o=>?_;have j:=f.kq m;simp only[qz 4,qy 6,u0,u1,j,r15,↓uL];refine jH rfl (am3 e<|f.len.trans k) ?_;rintro z v ⟨b,n,a,rfl,l,h,u⟩;refine⟨h.len,?_⟩;refine jH rfl (am4 l (by have:=e.ln;omega)) ?_;rintro A x ⟨a1,rfl,g1,g,i⟩;refine⟨i.len,?_⟩;simp only[qz 8,qy 10,↓uL];exact Em ((h.trans i).kq o) rfl g1 g (by simp)
def Gb:FT:=om PH
def azt{w Lw K}:=f111 Gb PH w Lw K
def apC:dO:=(14,Gb)::apB
def Rk:eJ apC:=sz (rj PH)<|Rj
def fsR:=ai @azt<|@amo
section
attribute[local irreducible] aX
def a1q a s0 R:=(.mk _:NR apC auF Tryz.f311 [a] [] s0 R).p
def bgS{a:AV}{R:cC}(h:H0 λs0=>a1q a s0 R):Ct 311 [a] R:=z0 auF Rk Tryz.func311 h
def a9i:=I5 8 [(5,([5],[]))]
def a1m a a1 s0 R:=(.mk _:NR apC a9i Tryz.f294 [a,a1] [] s0 R).p
def bgQ{a a1:AV}{R:cC}(h:H0 λs0=>a1m a a1 s0 R):Ct 294 [a,a1] R:=z0 a9i Rk Tryz.func294 h
def a1M a s0 R:=(.mk _:NR apC at1 Tryz.f262 [a] [] s0 R).p
def bgW{a:AV}{R:cC}(h:H0 λs0=>a1M a s0 R):Ct 262 [a] R:=z0 at1 Rk Tryz.func262 h
def a2y a a1 s0 R:=(.mk _:NR apC at1 Tryz.f232 [a,a1] [] s0 R).p
def bg7{a a1:AV}{R:cC}(h:H0 λs0=>a2y a a1 s0 R):Ct 232 [a,a1] R:=z0 at1 Rk Tryz.func232 h
def a2D a a1 s0 R:=(.mk _:NR apC atS Tryz.f241 [a,a1] [] s0 R).p
def bg9{a a1:AV}{R:cC}(h:H0 λs0=>a2D a a1 s0 R):Ct 241 [a,a1] R:=z0 atS Rk Tryz.func241 h
def a9l:=I5 10 [(3,([5],[1,2]))]
def a1r a a1 b R:=(.mk _:NR apC a9l Tryz.f304 [.u,a1] [a] b R).p
def bgT{c0:List AV}{a1:AV}{R:cC}(l0:L c0=6)(h:H1 31 6 2 c0 λia b=>a1r ia a1 b R):Ct 304 [.a c0,a1] R:=z1 a9l Rk Tryz.func304 l0 h
def a9n:=I5 21 [(3,([5],[1,4])),(8,([13],[1,4])),(15,([37],[1,4]))]
def a1F a b R:=(.mk _:NR apC a9n Tryz.f192 [.u] [a] b R).p
def bgV{c0:List AV}{R:cC}(l0:L c0=6)(h:H1 264 6 1 c0 λia b=>a1F ia b R):Ct 192 [.a c0] R:=z1 a9n Rk Tryz.func192 l0 h
def a24 a s0 R:=(.mk _:NR apC auF Tryz.f296 [a] [] s0 R).p
def bhe{a:AV}{R:cC}(h:H0 λs0=>a24 a s0 R):Ct 296 [a] R:=z0 auF Rk Tryz.func296 h
def aVt b R t1 a:=aU b (iv 6) λt3=>Qcf t3 b λf=>aC t3 (aO .gtr f<|iv 28) λg=>aD t3 (bv U) g λh=>ah h (aE R a [iv 0]) (aO .sub b (iv 6) λc=>ao 1 a t1 c λd=>aM a d λe=>aE R a [e])
def aVs a s0 R:=eV (aX bH 23 s0 [(0,iv 3),(1,iv 3),(2,iv 4),(3,iv 4),(4,iv 5),(5,iv 6),(6,iv 7),(7,iv 8),(8,iv 9),(9,iv 10),(10,iv 11),(11,iv 12),(12,iv 13),(13,iv 14),(14,iv 15),(15,iv 16),(16,iv 18),(17,iv 19),(18,iv 20),(19,iv 21),(20,iv 22),(21,iv 23),(22,iv 2)])<|aVt a R
def bhn{a:AV}{R:cC}(h:H0 λs0=>aVs a s0 R):Ct 264 [a] R:=z0 asK Rk Tryz.func264 h
def a0p a a1 s0 R:=(.mk _:NR apC atS Tryz.f270 [a,a1] [] s0 R).p
def bgB{a a1:AV}{R:cC}(h:H0 λs0=>a0p a a1 s0 R):Ct 270 [a,a1] R:=z0 atS Rk Tryz.func270 h
def a0C a a1 s0 R:=(.mk _:NR apC atS Tryz.f271 [a,a1] [] s0 R).p
def bgG{a a1:AV}{R:cC}(h:H0 λs0=>a0C a a1 s0 R):Ct 271 [a,a1] R:=z0 atS Rk Tryz.func271 h
def a8V:=I5 9 []
def a0e a s0 R:=(.mk _:NR apC a8V Tryz.f318 [a] [] s0 R).p
def bgt{a:AV}{R:cC}(h:H0 λs0=>a0e a s0 R):Ct 318 [a] R:=z0 a8V Rk Tryz.func318 h
def a0l a b R:=(.mk _:NR apC at1 Tryz.f313 [.u] [a] b R).p
def bgy{c0:List AV}{R:cC}(l0:L c0=4)(h:H1 272 4 1 c0 λia b=>a0l ia b R):Ct 313 [.a c0] R:=z1 at1 Rk Tryz.func313 l0 h
def a0S a a1 s0 R:=(.mk _:NR apC auF Tryz.f300 [a,a1] [] s0 R).p
def bgK{a a1:AV}{R:cC}(h:H0 λs0=>a0S a a1 s0 R):Ct 300 [a,a1] R:=z0 auF Rk Tryz.func300 h
def a0R a s0 R:=(.mk _:NR apC auF Tryz.f303 [a] [] s0 R).p
def bgJ{a:AV}{R:cC}(h:H0 λs0=>a0R a s0 R):Ct 303 [a] R:=z0 auF Rk Tryz.func303 h
def a0c a s0 R:=(.mk _:NR apC at1 Tryz.f196 [a] [] s0 R).p
def bgs{a:AV}{R:cC}(h:H0 λs0=>a0c a s0 R):Ct 196 [a] R:=z0 at1 Rk Tryz.func196 h
def a0a a s0 R:=(.mk _:NR apC at1 Tryz.f280 [a] [] s0 R).p
def bgr{a:AV}{R:cC}(h:H0 λs0=>a0a a s0 R):Ct 280 [a] R:=z0 at1 Rk Tryz.func280 h
def aUG s0 R:=(.mk _:NR apC at1 Tryz.f193 [] [] s0 R).p
def bgk{R:cC}(h:H0 λs0=>aUG s0 R):Ct 193 [] R:=z0 at1 Rk Tryz.func193 h
def aVS s0 R:=(.mk _:NR apC at1 Tryz.f182 [] [] s0 R).p
def bhz{R:cC}(h:H0 λs0=>aVS s0 R):Ct 182 [] R:=z0 at1 Rk Tryz.func182 h
def a9S:=I5 21 [(3,([9],[0,1,2,3])),(11,([10,11,12],[0,1,2,3,9])),(14,([10,11],[0,1,2,3,9,12]))]
def a4p a a1 b c s0 R:=(.mk _:NR apC a9S Tryz.f124 [a,a1,b,c] [] s0 R).p
def bhq{a a1 b c:AV}{R:cC}(h:H0 λs0=>a4p a a1 b c s0 R):Ct 124 [a,a1,b,c] R:=z0 a9S Rk Tryz.func124 h
def aU6 a a1 s0 R:=(.mk _:NS apC atS Tryz.f276 [a,a1] [] s0 R).p
def bg3{a a1:AV}{s0:ae}{R:be}(hs:L s0=4096)(h:aU6 a a1 s0 R):EB 276 [a,a1] s0 R:=zB atS Rk Tryz.func276 h
end
inductive kW where
 |mk(op n:Int)(name:ByteArray)(l:List kW)
def kW.op:kW->Int| .mk a _ _ _=>a
def kW.n:kW->Int| .mk _ a _ _=>a
def kW.name:kW->ByteArray| .mk _ _ a _=>a
def kW.l:kW->List kW| .mk _ _ _ a=>a
instance:Inhabited kW:=⟨.mk 0 0 ⟨#[]⟩ []⟩
mutual
def kW.c:kW->List AV| .mk op n a l=>[iv op,iv n,st a, .l (kW.cr l) I I]
def kW.cr:List kW->List (List AV)|[]=>[]|e::l=>kW.c e::kW.cr l
end
def kW.cr_eq:∀{l:List kW},kW.cr l=l.map kW.c
 |[]=>by simp only[kW.cr,mU]
 |e::l=>by simp only[kW.cr,ji,kW.cr_eq]
def aoH{x:kW}:kW.c x=[iv x.op,iv x.n,st x.name,sl kW.c x.l]:=by cases x;simp only[kW.c,kW.cr_eq,kW.op,kW.n,kW.name,kW.l,sl]
inductive NA where
 |mk(op line:Int)(name arg:ByteArray)(index:List kW)(expr:kW)(body els:List NA)
def NA.op:NA->Int| .mk a _ _ _ _ _ _ _=>a
def NA.line:NA->Int| .mk _ a _ _ _ _ _ _=>a
def NA.name:NA->ByteArray| .mk _ _ a _ _ _ _ _=>a
def NA.arg:NA->ByteArray| .mk _ _ _ a _ _ _ _=>a
def NA.index:NA->List kW| .mk _ _ _ _ a _ _ _=>a
def NA.expr:NA->kW| .mk _ _ _ _ _ a _ _=>a
def NA.body:NA->List NA| .mk _ _ _ _ _ _ a _=>a
def NA.els:NA->List NA| .mk _ _ _ _ _ _ _ a=>a
instance:Inhabited NA:=⟨.mk 0 0 ⟨#[]⟩ ⟨#[]⟩ [] default [] []⟩
mutual
def NA.c:NA->List AV| .mk op e b arg index a d els=>[iv op,iv e,st b,st arg,sl kW.c index,iv a.op,iv a.n,st a.name,sl kW.c a.l, .l (NA.cr d) I I, .l (NA.cr els) I I]
def NA.cr:List NA->List (List AV)|[]=>[]|e::l=>NA.c e::NA.cr l
end
def NA.cr_eq:∀{l:List NA},NA.cr l=l.map NA.c
 |[]=>by simp only[NA.cr,mU]
 |e::l=>by simp only[NA.cr,ji,NA.cr_eq]
def a6X{x:NA}:NA.c x=[iv x.op,iv x.line,st x.name,st x.arg,sl kW.c x.index,iv x.expr.op,iv x.expr.n,st x.expr.name,sl kW.c x.expr.l,sl NA.c x.body,sl NA.c x.els]:=by cases x;simp only[NA.c,NA.cr_eq,NA.op,NA.line,NA.name,NA.arg,NA.index,NA.expr,NA.body,NA.els,sl]
structure w6 where
 kind:Int
 line:Int
 name:ByteArray
 size:Int
 init:Int
 on:ByteArray
 deriving Inhabited
def w6.c(x:w6):List AV:=[iv x.kind,iv x.line,st x.name,iv x.size,iv x.init,st x.on]
structure aO6 where
 name:ByteArray
 line:Int
 locs:List ByteArray
 body:List NA
 deriving Inhabited
def aO6.c(x:aO6):List AV:=[st x.name,iv x.line,sl cs x.locs,sl NA.c x.body]
structure aQl where
 bm0:List w6
 ay:List aO6
 deriving Inhabited
def aQl.c(x:aQl):List AV:=[sl w6.c x.bm0,sl aO6.c x.ay]
structure aNZ where
 op:Int
 a:Int
 b:Int
 k:Int
 n:Int
 site:Int
 deriving Inhabited
def aNZ.c(x:aNZ):List AV:=[iv x.op,iv x.a,iv x.b,iv x.k,iv x.n,iv x.site]
structure aTo where
 H7:Int
 bid:List aNZ
 deriving Inhabited
def aTo.c(x:aTo):List AV:=[iv x.H7,sl aNZ.c x.bid]
structure aBY where
 aQ:J9
 ay:List aTo
 deriving Inhabited
def aBY.c(x:aBY):List AV:=x.aQ.c++[sl aTo.c x.ay]
structure aNQ where
 pc:Int
 H7:List Int
 J6:List (List Int)
 ac:Int
 deriving Inhabited
def aNQ.c(x:aNQ):List AV:=[iv x.pc,sl ci x.H7,sl cl x.J6,iv x.ac]
structure atC where
 bW:aW
 cells:List Int
 bU:List Int
 ay:List aNQ
 deriving Inhabited
def atC.c(x:atC):List AV:=x.bW.c++[sl ci x.cells,sl ci x.bU,sl aNQ.c x.ay]
structure aOx where
 aQ:J9
 ac:List aP
 deriving Inhabited
def aOx.c(x:aOx):List AV:=x.aQ.c++[sl aP.c x.ac]
def aN9{x:kW}:L (kW.c x)=4:=by rw[aoH];rfl
theorem bit{x:NA}:L (NA.c x)=11:=by rw[a6X];rfl
section
variable{K:cC}{Y:ae}{i:Int}
def bcY{l:List kW}:rV (cz 4 Y (sl kW.c l)<|iv i) K=(aF (L l) i/\K (.q<|kW.c<|gd l i.toNat)):=aBz λ_=>aN9
def bc0{l:List NA}:rV (cz 11 Y (sl NA.c l)<|iv i) K=(aF (L l) i/\K (.q<|NA.c<|gd l i.toNat)):=aBz λ_=>bit
def bcX{l:List w6}:rV (cz 6 Y (sl w6.c l)<|iv i) K=(aF (L l) i/\K (.q<|w6.c<|gd l i.toNat)):=aBz λ_=>rfl
def bc2{l:List aO6}:rV (cz 4 Y (sl aO6.c l)<|iv i) K=(aF (L l) i/\K (.q<|aO6.c<|gd l i.toNat)):=aBz λ_=>rfl
def bcZ{l:List aNZ}:rV (cz 6 Y (sl aNZ.c l)<|iv i) K=(aF (L l) i/\K (.q<|aNZ.c<|gd l i.toNat)):=aBz λ_=>rfl
def bc1{l:List aTo}:rV (cz 2 Y (sl aTo.c l)<|iv i) K=(aF (L l) i/\K (.q<|aTo.c<|gd l i.toNat)):=aBz λ_=>rfl
def bc3{l:List aNQ}:rV (cz 4 Y (sl aNQ.c l)<|iv i) K=(aF (L l) i/\K (.q<|aNQ.c<|gd l i.toNat)):=aBz λ_=>rfl
def aPR{a b:Int}:a6F .rem 0 [] (iv a) (iv b)=if b≠0 then V (iv<|a.tmod b) else J:=by by_cases h:b=0<;>simp[a6F,zP,h]
def a5N{a b:Int}:a6F .quo 0 [] (iv a) (iv b)=if b≠0 then V (iv<|dq.wrap<|a.tdiv b) else J:=by by_cases h:b=0<;>simp[a6F,zP,h]
end
def ixv:=ai @bcY<|ai @bc0<|ai @bcX<|ai @bc2<|ai @bcZ<|ai @bc1<|@bc3
mutual
def a53:∀{x y:kW},kW.c x=kW.c y->x=y
 | .mk a b c d, .mk e f g j,h=>by
  simp only[kW.c,kO,AV.s.injEq,mW,mX,AV.l.injEq,ip,zp] at h
  obtain⟨rfl,rfl,rfl,h⟩:=h
  rw[a6d h]
def a6d:∀{x y:List kW},kW.cr x=kW.cr y->x=y
 |[],[],_=>rfl
 |[],_::_,h=>by grind [kW.cr]
 |_::_,[],h=>by grind [kW.cr]
 |a::l,b::m,h=>by
  simp only[kW.cr,kO] at h
  rw[a53 h.1,a6d h.2]
end
theorem aOD{x y:kW}:(kW.c x=kW.c y)=(x=y):=arm ⟨a53,λh=>by rw[h]⟩
def aOZ{l l':List kW}:(sl kW.c l=sl kW.c l')=(l=l'):=(by grind [kL,aOD])
mutual
def a54:∀{x y:NA},NA.c x=NA.c y->x=y
 | .mk a b c d e f g i, .mk k m o p t j u B,h=>by
  simp only[NA.c,kO,AV.s.injEq,mW,mX,AV.l.injEq,ip,zp,aOZ] at h
  obtain⟨rfl,rfl,rfl,rfl,rfl,v,w,z,A,q,r⟩:=h
  have:f=j:=by
   obtain⟨a,b,c,d⟩:=f;obtain⟨k,m,o,p⟩:=j
   grind [kW.op,kW.n,kW.name,kW.l]
  rw[this,aV9 q,aV9 r]
def aV9:∀{x y:List NA},NA.cr x=NA.cr y->x=y
 |[],[],_=>rfl
 |[],_::_,h=>by grind [NA.cr]
 |_::_,[],h=>by grind [NA.cr]
 |a::l,b::m,h=>by
  simp only[NA.cr,kO] at h
  rw[a54 h.1,aV9 h.2]
end
theorem a6B{x y:NA}:(NA.c x=NA.c y)=(x=y):=arm ⟨a54,λh=>by rw[h]⟩
def aO0{l l':List NA}:(sl NA.c l=sl NA.c l')=(l=l'):=(by grind [kL,a6B])
structure BF where
 aq:Int
 amt:Int
 deriving Inhabited,DecidableEq
def BF.c(x:BF):List AV:=[iv x.aq,iv x.amt]
theorem aOY{x y:w6}:(w6.c x=w6.c y)=(x=y):=by apply arm;constructor;intro h;(cases x;cases y);simp only[w6.c,J9.c,aW.c,zn,dW,kO,AV.s.injEq,mW,mV,mX,ip,zp,amV,aOD,aOZ,aO0] at h;simp only[w6.mk.injEq,J9.ext_iff',aW.ext_iff',sA.ext_iff',bio];exact h;intro h;rw[h]
def aPj{l l':List w6}:(sl w6.c l=sl w6.c l')=(l=l'):=(by grind [kL,aOY])
theorem aPD{x y:aO6}:(aO6.c x=aO6.c y)=(x=y):=by apply arm;constructor;intro h;(cases x;cases y);simp only[aO6.c,J9.c,aW.c,zn,dW,kO,AV.s.injEq,mW,mV,mX,ip,zp,amV,aOD,aOZ,aO0,aOY,aPj] at h;simp only[aO6.mk.injEq,J9.ext_iff',aW.ext_iff',sA.ext_iff',bio];exact h;intro h;rw[h]
def aPE{l l':List aO6}:(sl aO6.c l=sl aO6.c l')=(l=l'):=(by grind [kL,aPD])
theorem aPC{x y:aQl}:(aQl.c x=aQl.c y)=(x=y):=by apply arm;constructor;intro h;(cases x;cases y);simp only[aQl.c,J9.c,aW.c,zn,dW,kO,AV.s.injEq,mW,mV,mX,ip,zp,amV,aOD,aOZ,aO0,aOY,aPj,aPD,aPE] at h;simp only[aQl.mk.injEq,J9.ext_iff',aW.ext_iff',sA.ext_iff',bio];exact h;intro h;rw[h]
def aQr{l l':List aQl}:(sl aQl.c l=sl aQl.c l')=(l=l'):=(by grind [kL,aPC])
theorem aPX{x y:aNZ}:(aNZ.c x=aNZ.c y)=(x=y):=by apply arm;constructor;intro h;(cases x;cases y);simp only[aNZ.c,J9.c,aW.c,zn,dW,kO,AV.s.injEq,mW,mV,mX,ip,zp,amV,aOD,aOZ,aO0,aOY,aPj,aPD,aPE,aPC,aQr] at h;simp only[aNZ.mk.injEq,J9.ext_iff',aW.ext_iff',sA.ext_iff',bio];exact h;intro h;rw[h]
def aQq{l l':List aNZ}:(sl aNZ.c l=sl aNZ.c l')=(l=l'):=(by grind [kL,aPX])
theorem aQp{x y:aTo}:(aTo.c x=aTo.c y)=(x=y):=by apply arm;constructor;intro h;(cases x;cases y);simp only[aTo.c,J9.c,aW.c,zn,dW,kO,AV.s.injEq,mW,mV,mX,ip,zp,amV,aOD,aOZ,aO0,aOY,aPj,aPD,aPE,aPC,aQr,aPX,aQq] at h;simp only[aTo.mk.injEq,J9.ext_iff',aW.ext_iff',sA.ext_iff',bio];exact h;intro h;rw[h]
def aRT{l l':List aTo}:(sl aTo.c l=sl aTo.c l')=(l=l'):=(by grind [kL,aQp])
theorem aQY{x y:aBY}:(aBY.c x=aBY.c y)=(x=y):=by apply arm;constructor;intro h;(cases x;cases y);simp only[aBY.c,J9.c,aW.c,zn,dW,kO,AV.s.injEq,mW,mV,mX,ip,zp,amV,aOD,aOZ,aO0,aOY,aPj,aPD,aPE,aPC,aQr,aPX,aQq,aQp,aRT] at h;simp only[aBY.mk.injEq,J9.ext_iff',aW.ext_iff',sA.ext_iff',bio];exact h;intro h;rw[h]
def aTm{l l':List aBY}:(sl aBY.c l=sl aBY.c l')=(l=l'):=(by grind [kL,aQY])
theorem aRS{x y:aNQ}:(aNQ.c x=aNQ.c y)=(x=y):=by apply arm;constructor;intro h;(cases x;cases y);simp only[aNQ.c,J9.c,aW.c,zn,dW,kO,AV.s.injEq,mW,mV,mX,ip,zp,amV,aOD,aOZ,aO0,aOY,aPj,aPD,aPE,aPC,aQr,aPX,aQq,aQp,aRT,aQY,aTm] at h;simp only[aNQ.mk.injEq,J9.ext_iff',aW.ext_iff',sA.ext_iff',bio];exact h;intro h;rw[h]
def aWB{l l':List aNQ}:(sl aNQ.c l=sl aNQ.c l')=(l=l'):=(by grind [kL,aRS])
theorem aTl{x y:atC}:(atC.c x=atC.c y)=(x=y):=by apply arm;constructor;intro h;(cases x;cases y);simp only[atC.c,J9.c,aW.c,zn,dW,kO,AV.s.injEq,mW,mV,mX,ip,zp,amV,aOD,aOZ,aO0,aOY,aPj,aPD,aPE,aPC,aQr,aPX,aQq,aQp,aRT,aQY,aTm,aRS,aWB] at h;simp only[atC.mk.injEq,J9.ext_iff',aW.ext_iff',sA.ext_iff',bio];exact h;intro h;rw[h]
def a6C{l l':List atC}:(sl atC.c l=sl atC.c l')=(l=l'):=(by grind [kL,aTl])
theorem aWA{x y:aOx}:(aOx.c x=aOx.c y)=(x=y):=by apply arm;constructor;intro h;(cases x;cases y);simp only[aOx.c,J9.c,aW.c,zn,dW,kO,AV.s.injEq,mW,mV,mX,ip,zp,amV,aOD,aOZ,aO0,aOY,aPj,aPD,aPE,aPC,aQr,aPX,aQq,aQp,aRT,aQY,aTm,aRS,aWB,aTl,a6C] at h;simp only[aOx.mk.injEq,J9.ext_iff',aW.ext_iff',sA.ext_iff',bio];exact h;intro h;rw[h]
def bcS{l l':List aOx}:(sl aOx.c l=sl aOx.c l')=(l=l'):=(by grind [kL,aWA])
theorem a6A{x y:BF}:(BF.c x=BF.c y)=(x=y):=by apply arm;constructor;intro h;(cases x;cases y);simp only[BF.c,J9.c,aW.c,zn,dW,kO,AV.s.injEq,mW,mV,mX,ip,zp,amV,aOD,aOZ,aO0,aOY,aPj,aPD,aPE,aPC,aQr,aPX,aQq,aQp,aRT,aQY,aTm,aRS,aWB,aTl,a6C,aWA,bcS] at h;simp only[BF.mk.injEq,J9.ext_iff',aW.ext_iff',sA.ext_iff',bio];exact h;intro h;rw[h]
def bcR{l l':List BF}:(sl BF.c l=sl BF.c l')=(l=l'):=(by grind [kL,a6A])
def ijv:=ai @aOD<|ai @a6B<|ai @aO0<|ai @aOY<|ai @aPj<|ai @aPE<|ai @aPC<|ai @aPX<|ai @aQq<|ai @aQp<|ai @aQY<|ai @aRS<|ai @aTl<|ai @aWA<|ai @a6A<|@bcR
def ben{x:kW}:aN J (kW.c x)=V (iv x.op):=by rw[aoH];rfl
def beo{x:kW}:aN J ((kW.c x).drop 1)=V (iv x.n):=by rw[aoH];rfl
def bep{x:kW}:aN J ((kW.c x).drop 2)=V (st x.name):=by rw[aoH];rfl
def ber{x:kW}:aN J ((kW.c x).drop 3)=V (sl kW.c x.l):=by rw[aoH];rfl
theorem a69{x:kW}:aN (V 4) (kW.c x)=V (.a<|kW.c x):=by rw[aoH];rfl
def beI{x:NA}:aN J (NA.c x)=V (iv x.op):=by rw[a6X];rfl
def beJ{x:NA}:aN J ((NA.c x).drop 1)=V (iv x.line):=by rw[a6X];rfl
def beL{x:NA}:aN J ((NA.c x).drop 2)=V (st x.name):=by rw[a6X];rfl
def beM{x:NA}:aN J ((NA.c x).drop 3)=V (st x.arg):=by rw[a6X];rfl
def beN{x:NA}:aN J ((NA.c x).drop 4)=V (sl kW.c x.index):=by rw[a6X];rfl
def beO{x:NA}:aN J ((NA.c x).drop 9)=V (sl NA.c x.body):=by rw[a6X];rfl
def beK{x:NA}:aN J ((NA.c x).drop 10)=V (sl NA.c x.els):=by rw[a6X];rfl
def beP{x:NA}:aN (V 4) ((NA.c x).drop 5)=V (.a<|kW.c x.expr):=by rw[a6X,aoH];rfl
def beQ{x:NA}:aN (V 11) (NA.c x)=V (.a<|NA.c x):=by rw[a6X];rfl
def bef{x:w6}:aN J (w6.c x)=V (iv x.kind):=rfl
def beg{x:w6}:aN J ((w6.c x).drop 1)=V (iv x.line):=rfl
def beh{x:w6}:aN J ((w6.c x).drop 2)=V (st x.name):=rfl
def bei{x:w6}:aN J ((w6.c x).drop 3)=V (iv x.size):=rfl
def bej{x:w6}:aN J ((w6.c x).drop 4)=V (iv x.init):=rfl
def bek{x:w6}:aN J ((w6.c x).drop 5)=V (st x.on):=rfl
def bem{x:w6}:aN (V 6) (w6.c x)=V (.a<|w6.c x):=rfl
def beU{x:aO6}:aN J (aO6.c x)=V (st x.name):=rfl
def beV{x:aO6}:aN J ((aO6.c x).drop 1)=V (iv x.line):=rfl
def beW{x:aO6}:aN J ((aO6.c x).drop 2)=V (sl cs x.locs):=rfl
def beX{x:aO6}:aN J ((aO6.c x).drop 3)=V (sl NA.c x.body):=rfl
def beY{x:aO6}:aN (V 4) (aO6.c x)=V (.a<|aO6.c x):=rfl
def bez{x:aQl}:aN J (aQl.c x)=V (sl w6.c x.bm0):=rfl
def beA{x:aQl}:aN J ((aQl.c x).drop 1)=V (sl aO6.c x.ay):=rfl
def beB{x:aQl}:aN (V 2) (aQl.c x)=V (.a<|aQl.c x):=rfl
def bes{x:aNZ}:aN J (aNZ.c x)=V (iv x.op):=rfl
def bet{x:aNZ}:aN J ((aNZ.c x).drop 1)=V (iv x.a):=rfl
def beu{x:aNZ}:aN J ((aNZ.c x).drop 2)=V (iv x.b):=rfl
def bev{x:aNZ}:aN J ((aNZ.c x).drop 3)=V (iv x.k):=rfl
def bew{x:aNZ}:aN J ((aNZ.c x).drop 4)=V (iv x.n):=rfl
def bex{x:aNZ}:aN J ((aNZ.c x).drop 5)=V (iv x.site):=rfl
def bey{x:aNZ}:aN (V 6) (aNZ.c x)=V (.a<|aNZ.c x):=rfl
def beR{x:aTo}:aN J (aTo.c x)=V (iv x.H7):=rfl
def beS{x:aTo}:aN J ((aTo.c x).drop 1)=V (sl aNZ.c x.bid):=rfl
def beT{x:aTo}:aN (V 2) (aTo.c x)=V (.a<|aTo.c x):=rfl
def bd9{x:aBY}:aN J (aBY.c x)=V (sl cA.c x.aQ.cells):=rfl
def bea{x:aBY}:aN J ((aBY.c x).drop 3)=V (sl cs x.aQ.bU):=rfl
def beb{x:aBY}:aN J ((aBY.c x).drop 4)=V (sl cs x.aQ.ay):=rfl
def bec{x:aBY}:aN J ((aBY.c x).drop 6)=V (sl aTo.c x.ay):=rfl
def bed{x:aBY}:aN (V 6) (aBY.c x)=V (.a<|x.aQ.c):=rfl
def bee{x:aBY}:aN (V 7) (aBY.c x)=V (.a<|aBY.c x):=rfl
def beZ{x:aNQ}:aN J (aNQ.c x)=V (iv x.pc):=rfl
def be0{x:aNQ}:aN J ((aNQ.c x).drop 1)=V (sl ci x.H7):=rfl
def be1{x:aNQ}:aN J ((aNQ.c x).drop 2)=V (sl cl x.J6):=rfl
def be2{x:aNQ}:aN (V 4) (aNQ.c x)=V (.a<|aNQ.c x):=rfl
def beC{x:atC}:aN J ((atC.c x).drop 3)=V (sl aoC.c x.bW.ay):=rfl
def beD{x:atC}:aN J ((atC.c x).drop 4)=V (sl ci x.cells):=rfl
def beE{x:atC}:aN J ((atC.c x).drop 5)=V (sl ci x.bU):=rfl
def beF{x:atC}:aN J ((atC.c x).drop 6)=V (sl aNQ.c x.ay):=rfl
def beG{x:atC}:aN (V 4) (atC.c x)=V (.a<|x.bW.c):=rfl
def beH{x:atC}:aN (V 7) (atC.c x)=V (.a<|atC.c x):=rfl
def bpn{x:BF}:aN J (BF.c x)=V (iv x.aq):=rfl
def bpo{x:BF}:aN J ((BF.c x).drop 1)=V (iv x.amt):=rfl
def bpp{x:BF}:aN (V 2) (BF.c x)=V (.a<|BF.c x):=rfl
def aRV{a:AV}{l:List AV}:aN J (a::l)=V a:=rfl
def bfx{α:Type}{a:α}{n:Nat}{l:List α}:aOz (n+1) (a::l)=aOz n l:=rfl
def aRa{α:Type}{l:List α}:aOz 0 l=l:=rfl
def pz:=ai @ben<|ai @beo<|ai @bep<|ai @ber<|ai @a69<|ai @beI<|ai @beJ<|ai @beL<|ai @beM<|ai @beN<|ai @beO<|ai @beK<|ai @beP<|ai @beQ<|ai @bef<|ai @beg<|ai @beh<|ai @bei<|ai @bej<|ai @bek<|ai @bem<|ai @beU<|ai @beV<|ai @beW<|ai @beX<|ai @beY<|ai @bez<|ai @beA<|ai @beB<|ai @bes<|ai @bet<|ai @beu<|ai @bev<|ai @bew<|ai @bex<|ai @bey<|ai @beR<|ai @beS<|ai @beT<|ai @bd9<|ai @bea<|ai @beb<|ai @bec<|ai @bed<|ai @bee<|ai @beZ<|ai @be0<|ai @be1<|ai @be2<|ai @beC<|ai @beD<|ai @beE<|ai @beF<|ai @beG<|ai @beH<|ai @bpn<|ai @bpo<|ai @bpp<|ai @aRV<|ai @bfx<|@aRa
def bab{Y:ae}{x:kW}:dG Y (.a<|kW.c x)= .a (kW.c x):=by rw[aoH];rfl
def baf{Y:ae}{x:NA}:dG Y (.a<|NA.c x)= .a (NA.c x):=by rw[a6X];rfl
def baa{Y:ae}{x:w6}:dG Y (.a<|w6.c x)= .a (w6.c x):=rfl
def bad{Y:ae}{x:aQl}:dG Y (.a<|aQl.c x)= .a (aQl.c x):=rfl
def bac{Y:ae}{x:aNZ}:dG Y (.a<|aNZ.c x)= .a (aNZ.c x):=rfl
def bag{Y:ae}{x:aTo}:dG Y (.a<|aTo.c x)= .a (aTo.c x):=rfl
def a99{Y:ae}{x:aBY}:dG Y (.a<|aBY.c x)= .a (aBY.c x):=rfl
def bai{Y:ae}{x:aNQ}:dG Y (.a<|aNQ.c x)= .a (aNQ.c x):=rfl
def bae{Y:ae}{x:atC}:dG Y (.a<|atC.c x)= .a (atC.c x):=rfl
def bah{Y:ae}{x:aOx}:dG Y (.a<|aOx.c x)= .a (aOx.c x):=rfl
def a98{Y:ae}{x:BF}:dG Y (.a<|BF.c x)= .a (BF.c x):=rfl
def bba{v:Value}:iX (.s v)=U:=rfl
def ba8{α:Type}{f:α->List AV}{l:List α}:iX (sl f l)=U:=rfl
def bbb{x:kW}:iX (.a<|kW.c x)=U:=by simp[iX,eN,aoH,sl]
def bbd{x:NA}:iX (.a<|NA.c x)=U:=by simp[iX,eN,a6X,sl]
def bbc{x:aQl}:iX (.a<|aQl.c x)=U:=rfl
def aOW:=ai @bba<|ai @ba8<|ai @bbb<|ai @bbd<|@bbc
def Fa:=ai @bab<|ai @baf<|ai @baa<|ai @bad<|ai @bac<|ai @bag<|ai @a99<|ai @bai<|ai @bae<|ai @bah<|@a98
section
variable{K:cC}{Y:ae}{i:Int}
end
abbrev qN:ByteArray:=⟨#[113]⟩
def shE:Nat->kW->Prop|0,_=>False|n+1,e=>(((e.op=1\/e.op=2)/\e.l=[])\/(e.op=3/\e.name=qN/\L e.l=1)\/(6<=e.op/\L e.l=2))/\∀x∈e.l,shE n x
theorem shE.len{n:Nat}{e:kW}(h:shE n e):L e.l<=2:=by cases n with|zero=>exact h.elim|succ n=>rcases h.1 with⟨_,h⟩|⟨_,_,h⟩|⟨_,h⟩<;>simp[h]
theorem shE.sub{n:Nat}{e:kW}(h:shE n e){k:Nat}(a:k<L e.l):∃m,n=m+1/\shE m (gd e.l k):=by cases n with|zero=>exact h.elim|succ n=>exact⟨n,rfl,h.2 _ (ig a)⟩
theorem shE.mono:∀{n m:Nat} {e:kW},shE n e->n<=m->shE m e
 |0,_,_,h,_=>h.elim
 |n+1,0,_,_,h=>by omega
 |n+1,m+1,e,h,b=>⟨h.1,λx a=>(h.2 x a).mono<|by omega⟩
def shS:Nat->NA->Prop|0,_=>False|n+1,s=>((s.op=1\/s.op=2\/s.op=3\/s.op=14)->shE 2 s.expr)/\L s.index<=1/\(∀x∈s.index,shE 2 x)/\(s.index≠[]->s.name=qN)/\L s.expr.l<=2/\L s.body<=4/\(∀x∈s.body,shS n x)/\L s.els<=4/\(∀x∈s.els,shS n x)/\1<=s.op/\s.op<=15
def shS.up{n:Nat}{s:NA}(h:shS n s):∃m,n=m+1/\(∀x∈s.body,shS m x)/\∀x∈s.els,shS m x:=by cases n with|zero=>exact h.elim|succ n=>exact⟨n,rfl,h.2.2.2.2.2.2.1,h.2.2.2.2.2.2.2.2.1⟩
def shS.at{n:Nat}{s:NA}(h:shS n s):((s.op=1\/s.op=2\/s.op=3\/s.op=14)->shE 2 s.expr)/\L s.index<=1/\(∀x∈s.index,shE 2 x)/\(s.index≠[]->s.name=qN)/\L s.expr.l<=2/\L s.body<=4/\L s.els<=4:=by cases n with|zero=>exact h.elim|succ n=>exact⟨h.1,h.2.1,h.2.2.1,h.2.2.2.1,h.2.2.2.2.1,h.2.2.2.2.2.1,h.2.2.2.2.2.2.2.1⟩
def shS.ops{n:Nat}{s:NA}(h:shS n s):1<=s.op/\s.op<=15:=by cases n with|zero=>exact h.elim|succ n=>exact h.2.2.2.2.2.2.2.2.2
theorem shS.mono:∀{n m:Nat} {s:NA},shS n s->n<=m->shS m s
 |0,_,_,h,_=>h.elim
 |n+1,0,_,_,h=>by omega
 |n+1,m+1,s,⟨c,d,e,f,g,i,j,k,l,b⟩,o=>⟨c,d,e,f,g,i,λx a=>(j x a).mono (by omega),k,λx a=>(l x a).mono (by omega),b⟩
def shL(n m:Nat)(l:List NA):Prop:=L l<=m/\∀s∈l,shS n s
def shS.body{n:Nat}{s:NA}(h:shS n s):∃m,n=m+1/\shL m 4 s.body/\shL m 4 s.els:=by obtain⟨m,e,a,b⟩:=h.up;exact⟨m,e,⟨h.at.2.2.2.2.2.1,a⟩,⟨h.at.2.2.2.2.2.2,b⟩⟩
def shT(t:aO6):Prop:=L t.locs<=4/\shL 4 8 t.body
def PrB(p:aQl):Prop:=L p.bm0<1000/\L p.ay<1000/\∀t∈p.ay,L t.locs<1000
def shP(p:aQl):Prop:=PrB p/\L p.ay<=4/\∀t∈p.ay,shT t
section
variable{i:Nat}(F:FT)
def aP7{A:Type}{b:A->List AV}{c:A->cC}(k:∀a,Ct i (b a)<|c a):FT:=λys K=>∃a,ys=b a/\∀r,c a r->K r
def aRM{A:Type}{b:A->List AV}{d:A->cC}(k:∀a,Ct i (b a)<|d a)(a:A)(Lw K:cC)(f:F=aP7 k:=by exact rfl)(j:∀a c,b a=b c->a=c:=by simp+contextual only[ij]):fW F (b a) Lw K=(∀r,d a r->Lw r/\K r):=by subst f;apply arm;constructor;rintro⟨c,h,e⟩;obtain rfl:=j _ _ h;exact e;intro h;exact⟨_,rfl,h⟩
def aR6{A:Type}{b:A->List AV}{e:A->cC}(k:∀a,Ct i (b a)<|e a)(c:∀a,(b a).all iX=U:=by intros;exact rfl):∀ys K,aP7 k ys K->jz aS GG i ys K:=by rintro ys K ⟨a,rfl,h⟩;exact nX (k a) (c a) (λr d=>h r d)
def aRd{A B:Type}{c:A->B->List AV}{d:A->B->cC}(k:∀a b,Ct i (c a b)<|d a b):FT:=λys K=>∃a b,ys=c a b/\∀r,d a b r->K r
def f201{A B:Type}{c:A->B->List AV}{f:A->B->cC}(k:∀a b,Ct i (c a b)<|f a b)(a:A)(b:B)(Lw K:cC)(l:F=aRd k:=by exact rfl)(j:∀a b d e,c a b=c d e->a=d/\b=e:=by simp+contextual only[ij]):fW F (c a b) Lw K=(∀r,f a b r->Lw r/\K r):=by subst l;apply arm;constructor;rintro⟨d,e,h,g⟩;obtain⟨rfl,rfl⟩:=j _ _ _ _ h;exact g;intro h;exact⟨_,_,rfl,h⟩
def aYm{A B:Type}{c:A->B->List AV}{f:A->B->cC}(k:∀a b,Ct i (c a b)<|f a b)(d:∀a b,(c a b).all iX=U:=by intros;exact rfl):∀ys K,aRd k ys K->jz aS GG i ys K:=by rintro ys K ⟨a,b,rfl,h⟩;exact nX (k a b) (d a b) (λr e=>h r e)
def aSb{A B C:Type}{d:A->B->C->List AV}{e:A->B->C->cC}(k:∀a b c,Ct i (d a b c)<|e a b c):FT:=λys K=>∃a b c,ys=d a b c/\∀r,e a b c r->K r
def f301{A B C:Type}{d:A->B->C->List AV}{l:A->B->C->cC}(k:∀a b c,Ct i (d a b c)<|l a b c)(a:A)(b:B)(c:C)(Lw K:cC)(n:F=aSb k:=by exact rfl)(j:∀a b c e f g,d a b c=d e f g->a=e/\b=f/\c=g:=by simp+contextual only[ij]):fW F (d a b c) Lw K=(∀r,l a b c r->Lw r/\K r):=by subst n;apply arm;constructor;rintro⟨e,f,g,h,m⟩;obtain⟨rfl,rfl,rfl⟩:=j _ _ _ _ _ _ h;exact m;intro h;exact⟨_,_,_,rfl,h⟩
def a7W{A B C:Type}{d:A->B->C->List AV}{g:A->B->C->cC}(k:∀a b c,Ct i (d a b c)<|g a b c)(e:∀a b c,(d a b c).all iX=U:=by intros;exact rfl):∀ys K,aSb k ys K->jz aS GG i ys K:=by rintro ys K ⟨a,b,c,rfl,h⟩;exact nX (k a b c) (e a b c) (λr f=>h r f)
def aTQ{A B C D E:Type}{f:A->B->C->D->E->List AV}{g:A->B->C->D->E->Prop}{h:A->B->C->D->E->cC}(k:∀a b c d e,g a b c d e->Ct i (f a b c d e) (h a b c d e)):FT:=λys K=>∃a b c d e,ys=f a b c d e/\g a b c d e/\∀r,h a b c d e r->K r
def bbn{A B C D E:Type}{f:A->B->C->D->E->List AV}{p:A->B->C->D->E->Prop}{q:A->B->C->D->E->cC}(k:∀a b c d e,p a b c d e->Ct i (f a b c d e) (q a b c d e))(a:A)(b:B)(c:C)(d:D)(e:E)(Lw K:cC)(t:F=aTQ k:=by exact rfl)(j:∀a b c d e g l m n o,f a b c d e=f g l m n o->a=g/\b=l/\c=m/\d=n/\e=o:=by simp+contextual only[ij]):fW F (f a b c d e) Lw K=(p a b c d e/\∀r,q a b c d e r->Lw r/\K r):=by subst t;apply arm;constructor;rintro⟨g,l,m,n,o,h,s⟩;obtain⟨rfl,rfl,rfl,rfl,rfl⟩:=j _ _ _ _ _ _ _ _ _ _ h;exact s;intro h;exact⟨_,_,_,_,_,rfl,h⟩
def bhJ{A B C D E:Type}{f:A->B->C->D->E->List AV}{m:A->B->C->D->E->Prop}{n:A->B->C->D->E->cC}(k:∀a b c d e,m a b c d e->Ct i (f a b c d e) (n a b c d e))(g:∀a b c d e,(f a b c d e).all iX=U:=by intros;exact rfl):∀ys K,aTQ k ys K->jz aS GG i ys K:=by rintro ys K ⟨a,b,c,d,e,rfl,j,h⟩;exact nX (k a b c d e j) (g a b c d e) (λr l=>h r l)
end
def bm1:AV->AV| .t vs=> .t (vs.map nrm)|x=>nrm x
theorem bdV{κ:vg}{w:World}{Y:ae}{β:Id->Nat}{v:Value}{x:AV}(h:ba κ w Y β v x):ba κ w Y β v (bm1 x):=by cases x with|t vs=>(cases h with|t d h=>refine .t (by grind) λi v c f b=>?_;grind [bE,yo])|_=>exact yo h
theorem a6f{x:AV}:nj (gK x)=nj x:=by cases x<;>rfl
theorem aWa{x:AV}:pF (nrm x)=pF x:=by cases x with|a cs=>grind [nrm,pF,List.all_map,a6f]|_=>first|rfl|exact a6f
def ba7{x:AV}:kG (bm1 x)=kG x:=by have h:=@aWa x;(cases x<;>first|exact h|skip);grind [bm1,kG,List.all_map,aWa]
def aDq{fn:Nat}{ys:List AV}{Q:cC}(h:Ct fn ys λr=>Q<|bm1 r):Ct fn ys Q:=by obtain⟨r,f,g,i,j⟩:=h;refine⟨bm1 r,f,by rw[ba7];exact g,i,λF w d a b c=>(j F w d a b c).mono ?_⟩;grind [bdV]
def fz(Y:ae)(c:AV):AV:=gK<|dQ Y c
def fzT(Y:ae):AV->AV| .a cs=> .a (cs.map<|fz Y)|x=>fz Y x
def bcq{Y:ae}{c:AV}:(∃l t o,dQ Y c= .l l t o)\/dQ Y c=c:=by(cases c<;>first|exact .inr rfl|skip);grind [box,dQ,eN,rS]
theorem aXU{Y:ae}{x:AV}:nrm (iZ Y x)=fzT Y x:=by cases x with|a cs=>simp only[iZ,nrm,fzT,vA];rfl|m b n=>show nrm (dQ Y<|.m b n)=gK (dQ Y<|.m b n);(rcases bcq (Y:=Y) (c:= .m b n) with⟨l,t,o,h⟩|h<;>rw[h]<;>rfl)|_=>rfl
theorem a6g{Y:ae}{x:AV}(h:iX (fzT Y x)=U):pF (iZ Y x)=U:=by have b:pF (nrm<|iZ Y x)=U:=(by rw[aXU];generalize fzT Y x=y at h;cases y with|a cs=>simp only[iX,dV] at h;simp only[pF,dV];intro c d;have:=h c d;(cases c<;>first|rfl|grind [eN])|_=>first|rfl|grind [iX,eN]);rwa [aWa] at b
def aOH{Q:cC}{Y:ae}{vs vs':List AV}(h:vs.map (fzT Y)=vs')(d:vs'.all iX=U)(c:Q<|aoz vs'):aE (λr=>Q<|bm1 r) Y vs:=by have b:kG (.t<|vs.map<|iZ Y)=U/\bm1 (.t<|vs.map<|iZ Y)= .t vs':=(by constructor;grind [kG,List.all_map,dV,a6g,List.mem_map_of_mem];simp only[bm1,vA,<-h];grind [ja,aXU]);unfold aE jS;rcases vs with _|⟨v,_|⟨w,l⟩⟩;subst h;exact⟨rfl,c⟩;subst h;simp only[ji,mU,Cs,aqG,ru] at d;have f:=a6g d;have g:bm1 (iZ Y v)=fzT Y v/\kG (iZ Y v)=pF (iZ Y v):=(by rw[<-aXU];generalize iZ Y v=y at f;cases y<;>first|exact⟨rfl,rfl⟩|grind [pF,nj]);refine⟨by simp_all,?_⟩;show Q<|bm1<|iZ Y v;rw[g.1];exact c;subst h;refine⟨b.1,?_⟩;show Q<|bm1<|.t<|(v::w::l).map<|iZ Y;rw[b.2];exact c
def aOv{Q:cC}{Y:ae}{v v':AV}(h:fzT Y v=v')(c:iX v'=U)(b:Q v'):aE (λr=>Q<|bm1 r) Y [v]:=by subst h;exact aOH (vs':=[fzT Y v]) rfl (by simp[c]) b
theorem aQ7{Y:ae}{v x:AV}(h:fzT Y v=x)(b:iX x=U):aE (λr=>bm1 r=x) Y [v]:=aOv (Q:=(·=x)) h b rfl
def gp(Y:ae)(e:TypeId)(z:Nat)(a:AV)(bA:List<|List AV):Prop:=(bA=[]/\a= .l [] U U)\/∃b m,a= .m b (L bA)/\box Y b=V ⟨e,z,U,I,bA++m⟩
theorem bc.p{Y:ae}{e:TypeId}{z:Nat}{a:AV}{bA:List (List AV)}(h:bc Y e z a bA):gp Y e z a bA:=by rcases h with h|⟨b,c,d⟩;exact .inl h;exact .inr ⟨b,[],c,by simpa using d⟩
section
variable{Y Y':ae}{e:TypeId}{z:Nat}{a:AV}{bA:List (List AV)}
theorem gp.fx{ks:List Id}(f:gp Y e z a bA)(d:Fx Y Y' ks)(g:∀b∈aA a,b∉ks):gp Y' e z a bA:=by rcases f with h|⟨b,m,rfl,c⟩;exact .inl h;exact .inr ⟨b,m,rfl,d.keep b _ (g b<|by simp[aA]) c⟩
def aWt{v:Value}:fz Y (.s v)= .s v:=rfl
def bcz{t o:Bool}:fz Y (.l bA t o)= .l bA I I:=rfl
def aBr(h:gp Y e z a bA):fz Y a= .l bA I I:=by rcases h with⟨rfl,rfl⟩|⟨b,m,rfl,c⟩;rfl;simp[fz,dQ,c,gK]
def aWs(h:gp Y e z a bA):fzT Y a= .l bA I I:=by rw[<-aBr h];rcases h with⟨rfl,rfl⟩|⟨b,m,rfl,c⟩<;>rfl
def lz(Y:ae)(c:AV):AV:=gK<|gi Y c
def aQ5{v:Value}:lz Y (.s v)= .s v:=rfl
def aXQ{t o:Bool}:lz Y (.l bA t o)= .l bA I I:=rfl
def aOb(h:gp Y e z a bA):lz Y a= .l bA I I:=by rcases h with⟨rfl,rfl⟩|⟨b,m,rfl,c⟩;rfl;simp[lz,gi,c,gK]
theorem gp.ce(h:gp Y e z a bA):eY a=V [a]:=by rcases h with⟨_,rfl⟩|⟨b,m,rfl,_⟩<;>rfl
theorem gp.ln(h:gp Y e z a bA):fS Y a=V (iv<|L bA):=by rcases h with⟨rfl,rfl⟩|⟨b,m,rfl,c⟩;rfl;simp[fS,c]
def gp.ar(h:gp Y e z a bA):dG Y a= .l bA I I:=by rcases h with⟨rfl,rfl⟩|⟨b,m,rfl,c⟩;rfl;simp[dG,eR,gi,c,nrm,gK]
def qb{b:Id}{i j:Nat}{x:bY}(h:box Y b=V x):cO Y (.p b i j)=V (.p b i j):=by simp[cO,h]
theorem qs{d by':Nat}{zs:List AV}{new:List (List AV)}{t o:Bool}{K:be}(i:gp Y e z a bA)(k:L zs=z)(n:0<z)(c:d<L Y)(u:∀r∈bA,L r=z)(s:∀r∈new,L r=z)(p:new≠[])(q:(L bA+L new)*(by'+1)<=1099511627776)(h:∀f Y',bc Y' e z f (bA++new)->Fx Y Y' (aA a)->(∀b∈aA f,bK Y b/\b.1=d)->K f Y'):eV (Gy e zs by' Y d a<|.l new t o) K:=by unfold Gy;simp only[gL];rw[dB (by grind),f8 ⟨by omega,by simp[aRI,c],by simp_all⟩];rcases i with⟨rfl,rfl⟩|⟨b,m,rfl,g⟩;simp only;rw[f8 ⟨by simp,by grind [lx]⟩];refine h _ _ (.inr ⟨zt Y d,by simp,?_⟩) ((kH c).mono<|by simp) (by simp[aA];exact⟨qQ Y d,rfl⟩);grind [be7];simp only[g];rw[f8 ⟨trivial,trivial,k.symm,by simp,by grind [lx]⟩];have j:d<L (kill Y b):=(by grind [yg]);refine h _ _ (.inr ⟨zt Y d,by simp,?_⟩) (((Le g).trans<|kH j).mono<|by simp[aA]) (by simp[aA];exact⟨qQ Y d,rfl⟩);grind [List.take_left',anF,be7]
theorem slP{i:Int}{K:cC}(g:gp Y e z a bA)(f:0<=i)(j:i<=L bA)(d:∀c,gp Y e z c (bA.take i.toNat)->aA c=aA a->K c):rV (fo z Y a J (V<|iv i) J) K:=by have k:i.toNat<=L bA:=(by omega);rcases g with⟨rfl,rfl⟩|⟨b,m,rfl,n⟩;have h:i.toNat=0:=(by grind);have:fo z Y (.l [] U U) J (V<|iv i) J=V (.l [] U U):=(by simp[fo,lM,f,qY,h]);rw[this];exact d _ (.inl ⟨by simp,rfl⟩) rfl;have:fo z Y (.m b<|L bA) J (V<|iv i) J=V (.m b i.toNat):=(by grind [fo,lM,qY]);rw[this];refine d _ (.inr ⟨b,bA.drop i.toNat++m,?_,?_⟩) rfl;simp_all;grind [bje,List.take_append_drop]
theorem aOp:∀(l:List Id) (Y:ae),Fx Y (kills Y l) l:=by intro l;induction l with|nil=>intro Y;exact Fx.refl _ _|cons b l d=>intro Y;show Fx Y (kills (if(box Y b).isSome then kill Y b else Y) l) (b::l);cases c:box Y b with|none=>grind [Fx.mono]|some x=>exact(Le c).trans<|d<|kill Y b
end
structure Lv(Y0 Y:ae)(cs tgt:List AV):Prop where
 eq:cs.map (lz Y)=tgt
 nw:∀b∈eB (.a cs),bK Y0 b
def aQm{Y:ae}{zs cs tgt:List AV}(d:cs.map (lz Y)=tgt)(b:L tgt=L zs)(f:0<L zs)(g:tgt.all eN=U)(i:L zs<=1000):aX zs 1 Y [(0, .a cs)]=V (.l [tgt] U U,kills Y<|eB<|.a cs):=by have h:nrm (eR Y<|.a cs)= .a tgt:=(by simp only[eR,nrm,vA,<-d];rfl);simp only[aX,ji,mU,h,Cz,RN,cL];have c:(List.replicate 1 zs).flatten=zs:=(by simp);rw[f8 ⟨by omega,f⟩,c];simp only[aly,eY,b,Nat.zero_mul,aj,dA,asq,aNV,CE,dW,Gz,cL,aQd,g,df];simp[kC,<-b]
theorem Lv.fx{d Y Y':ae}{cs tgt:List AV}{ks:List Id}(h:Lv d Y cs tgt)(f:Fx Y Y' ks)(l:∀b∈eB (.a cs),b∉ks)(i:tgt.all eN=U):Lv d Y' cs tgt:=by refine⟨?_,h.nw⟩;rw[<-h.eq];refine ja λc k=>?_;have j:eN (lz Y c)=U:=(by rw[<-h.eq] at i;simp_all);cases c with|m b n=>(cases g:box Y b with|none=>grind [lz,gi,gK,eN]|some x=>have:=f.keep b x (by grind [eB,iR]) g;grind [lz,gi])|_=>rfl
def aRA{e:TypeId}{z d:Nat}{zs cs:List AV}{Y:ae}{K:be}(l:L zs=z)(j:L cs=z)(h:0<z)(k:d<L Y)(i:∀v Y',Fx Y Y' []->bK Y (d,v)->box Y' (d,v)=V ⟨e,z,U,U,[cs]⟩->K (.p (d,v) 0 0) Y'):eV (alA e zs Y d) λp s=>sV (aK z s p<|.a cs) λs'=>K p s':=by refine alI l h k λv o b f g=>?_;refine cy (y:=z) (cs:=cs) g rfl j (by omega) λm c n=>?_;refine i v m ((b.trans c).mono<|by grind [bK.no]) f ?_;simp_all
def r9{Y:ae}{b:Id}{z:Nat}{e:TypeId}{o:Bool}{r cs:List AV}{K:ae->Prop}(f:box Y b=V ⟨e,z,o,U,[r]⟩)(j:L r=z)(g:L cs=z)(d:∀Y',Fx Y Y' [b]->box Y' b=V ⟨e,z,o,U,[cs]⟩->K Y'):sV (aK z Y (.p b 0 0)<|.a cs) K:=by refine cy (y:=z) (cs:=cs) f rfl g (by omega) λh c i=>d h c ?_;simp_all
def bdJ{Y:ae}{q:Option Nat}{cs:List AV}:vl q Y (.q cs)=aN q cs:=rfl
def A0{Y:ae}{b:Id}{j z:Nat}{e:TypeId}{o:Bool}{r:List AV}{x:AV}{K:ae->Prop}(d:box Y b=V ⟨e,z,o,U,[r]⟩)(g:eY x=V [x])(f:j<L r)(c:∀Y',Fx Y Y' [b]->box Y' b=V ⟨e,z,o,U,[r.set j x]⟩->K Y'):sV (aK 1 Y (.p b 0 j) x) K:=by grind [cy,GP]
def aPW{i:Nat}{ys:List AV}{R Lw K:cC}(h:Ct i ys R)(b:ys.all iX=U)(c:∀r,R r->Lw r/\K r):fW (cX i) ys Lw K:=nX h b c
def a6h{x:kW}:iX (.a<|kW.c x)=U:=by simp[iX,eN,aoH,sl]
def aS7{x:NA}:iX (.a<|NA.c x)=U:=by simp[iX,eN,a6X,sl]
def aV2{x:AV}(h:iX x=U):[x].all iX=U:=by simp[h]
def apQ{Y:ae}{e:TypeId}{z d by' n:Nat}{zs:List AV}{a:AV}{bA new:List (List AV)}{t o:Bool}{K:be}(h:gp Y e z a bA)(m:L Y=n)(q:∀r∈bA,L r=z)(p:∀r∈new,L r=z)(g:new≠[])(j:(L bA+L new)*(by'+1)<=1099511627776)(i:∀c Y',bc Y' e z c (bA++new)->Fx Y Y' (aA a)->(∀b∈aA c,bK Y b/\b.1=d)->K c Y')(s:L zs=z:=by exact rfl)(f:0<z:=by decide)(k:d<n:=by decide):eV (Gy e zs by' Y d a<|.l new t o) K:=qs h s f (m▸k) q p g j i
def anu{e:TypeId}{z d n:Nat}{zs cs:List AV}{Y:ae}{K:be}(h:L Y=n)(c:∀v Y',Fx Y Y' []->bK Y (d,v)->box Y' (d,v)=V ⟨e,z,U,U,[cs]⟩->K (.p (d,v) 0 0) Y')(i:L zs=z:=by exact rfl)(f:L cs=z:=by exact rfl)(b:0<z:=by decide)(g:d<n:=by decide):eV (alA e zs Y d) λp s=>sV (aK z s p<|.a cs) λs'=>K p s':=aRA i f b (h▸g) c
def isI(r:AV):Prop:=∃x:Int,r=iv x
def isB(r:AV):Prop:=∃b:Bool,r=bv b
def aPG{x:Int}:isI (iv x)=True:=bs8 ⟨x,rfl⟩
def aNP{b:Bool}:isB (bv b)=True:=bs8 ⟨b,rfl⟩
def aP1{c:Prop}[Decidable c]{v:AV}{K:cC}:rV (if c then V v else J) K=(c/\K v):=by grind [rV]
def aWE(r:AV):Prop:=∃(x:Int) (b:Bool),r= .t [iv x,bv b]
def aQ1(r:AV):Prop:=∃x y:Int,r= .t [iv x,iv y]
def a6D{x:Int}{b:Bool}:aWE (.t [iv x,bv b])=True:=bs8 ⟨x,b,rfl⟩
def aO2{x y:Int}:aQ1 (.t [iv x,iv y])=True:=bs8 ⟨x,y,rfl⟩
def bd7{R:cC}{Y:ae}{x y:Int}:aE R Y [iv x,iv y]=R (.t [iv x,iv y]):=by simp[aE,jS,iZ,dQ,kG,pF,nj]
def aTb{p:Nat->Bool}{n:Nat}: -1<=uo p n/\uo p n<n:=by grind [uo,List.mem_of_find?_eq_some]
def aXc(b:Bool):Ct 311 [bv b] (·=iv (if b then 1 else 0)):=by refine bgS λs0 c a=>?_;cases b<;>simp[a1q,u1,ah]
def aOT:FT:=lH aXc
def bbU{b Lw K}:=np aOT aXc b Lw K
def aXa(i n:Int):Ct 294 [iv i,iv n] (λr=>isI r):=by refine bgQ λs0 b a=>?_;simp+contextual only[a1m,u0,u1,aPR,↓uL,aP1,aPG];refine⟨λh=>trivial,λh=>⟨by grind,?_⟩⟩;simp+contextual only[qz 35,qz 33,↓uL,u0,u1,aPG,wl,asq]
def aSe:FT:=aRd aXa
def bbS{i n Lw K}:=f201 aSe aXa i n Lw K
def aXg(o:Int):Ct 262 [iv o] (·=bv (Q (1<=o)&&Q (o<=5))):=by refine bgW λs0 b a=>?_;simp+contextual only[a1M,u0,u1,↓uL]
def aSf:FT:=lH aXg
def bbY{o Lw K}:=np aSf aXg o Lw K
def aXk(i n:Int):Ct 232 [iv i,iv n] (·=bv (dh i n)):=by refine bg7 λs0 b a=>?_;simp+contextual only[a2y,u0,u1,dh,↓uL]
def aN3:FT:=lI aXk
def bb2{i n Lw K}:=f200 aN3 aXk i n Lw K
def aXm(l:List dS)(s:ByteArray)(f:L l<4611686018427387904):Ct 241 [sl dS.c l,st s] (λr=>isI r):=by refine bg9 λs0 e a=>?_;simp only[a2D];refine bhZ (L l) (λk=>True) trivial λk d b=>?_;simp+contextual only[qz 19,u0,u1,ix,rk,bh,aPG,wl,ip,zp,↓uL];grind [dJ,aL,gS]
def aQE:FT:=pn aXm
def bb4{l s Lw K}:=f211 aQE aXm l s Lw K
def aXd(w:J9)(s:ByteArray)(m:L w.cells<4611686018427387904):Ct 304 [.a w.c,st s] (·=iv (uo (λi=>Q<|(gd w.cells i).name=s)<|L w.cells)):=by refine bgT rfl λn l b f=>?_;simp only[a1r];refine bhZ (L w.cells) (λk=>∀j,j<k->Q ((gd w.cells j).name=s)=I) (by simp) λk g e=>?_;simp+contextual only[qz 19,u0,u1,b,ix,rk,aj,bh,↓uL];refine⟨λh=>⟨u7 h,λd=>?_,by grind [gS,aL]⟩,λh=>?_⟩;rw[KW (aL h) d e];grind [KX,bkb,bw]
def aQD:FT:=aIc aXd
def bbV{w s Lw K}:=f210 aQD aXd w s Lw K
def aOB(l:List w6)(s:ByteArray):Int:=uo (λi=>Q<|(gd l i).name=s)<|L l
def aYi(l:List aO6)(s:ByteArray):Int:=uo (λi=>Q<|(gd l i).name=s)<|L l
def aWX(l:List w6)(s:ByteArray)(g:L l<4611686018427387904):Ct 270 [sl w6.c l,st s] (·=iv (aOB l s)):=by refine bgB λi f d=>?_;simp only[a0p];refine bhZ (L l) (λk=>∀j,j<k->Q ((gd l j).name=s)=I) (by simp) λk e b=>?_;simp+contextual only[qz 19,u0,u1,ixv,rk,pz,bh,↓uL];refine⟨λh=>⟨u7 h,λa=>?_,by grind [gS,aL]⟩,λh=>?_⟩;rw[aOB,KW (aL h) a b];grind [aOB,KX,bkb,bw]
def aPO:FT:=aIc aWX
def bbF{l s Lw K}:=f210 aPO aWX l s Lw K (j:=by simp+contextual only[ij,ijv])
def aW2(l:List aO6)(s:ByteArray)(g:L l<4611686018427387904):Ct 271 [sl aO6.c l,st s] (·=iv (aYi l s)):=by refine bgG λi f d=>?_;simp only[a0C];refine bhZ (L l) (λk=>∀j,j<k->Q ((gd l j).name=s)=I) (by simp) λk e b=>?_;simp+contextual only[qz 19,u0,u1,ixv,rk,pz,bh,↓uL];refine⟨λh=>⟨u7 h,λa=>?_,by grind [gS,aL]⟩,λh=>?_⟩;rw[aYi,KW (aL h) a b];grind [aYi,KX,bkb,bw]
def aP9:FT:=aIc aW2
def bbK{l s Lw K}:=f210 aP9 aW2 l s Lw K (j:=by simp+contextual only[ij,ijv])
def aXp(n:Int):Ct 296 [iv n] (λr=>isI r):=by refine bhe λs0 b a=>?_;simp+contextual only[a24,u0,u1,aPG,wl,asq,↓uL]
def aSh:FT:=aP7 aXp
def bb7{n Lw K}:=aRM aSh aXp n Lw K
def aWQ(n:Int):Ct 318 [iv n] (λr=>isI r):=by refine bgt λs0 b a=>?_;simp+contextual only[a0e,u0,u1,aPG,wl,asq,↓uL]
def aTZ:FT:=aP7 aWQ
def bby{n Lw K}:=aRM aTZ aWQ n Lw K
def aW6(a b:Int):Ct 300 [iv a,iv b] (·=iv (if a≠0 then a else b)):=by refine bgK λs0 d c=>?_;simp+contextual only[a0S,u0,u1,↓uL];simp_all
def aOi:FT:=lI aW6
def bbO{a b Lw K}:=f200 aOi aW6 a b Lw K
def aW5(b:Bool):Ct 303 [bv b] (·=iv (if b then 7 else 0)):=by refine bgJ λs0 c a=>?_;cases b<;>simp[a0R,u1,ah]
def aOS:FT:=lH aW5
def bbN{b Lw K}:=np aOS aW5 b Lw K
def aWU(e:kW):Ct 313 [.a e.c] (λr=>isB r):=by refine bgy aN9 λg f b d=>?_;simp+contextual only[a0l,u0,u1,b,pz,aj,aNP,↓uL]
def aT2:FT:=aP7 aWU
def bbC{e Lw K}:=aRM aT2 aWU e Lw K (j:=by simp+contextual only[ij,ijv])
def aWP(n:Int):Ct 196 [iv n] (·= .a (kW.mk 1 n ⟨#[]⟩ []).c):=by refine aDq (bgs λs0 d i=>?_);simp only[a0c];refine mo d λj e f=>?_;have b:bM bth bmK [(0,iv 1),(1,iv n)]=V (.a [iv 1,iv n,sv [], .l [] U U]):=rfl;simp only[qz 2,qy 4,b,aY,↓uL];refine gN f (by rw[e.1,d];decide) rfl rfl λk h g=>?_;simp only[u0,u1,g,aj,aN,bZ,aO1,dA,aNV,List.take_succ_cons,CE,↓uL];exact aQ7 (by rw[aoH];rfl) (by rw[aoH];rfl)
def aQC:FT:=lH aWP
def bbx{n Lw K}:=np aQC aWP n Lw K
def a6z(i:aNZ):List Int:=
 bif Q (i.op=1)||(Q (i.op=6)||(Q (i.op=10)||Q (i.op=27))) then[i.a]
 else bif Q (i.op=2)||Q (i.op=3) then[i.a,i.b]
 else bif Q (i.op=4) then[i.a,i.b,i.k]
 else bif Q (i.op=7) then[i.a,i.k]
 else bif Q (i.op=8)||Q (i.op=26) then[i.b]
 else bif Q (i.op=9) then[i.b,i.k]
 else[]
attribute[local irreducible] aX
def aRU(l:List Int)(r:AV):Prop:=∃t o,r= .l (l.map ci) t o
def rLI{l:List Int}{Y:ae}{t o:Bool}:aE (λr=>aRU l r) Y [.l (l.map ci) t o]=True:=bs8 ⟨rfl,t,o,rfl⟩
def bd0{Y:ae}{t o:Bool}:aE (λr=>aRU [] r) Y [.l [] t o]=True:=bs8 ⟨rfl,t,o,rfl⟩
def aXf(i:aNZ):Ct 192 [.a i.c] (λr=>aRU (a6z i) r):=by refine bgV rfl λf e b d=>?_;simp only[a1F,u0,u1,b,pz,aj,↓uL];simp only[qz 23,iM,aY,sw,↓uL];simp only[qz 21,qy 4,aI,au,↓uL];simp only[a7i,qz 53,iM,aY,sw,↓uL];simp only[qz 51,qy 6,qy 8,qy 10,aI,au,↓uL];simp only[a7i,qz 95,iM,aY,sw,↓uL];simp only[qz 93,qy 12,qy 14,aI,au,↓uL];simp+contextual (maxSteps:=2000000) only[↓iS,u0,u1,b,pz,aj,a5Y,fi,xA,a6z,bdZ,bdT,rLI,bd0,wl,asq,↓uL]
def aRj:FT:=aP7 aXf
def bbX{i Lw K}:=aRM aRj aXf i Lw K (j:=by simp+contextual only[ij,ijv])
def aTp:List Int:=[3,3,3,3,3,4,4,4,4,4,5,5,5,6,6,6,7,7,7,8,9,10,11,12,13,14,14,15,16,16,17,17,18,18,19,20,1,1,2,21,22,23,23]
def aXF:Ct 182 [] (λr=>aRU aTp r):=by refine bhz λs0 c b=>?_;have a:∀R,aVS s0 R=aE R s0 [.l (aTp.map ci) U U]:=λR=>(by kernel_rfl);show aVS s0 _;rw[a];exact⟨rfl,U,U,rfl⟩
def aUt:FT:=BK aXF
def bcm{Lw K}:=al3 aUt aXF Lw K
def aWO(s:ByteArray):Ct 280 [st s] (·= .a (kW.mk 2 0 s []).c):=by refine aDq (bgr λs0 d i=>?_);simp only[a0a];refine mo d λj e f=>?_;have b:bM bth bmK [(0,iv 2),(2,st s)]=V (.a [iv 2,iv 0,st s, .l [] U U]):=rfl;simp only[qz 2,qy 4,b,aY,↓uL];refine gN f (by rw[e.1,d];decide) rfl rfl λk h g=>?_;simp only[u0,u1,g,aj,aN,bZ,aO1,dA,aNV,List.take_succ_cons,CE,↓uL];exact aQ7 (by rw[aoH];rfl) (by rw[aoH];rfl)
def aQB:FT:=lH aWO
def bbw{s Lw K}:=np aQB aWO s Lw K
def aXK:List Int:=[3,3,4,4,5,6,7,8,9,10,11,12,13,14,15,16,18,19,20,21,22,23,2]
def aPY(o:Int):Int:=bif Q (o<6)||Q (28<o) then 0 else gd aXK (o-6).toNat
def aXv(o:Int):Ct 264 [iv o] (·=iv (aPY o)):=by refine bhn λs0 c b=>?_;have a:∀R,aVs (iv o) s0 R=aVt (iv o) R (.l (aXK.map ci) U U) s0:=λR=>(by kernel_rfl);show aVs (iv o) s0 _;rw[a];simp+contextual only[aVt,u0,u1,tf,rk,↓uL];refine⟨(by grind [aPY]),λh=>?_⟩;rw[aPY,h];simp only[cP,j5] at h;rw[eM (by omega)<|by omega];exact⟨⟨by omega,by show o-6<23;omega⟩,rfl⟩
def aUm:FT:=lH aXv
def bcd{o Lw K}:=np aUm aXv o Lw K
def aNF:List w6:=[⟨1,0,⟨#[120]⟩,0,0,⟨#[]⟩⟩,⟨1,0,⟨#[121]⟩,0,1,⟨#[]⟩⟩,⟨2,0,⟨#[118]⟩,0,0,⟨#[]⟩⟩,⟨1,0,⟨#[113]⟩,2,0,⟨#[]⟩⟩,⟨3,0,⟨#[109]⟩,0,0,⟨#[]⟩⟩,⟨3,0,⟨#[110]⟩,0,0,⟨#[]⟩⟩,⟨4,0,⟨#[114]⟩,0,0,⟨#[]⟩⟩,⟨5,0,⟨#[99]⟩,0,0,⟨#[109]⟩⟩,⟨6,0,⟨#[102]⟩,0,0,⟨#[]⟩⟩]
def aWN:Ct 193 [] (·=sl w6.c aNF):=by refine aDq (bgk λs0 d b=>?_);have a:∀R,aUG s0 R=aE R s0 [.l (aNF.map w6.c) U U]:=λR=>(by kernel_rfl);show aUG s0 _;rw[a];exact aQ7 rfl rfl
def aSd:FT:=BJ aWN
def bbv{Lw K}:=al2 aSd aWN Lw K
attribute[local semireducible] aX
def bkk(l:List aP)(t:Int)(j:Nat):Nat:=L ((l.take j).filter λe=>Q<|e.aq=t)
theorem aV8{l:List aP}{t:Int}{j:Nat}(h:j<L l):bkk l t (j+1)=bkk l t j+if(gd l j).aq=t then 1 else 0:=by grind [bkk,iJ,bT,a6G]
theorem a6c{l:List aP}{t:Int}{j:Nat}:bkk l t j<=j:=gl (fZ _ _) (by simp;omega)
def aOE(l:List aP)(i:Nat)(t n:Int):Prop:=∃j,j<i/\(gd l j).aq=t/\((gd l j).kind=3\/(gd l j).kind=23)/\(bkk l t j:Int)=n
def aXy(l:List aP)(i:Nat)(t:Int)(ns:List Int)(u:i<=L l/\L l<1000000/\L ns<4611686018427387904):Ct 124 [sl aP.c l,iv i,iv t,sl ci ns] (λr=>∃b,r=bv b/\(b=U->∀n∈ns,aOE l i t n)):=by obtain⟨y,z,A⟩:=u;refine bhq λs0 D x=>?_;simp only[a4p];refine bhZ (L ns) (λk=>∀j,j<k->aOE l i t (gd ns j)) (by simp) λk C p=>?_;simp only[qz 19,aI,u0,u1,↓uL];refine⟨λh=>?_,λh=>⟨U,rfl,λ_=>?_⟩⟩;(focus refine yh (λs:Bool×Nat=>[iv<|bkk l t s.2,bv s.1,iv s.2]) 2 i (λs=>s.2<=i/\(s.1=U->aOE l i t (gd ns k))) (I,0) ⟨by omega,by simp⟩ ?_;rintro⟨v,j⟩ ⟨B,E⟩;simp only[qz 67,aI,au,u0,u1,↓uL];refine⟨λh=>?_,λh=>⟨(by simp),λd=>?_⟩⟩;(focus have g:j<i:=aL h;have f:j<L l:=(by omega);have e:=aV8 (t:=t) f;have w:=a6c (l:=l) (t:=t) (j:=j);have nx:∀(a b:Bool) (c:Int),c=((bkk l t (j+1):Nat):Int)->(b=U->aOE l i t (gd ns k))->tI (λs:Bool×Nat=>[iv<|bkk l t s.2,bv s.1,iv s.2]) (λs=>s.2<=i/\(s.1=U->aOE l i t (gd ns k))) [iv c,bv b,iv ((j+1:Nat):Int)]/\pM 2 i [iv c,bv b,iv ((j+1:Nat):Int)]<pM 2 i [iv<|bkk l t j,bv a,iv j]:=λa b c p h=>(by subst p;exact wN (enc:=λs:Bool×Nat=>[iv<|bkk l t s.2,bv s.1,iv s.2]) (s:=(a,j)) (s':=(b,j+1)) rfl rfl rfl g ⟨g,h⟩);(cases v<;>simp+contextual only[qz 89,ix,bh,u0,u1,rk,pz,↓uL,jA,jN,qz 87,uO,bdZ,bdT]);(all_goals refine⟨dJ f,λd=>?_,λd=>?_⟩;all_goals rw[fX<|by omega]);simp_all;simp at d;rw[f8 d] at e;rw[fX<|by omega];refine⟨dJ<|aL ‹_›,λ_=>dJ f,λ_ _=>dJ f,?_⟩;(cases m:Q ((bkk l t j:Int)=gd ns k)<;>cases q:Q ((gd l j).kind=3)<;>simp only[bdZ,bdT,qE,xM,ru,bsm,fh,kN]);simp_all;simp_all;exact nx _ _ _ (by rw[e]) λo=>⟨j,g,d, .inr (by simpa using o),by simpa using m⟩;exact nx _ _ _ (by rw[e]) λo=>⟨j,g,d, .inl (by simpa using q),by simpa using m⟩;simp_all;simp at d;rw[f8 d] at e;rw[fX<|by omega];simp_all);grind [gS,aL]);grind [ou,bT,bkb,bw]
def aSi:FT:=ER aXy
def bcg{l i t ns Lw K}:=axQ aSi aXy l i t ns Lw K (j:=by simp+contextual only[ij,Int.natCast_inj])
section
variable{Q:cC}{Y:ae}{xs:List AV}
def bd1:(∀r,isB r->Q r)=∀b,Q (bv b):=arm ⟨λh b=>h _ ⟨b,rfl⟩,by rintro h r ⟨b,rfl⟩;exact h b⟩
def a65:(∀r,isI r->Q r)=∀x,Q (iv x):=arm ⟨λh b=>h _ ⟨b,rfl⟩,by rintro h r ⟨b,rfl⟩;exact h b⟩
def bd4:(∀r,aQ1 r->Q r)=∀x y,Q (.t [iv x,iv y]):=arm ⟨λh x b=>h _ ⟨x,b,rfl⟩,by rintro h r ⟨x,b,rfl⟩;exact h x b⟩
def bdO{v w:Value}:lo Y xs (.t [.s v, .s w])=True:=by simp[lo,uN,yv,wD]
def bcB{α:Type}[Nonempty α]{b:Bool}{f:α->AV}{K:cC}:gB b (λk=>∀x,k<|f x) K=∀x,K (gv b<|f x):=by(cases b);exact arm ⟨λh x=>h,λh=>h<|Classical.choice ‹_›⟩;rfl
def bcD{α:Type}[Nonempty α]{b:Bool}{S:Prop}{f:α->AV}{K:cC}:gB b (λk=>S/\∀x,k<|f x) K=((b=U->S)/\∀x,K<|gv b<|f x):=by(cases b);exact arm ⟨λh=>⟨(λh=>by cases h),λx=>h⟩,λh=>h.2<|Classical.choice ‹_›⟩;simp[gB,gv]
def bcC{b:Bool}{f:Bool->AV}{K:cC}:gB b (λk=>∀x,k<|f x) K=∀x,K (gv b<|f x):=bcB
def bcE{b:Bool}{S:Prop}{f:Bool->AV}{K:cC}:gB b (λk=>S/\∀x,k<|f x) K=((b=U->S)/\∀x,K<|gv b<|f x):=bcD
def rg:=ai @bcC<|@bcE
def rr:=ai @bd1<|ai @a65<|ai @bd4<|ai @bdO<|ai @AL<|ai @oJ<|ai @pG<|ai @bdJ<|@bd7
end
def a6n{a:Int}{p:Int->Prop}:(∃k,iv a=iv k/\p k)=p a:=(by simp)
def aRB{a b:ByteArray}:a6F .neq 0 [] (st a) (st b)=V (bv<|Q<|a≠b):=by have h:=@alq a b;simp only[a6F,zP,df,bE,AV.s.injEq,mV] at h;simp only[a6F,zP,df,h,decide_not]
def a7w:dO:=(311,aOT)::(294,aSe)::(262,aSf)::(232,aN3)::(241,aQE)::(304,aQD)::(270,aPO)::(271,aP9)::(296,aSh)::(318,aTZ)::(300,aOi)::(303,aOS)::(313,aT2)::(196,aQC)::(192,aRj)::(182,aUt)::(280,aQB)::(264,aUm)::(193,aSd)::(124,aSi)::apC
def aOh:eJ a7w:=sz (nH aXc) (sz (aYm aXa)<|sz (nH aXg)<|sz (nI aXk)<|sz (aN0 aXm)<|sz (aCb aXd)<|sz (aCb aWX)<|sz (aCb aW2)<|sz (aR6 aXp)<|sz (aR6 aWQ)<|sz (nI aW6)<|sz (nH aW5)<|sz (aR6 aWU<|λ_=>by simp only[Cs,aqG,aOW,Bool.and_self])<|sz (nH aWP)<|sz (aR6 aXf)<|sz (apN aXF)<|sz (nH aWO)<|sz (nH aXv)<|sz (apM aWN)<|sz (aM6 aXy)<|Rk)
def aOX:=ai @bbU<|ai @bbS<|ai @bbY<|ai @bb2<|ai @bb4<|ai @bbV<|ai @bbF<|ai @bbK<|ai @bb7<|ai @bby<|ai @bbO<|ai @bbN<|ai @bbC<|ai @bbx<|ai @bbX<|ai @bcm<|ai @bbw<|ai @bcd<|ai @bbv<|ai @bcg<|@fsR
section
attribute[local irreducible] aX
def a9j:=I5 8 []
def a1p a a1 s0 R:=(.mk _:NR a7w a9j Tryz.f295 [a,a1] [] s0 R).p
def bgR{a a1:AV}{R:cC}(h:H0 λs0=>a1p a a1 s0 R):Ct 295 [a,a1] R:=z0 a9j aOh Tryz.func295 h
def a9h:=I5 36 []
def aU1 a a1 b s0 R:=(.mk _:NR a7w a9h Tryz.f297 [a,a1,b] [] s0 R).p
def bgP{a a1 b:AV}{R:cC}(h:H0 λs0=>aU1 a a1 b s0 R):Ct 297 [a,a1,b] R:=z0 a9h aOh Tryz.func297 h
def a14 a a1 b c R:=(.mk _:NR a7w at1 Tryz.f261 [.u,a1,b] [a] c R).p
def bgZ{c0:List AV}{a1 b:AV}{R:cC}(l0:L c0=6)(h:H1 31 6 3 c0 λia c=>a14 ia a1 b c R):Ct 261 [.a c0,a1,b] R:=z1 at1 aOh Tryz.func261 l0 h
def a9B:=I5 15 [(3,([1,5],[0])),(6,([1],[0,5]))]
def a2z a a1 s0 R:=(.mk _:NR a7w a9B Tryz.f231 [a,a1] [] s0 R).p
def bg8{a a1:AV}{R:cC}(h:H0 λs0=>a2z a a1 s0 R):Ct 231 [a,a1] R:=z0 a9B aOh Tryz.func231 h
def a9P:=I5 18 [(3,([7],[2,3,6])),(10,([40],[2]))]
def a4h a b c R:=(.mk _:NR a7w a9P Tryz.f265 [.u, .u] [a,b] c R).p
def bho{c0:List AV}{b:List AV}{R:cC}(l0:L c0=6)(l1:L b=4)(h:H2 264 6 2 c0 251 4 3 b λia c d=>a4h ia c d R):Ct 265 [.a c0, .a b] R:=z2 a9P aOh Tryz.func265 l0 l1 h
def a0m a b R:=(.mk _:NR a7w a9j Tryz.f268 [.u] [a] b R).p
def bgz{c0:List AV}{R:cC}(l0:L c0=6)(h:H1 308 6 1 c0 λia b=>a0m ia b R):Ct 268 [.a c0] R:=z1 a9j aOh Tryz.func268 l0 h
def a85:=I5 26 [(20,([56],[3,7]))]
def a0s a a1 b c R:=(.mk _:NR a7w a85 Tryz.f314 [.u,a1,b] [a] c R).p
def bgD{c0:List AV}{a1 b:AV}{R:cC}(l0:L c0=2)(h:H1 196 2 3 c0 λia c=>a0s ia a1 b c R):Ct 314 [.a c0,a1,b] R:=z1 a85 aOh Tryz.func314 l0 h
def a89:=I5 33 [(4,([4,5,6,7,8],[0])),(7,([4,5,6,7],[0,8])),(15,([4,5,6,7],[0,8,9])),(17,([39],[0,4,5,6,7,8,9,36])),(19,([47],[0,4,5,6,7,8,9,36]))]
def a0E a s0 R:=(.mk _:NR a7w a89 Tryz.f237 [a] [] s0 R).p
def bgH{a:AV}{R:cC}(h:H0 λs0=>a0E a s0 R):Ct 237 [a] R:=z0 a89 aOh Tryz.func237 h
def a9d:=I5 29 [(3,([4],[1])),(12,([6],[1])),(21,([8],[1,6,7]))]
def a0T a b R:=(.mk _:NR a7w a9d Tryz.f238 [.u] [a] b R).p
def bgL{c0:List AV}{R:cC}(l0:L c0=2)(h:H1 196 2 1 c0 λia b=>a0T ia b R):Ct 238 [.a c0] R:=z1 a9d aOh Tryz.func238 l0 h
def a8H:=I5 9 [(4,([3,4],[0]))]
def aYP a s0 R:=(.mk _:NR a7w a8H Tryz.f60 [a] [] s0 R).p
def bgd{a:AV}{R:cC}(h:H0 λs0=>aYP a s0 R):Ct 60 [a] R:=z0 a8H aOh Tryz.func60 h
def aZh b a c R:=(.mk _:NR a7w at1 Tryz.f195 [b, .u] [a] c R).p
def bgi{c:AV}{b:List AV}{R:cC}(l1:L b=4)(h:H1 272 4 3 b λia d=>aZh c ia d R):Ct 195 [c, .a b] R:=z1 at1 aOh Tryz.func195 l1 h
def aZj c a b d R:=(.mk _:NR a7w at1 Tryz.f279 [c, .u, .u] [a,b] d R).p
def bgj{d:AV}{b:List AV}{c:List AV}{R:cC}(l1:L b=4)(f:L c=4)(h:H2 272 4 4 b 272 4 5 c λia e g=>aZj d ia e g R):Ct 279 [d, .a b, .a c] R:=z2 at1 aOh Tryz.func279 l1 f h
def a94:=I5 11 [(4,([3,10],[8,9])),(7,([3],[8,9,10]))]
def a5v a b R:=(.mk _:NR a7w a94 Tryz.f229 [.u] [a] b R).p
def bhE{c0:List AV}{R:cC}(l0:L c0=7)(h:H1 40 7 1 c0 λia b=>a5v ia b R):Ct 229 [.a c0] R:=z1 a94 aOh Tryz.func229 l0 h
end
def aUw{a b:AV}:mL (bv U) a b=V a:=rfl
def a7c{a b:AV}:mL (bv I) a b=V b:=rfl
def aXX{P:Int->Prop}{Q:cC}:(∀r,(∃k:Int,r=iv k/\P k)->Q r)=∀k,P k->Q (iv k):=(by grind)
def bd8{a b c d e f g h i j k:AV}:aN (V 11) [a,b,c,d,e,f,g,h,i,j,k]=V (.a [a,b,c,d,e,f,g,h,i,j,k]):=rfl
def rkx{s:aoC}:aN (V 3) (aoC.c s)=V (.a<|aoC.c s):=rfl
def aXb(o a:Int):Ct 295 [iv o,iv a] (λr=>aWE r):=by refine bgR λs0 c b=>?_;simp+contextual only[a1p,u0,u1,aEn,aOX,ar,a6D,QV,wl,asq,↓uL]
def aUb:FT:=aRd aXb
def bbT{o a Lw K}:=f201 aUb aXb o a Lw K
def aW9(o a b:Int):Ct 297 [iv o,iv a,iv b] (λr=>aWE r):=by refine bgP λs0 d c=>?_;simp+contextual only[aU1,u0,u1,aPR,a5N,aP1,aOX,ar,a6D,QV,wl,asq,↓uL,aU1,zp,j5,j4,brW,not_false_iff]
def aUa:FT:=aSb aW9
def bbR{o a b Lw K}:=f301 aUa aW9 o a b Lw K
def aXj(w:J9)(b n:Int):Ct 261 [.a w.c,iv b,iv n] (λr=>isB r):=by refine bgZ rfl λg f d e=>?_;simp+contextual only[a14,u0,u1,d,ix,rk,ar,aOX,aj,DR,aNP,↓uL];grind [dX]
def aSg:FT:=aSb aXj
def bb1{w b n Lw K}:=f301 aSg aXj w b n Lw K
def aXl(l:List aNZ)(a:Int)(n:L l<1000000):Ct 231 [sl aNZ.c l,iv a] (λr=>isB r):=by refine bg8 λs0 m i=>?_;simp only[a2z];have nx:∀(a b:Int) (k:Nat),k<L l+1->tI (λs:Int×Nat=>[iv s.1,iv s.2]) (λs=>s.2<=L l+1) [iv b,iv ((k+1:Nat):Int)]/\pM 1 (L l+1) [iv b,iv ((k+1:Nat):Int)]<pM 1 (L l+1) [iv a,iv k]:=λa b k e=>wN (enc:=λs:Int×Nat=>[iv s.1,iv s.2]) (s:=(a,k)) (s':=(b,k+1)) rfl rfl rfl e e;refine yh (λs:Int×Nat=>[iv s.1,iv s.2]) 1 (L l+1) (λs=>s.2<=L l+1) (a,0) (by simp) ?_;rintro⟨f,k⟩ e;simp+contextual only[qz 39,qz 41,qz 19,a7i,aI,au,u0,u1,ixv,rk,pz,ar,aOX,aNP,wl,zp,rr,↓uL];intro j h;have g:k<L l+1:=(by grind);have d:aF (L l) f:=(by simp at h;exact⟨by omega,by omega⟩);rw[fX<|by omega];exact⟨d,λ_=>⟨d,λ_=>⟨d,nx _ _ _ g⟩,λ_=>nx _ _ _ g⟩⟩
def aUe:FT:=pn aXl
def bb3{l a Lw K}:=f211 aUe aXl l a Lw K (j:=by simp+contextual only[ij,ijv])
def a8e(i:aNZ)(s:aNQ):Prop:=i.op=7\/i.op=9->aF (L s.H7) i.k
def aXw(i:aNZ)(s:aNQ)(b:a8e i s):Ct 265 [.a i.c, .a s.c] (λr=>isI r):=by refine bho rfl rfl λj g d e f=>?_;simp+contextual only[qz 63,qz 65,qz 21,qz 23,a4h,a7i,aI,au,u0,u1,d,e,ix,rk,pz,ar,aOX,aj,aPG,wl,asq,zp,rr,↓uL];simp only[j4,j5,sr,aPy,wl,ip];exactλ_ _=>⟨λh=>b<|.inl h,λ_ h=>b<|.inr h⟩
def aUn:FT:=pn aXw
def bce{i s Lw K}:=f211 aUn aXw i s Lw K (j:=by simp+contextual only[ij,ijv])
def aWV(d:w6):Ct 268 [.a d.c] (λr=>isB r):=by refine bgz rfl λg f b e=>?_;simp+contextual only[a0m,u0,u1,b,pz,ar,aOX,aj,aRB,aNP,wl,asq,↓uL]
def aT3:FT:=aP7 aWV
def bbD{d Lw K}:=aRM aT3 aWV d Lw K (j:=by simp+contextual only[ij,ijv])
def slc{Y:ae}{K:cC}{i:Int}{l:List ByteArray}:rV (fo 1 Y (sl cs l) J (V<|iv i) J) K=((0<=i/\i<=L l)/\K (sl cs<|l.take i.toNat)):=aIk λ_=>rfl
def aWZ(p:aQl)(t:Int)(s:ByteArray)(e:PrB p):Ct 314 [.a p.c,iv t,st s] (λr=>∃k,r=iv k/\(k=5->0<=aOB p.bm0 s)):=by obtain⟨g,j,l⟩:=e;refine bgD rfl λq o b f=>?_;have d:=aTb (p:=λi=>Q<|(gd p.bm0 i).name=s) (n:=L p.bm0);have m:∀t:Int,L (gd p.ay t.toNat).locs<4611686018427387904:=λt=>(by by_cases h:t.toNat<L p.ay;grind [ig];rw[gd,List.getD_eq_getElem?_getD,List.getElem?_eq_none<|by omega];decide);rw[<-aOB] at d;simp+contextual only[qz 123,qz 125,a0s,a7i,aI,au,u0,u1,b,ixv,rk,pz,ar,aOX,aj,a6n,↓uL];simp only[aF];(try simp only[j4,j5,bN,bik,aNS,brW]);grind
def aT5:FT:=vn aWZ
def bbH{p t s Lw K}:=f311 aT5 aWZ p t s Lw K (j:=by simp+contextual only[ij,ijv])
def aW3(l:List w6)(N:L l<1000):Ct 237 [sl w6.c l] (λr=>aQ1 r):=by
 refine bgH λs0 E G=>?_
 simp only[a0E]
 refine jD (α:=Int×Int×Int×Int) (λs i=>[iv s.1,iv s.2.1,iv s.2.2.1,iv s.2.2.2,iv i]) 4 (L l) (λ_ _ Y=>L Y=4096) (s0:=(0,0,0,0)) E ?_
 rintro k ⟨a,b,c,d⟩ Y M e
 have nx:∀(x y z u:Int) Y',L Y'=4096->k<L l->yI (λ(s:Int×Int×Int×Int) i=>[iv s.1,iv s.2.1,iv s.2.2.1,iv s.2.2.2,iv i]) (L l) (λ_ _ Y=>L Y=4096) [iv x,iv y,iv z,iv u,iv<|dq.wrap<|(k:Int)+1] Y'/\gM 4 (L l) [iv x,iv y,iv z,iv u,iv<|dq.wrap<|(k:Int)+1] Y'<gM 4 (L l) [iv a,iv b,iv c,iv d,iv k] Y:=λx y z u Y' m g=>
  dR (mk:=λ(s:Int×Int×Int×Int) i=>[iv s.1,iv s.2.1,iv s.2.2.1,iv s.2.2.2,iv i]) (s:=(a,b,c,d)) (s':=(x,y,z,u)) (λ_ _=>rfl) g (by omega) m
 have t:∀{Y:ae} {K:cC} {i:Int},rV (fo 6 Y (sl w6.c l) J (V<|iv i) J) K=((0<=i/\i<=L l)/\K (sl w6.c<|l.take i.toNat)):=aIk λ_=>rfl
 simp only[qz 25,aI,au,u0,u1,aO2,rr,wl,zp,qz 47,qy 2,ixv,bh,pz,rr,↓uL]
 intro h
 have f:=aL h
 refine⟨dJ f,anu e λv A w F B=>?_⟩
 have o:L A=4096:=w.len.trans e
 have j:(0:Int)<=k/\(k:Int)<=L l:=(by omega)
 have D:=aTb (p:=λi=>Q<|(gd (l.take k) i).name=(gd l k).on) (n:=L<|l.take k)
 have q:L (l.take k)<4611686018427387904:=by simp;omega
 have C:Q (aOB (l.take k) (gd l k).on<0)=I->aF (L l) (aOB (l.take k) (gd l k).on):=λh=>by
  simp only[j5] at h
  have H:L (l.take k)<=L l:=by simp only[gC];omega
  exact⟨by omega,by have:=D.2;rw[aOB];omega⟩
 simp+contextual only[qz 4,t,bh,u0,u1,B,rk,pz,aj,ar,aOX,rr,aO2,wl,zp,qz 45,qz 93,qz 117,qz 119,qz 105,qz 107,qz 95,qz 4,j,ixv,C,nx,f,o,q,aRW,asq,↓uL]
def aT7:FT:=om aW3
def bbL{l Lw K}:=f111 aT7 aW3 l Lw K (j:=by simp+contextual only[ij,ijv])
def aW7(p:aQl)(B:PrB p):Ct 238 [.a p.c] (λr=>aQ1 r):=by refine bgL rfl λm t o D=>?_;obtain⟨E,G,y⟩:=B;simp only[a0T];have w:∀{Y:ae} {K:cC} {i:Int},rV (fo 4 Y (sl aO6.c p.ay) J (V<|iv i) J) K=((0<=i/\i<=L p.ay)/\K (sl aO6.c<|p.ay.take i.toNat)):=aIk λ_=>rfl;refine yV (L p.ay) (λ_ _ Y=>Fx m Y []) (Fx.refl _ _) ?_;rintro k _ Y A F;have e:=F.kq o;have f:L Y=4096:=F.len.trans t;simp only[qz 19,qy 4,aI,au,u0,u1,e,rk,pz,aj,ixv,bh,↓uL];refine⟨λh=>⟨u7 h,anu f λv n d x g=>?_⟩,λh=>?_⟩;have b:=aL h;have l:=d.kq e;have q:(0:Int)<=k/\(k:Int)<=L p.ay:=(by omega);have u:L (p.ay.take k)<4611686018427387904:=(by simp;omega);have nx:=dR (mk:=λ(_:Unit) i=>[iv i]) (p:=0) (s:=()) (s':=()) (Inv:=λ_ _ Y=>Fx m Y []) (Y:=Y) (Y':=n) (λ_ _=>rfl) b (by omega)<|F.trans d;simp+contextual only[qz 6,w,bh,u0,u1,l,g,pz,aj,ar,aOX,rr,aO2,wl,zp,q,u,nx,↓uL];omega;refine yV (L p.ay) (λ_ _ Y=>Fx m Y []) F ?_;rintro k _ Y A F;have e:=F.kq o;have f:L Y=4096:=F.len.trans t;simp only[qz 73,qy 8,aI,au,u0,u1,e,rk,pz,aj,ixv,bh,rr,aO2,wl,zp,↓uL];refineλh=>⟨u7 h,anu f λv n d x g=>?_⟩;have b:=aL h;have l:=d.kq e;simp+contextual only[qz 10,u0,u1,g,pz,aj,rr,aO2,wl,ip,↓uL];intro H;have C:=y _<|ig b;refine bhZ (L (gd p.ay k).locs) (λ_=>True) trivial λj M _=>?_;simp+contextual only[qz 127,aI,au,u0,u1,l,g,rk,pz,aj,ix,bh,ar,aOX,rr,aO2,wl,slc,↓uL];refine⟨λz=>?_,λz=>dR (mk:=λ(_:Unit) i=>[iv i]) (s:=()) (s':=()) (λ_ _=>rfl) b (by omega)<|F.trans d⟩;grind [aL,dJ,gS]
def aT9:FT:=om aW7
def bbP{p Lw K}:=f111 aT9 aW7 p Lw K (j:=by simp+contextual only[ij,ijv])
def cu(x:Int):List AV:=[.s<|.int .u8 x]
def a6E{Y:ae}{K:cC}{i:Int}{l:List Int}:rV (cz 1 Y (sl cu l)<|iv i) K=(aF (L l) i/\K (.q<|cu<|gd l i.toNat)):=aBz λ_=>rfl
theorem bcP{x y:Int}:(cu x=cu y)=(x=y):=by simp[cu]
def aQZ{l l':List Int}:(sl cu l=sl cu l')=(l=l'):=(by grind [kL,bcP])
def aWH(l:List Int)(t:L l<1000):Ct 60 [sl cu l] (λr=>∃cs:List BF,r=sl BF.c cs/\L cs=L l):=by refine aDq (bgd λs0 n o=>?_);simp only[aYP];refine jD (α:=AV) (λa i=>[a,iv i]) 1 (L l) (λk a Y=>L Y=4096/\∃cs:List BF,L cs=k/\bc Y 170 2 a (cs.map BF.c)) (s0:= .l [] U U) ⟨n,[],rfl,bc.nil⟩ ?_;rintro k a Y q ⟨b,cs,m,d⟩;simp+contextual only[qz 25,qy 2,aI,au,u0,u1,a6E,bh,cu,qM,aS6,aPR,a5N,aP1,↓uL];refine⟨λh=>⟨u7 h,by decide,u7 h,by decide,by decide,?_⟩,λh=>?_⟩;generalize(dq.wrap<|gd l k).tmod 4=x;generalize dq.wrap ((dq.wrap<|(dq.wrap<|gd l k).tdiv 4).tmod 5-1)=y;have e:bM buY brF [(0,iv x),(1,iv y)]=V (.a<|BF.c ⟨x,y⟩):=rfl;have f:aX buT 1 Y [(0, .a<|BF.c ⟨x,y⟩)]=V (.l ([(⟨x,y⟩:BF)].map BF.c) U U,Y):=ua rfl rfl rfl (by decide) rfl (by decide);simp only[e,f,aY,bQ];refine apQ d.p b (by grind [BF.c]) (by grind [BF.c]) (by simp) (by simp;omega) λj Y' g F N=>?_;refine dT (by first|rfl|(simp[eL,okT,tok,lb,cq,Qh,gz,dC,pP,dK];done)) ?_;simp only[u0,u1,↓uL];refine dR (mk:=λa i=>[a,iv i]) (s:=a) (s':=j) (λ_ _=>rfl) (aL h) (by omega) ⟨F.len.trans b,cs++[⟨x,y⟩],by simp[m],by simp_all⟩;exact aOv (Q:=λr=>∃cs:List BF,r=sl BF.c cs/\L cs=L l) (aWs d.p) (by simp[iX,eN]) ⟨cs,rfl,by grind⟩
def aTT:FT:=om aWH
def bbp{l Lw K}:=f111 aTT aWH l Lw K (j:=by simp+contextual only[ij,aQZ])
def aWL(s:ByteArray)(e:kW):Ct 195 [st s, .a e.c] (·= .a (NA.mk 1 0 s ⟨#[]⟩ [] e [] []).c):=by refine aDq (bgi aN9 λp j f o=>?_);simp only[aZh];refine ic j λv q d m g=>?_;have i:=d.kq f;have b:bM brG alz [(0,iv 1),(2,st s),(5, .a e.c)]=V (.a [iv 1,iv 0,st s,sv [], .l [] U U,iv e.op,iv e.n,st e.name,sl kW.c e.l, .l [] U U, .l [] U U]):=(by rw[aoH];rfl);simp only[qz 4,qy 6,u0,u1,i,pz,b,↓uL];refine r9 g rfl rfl λr k h=>?_;simp only[u0,u1,h,bd8,↓uL];exact aQ7 (by rw[a6X];rfl) (by rw[a6X];rfl)
def aPN:FT:=lI aWL
def bbt{s e Lw K}:=f200 aPN aWL s e Lw K (j:=by simp+contextual only[ij,ijv])
def aWM(o:Int)(a b:kW):Ct 279 [iv o, .a a.c, .a b.c] (·= .a (kW.mk o 0 ⟨#[]⟩ [a,b]).c):=by refine aDq (bgj aN9 aN9 λt p h i s=>?_);simp only[aZj];refine ic p λv g d r j=>?_;have m:=d.kq h;have n:=d.kq i;have f:aX bts 2 g [(0, .a a.c),(1, .a b.c)]=V (.l [a.c,b.c] U U,g):=(by rw[aoH (x:=a),aoH (x:=b)];kernel_rfl);simp only[qz 6,u0,u1,m,n,pz,f,↓uL];have e:bM bth bmK [(0,iv o),(3, .l [a.c,b.c] U U)]=V (.a [iv o,iv 0,sv [], .l [a.c,b.c] U U]):=rfl;simp only[qz 8,qy 10,e,aY,↓uL];refine r9 j rfl rfl λu q k=>?_;simp only[u0,u1,k,uS,↓uL];exact aQ7 (by rw[aoH (x:= .mk o 0 ⟨#[]⟩ [a,b])];rfl) (by rw[aoH (x:= .mk o 0 ⟨#[]⟩ [a,b])];rfl)
def aRg:FT:=za aWM
def bbu{o a b Lw K}:=f300 aRg aWM o a b Lw K (j:=by simp+contextual only[ij,ijv])
def aXG(s:sA)(E:L s.bW.ay<1000):Ct 229 [.a s.c] (λr=>∃l:List Int,r=sl ci l/\L l<=L s.bW.ay):=by refine aDq (bhE rfl λj x t B=>?_);simp only[a5v,u0,u1,t,rk,aj,↓uL];refine jD (α:=AV) (λa i=>[a,iv i]) 1 (L s.bW.ay) (λk a Y=>Fx j Y []/\∃l:List Int,L l<=k/\bc Y 3 1 a (l.map ci)/\∀q∈aA a,bK j q) (s0:= .l [] U U) ⟨Fx.refl _ _,[],by simp,bc.nil,by simp[aA]⟩ ?_;rintro k a Y D ⟨F,l,C,f,w⟩;have d:L Y=4096:=F.len.trans x;simp only[qz 25,aI,au,u0,u1,qz 47,qy 4,ix,bh,rkx,rr,↓uL];refine⟨λh=>⟨u7 h,anu d λv n b A u=>?_⟩,λh=>?_⟩;have e:=aL h;have y:L n=4096:=b.len.trans d;simp+contextual only[qz 6,qy 8,qy 10,u0,u1,u,rk,aj,a5Y,qz 45,↓uL];refine⟨λ_=>?_,λ_=>dR (mk:=λa i=>[a,iv i]) (s:=a) (s':=a) (λ_ _=>rfl) e (by omega) ⟨F.trans b,l,by omega,f.fx b (by simp),w⟩⟩;refine qs (f.fx b<|by simp).p rfl (by decide) (by omega) pU pU (by simp) (by simp;omega) λo Y' g m z=>?_;refine dR (mk:=λa i=>[a,iv i]) (s:=a) (s':=o) (λ_ _=>rfl) e (by omega) ⟨((F.trans b).trans m).mono λq G=> .inr ?_,l++[(k:Int)],by simp;omega,by simp_all,by grind [bK.old]⟩;grind [bK.no];exact aOv (Q:=λr=>∃l:List Int,r=sl ci l/\L l<=L s.bW.ay) (aWs f.p) (by simp[iX,eN]) ⟨l,rfl,by omega⟩
def aSk:FT:=om aXG
def bcn{s Lw K}:=f111 aSk aXG s Lw K
def a7x:dO:=(295,aUb)::(297,aUa)::(261,aSg)::(231,aUe)::(265,aUn)::(268,aT3)::(314,aT5)::(237,aT7)::(238,aT9)::(60,aTT)::(195,aPN)::(279,aRg)::(229,aSk)::a7w
def aNH:eJ a7x:=sz (aYm aXb) (sz (a7W aW9)<|sz (a7W aXj)<|sz (aN0 aXl)<|sz (aN0 aXw)<|sz (aR6 aWV)<|sz (By aWZ)<|sz (rj aW3)<|sz (rj aW7)<|sz (rj aWH)<|sz (nI aWL<|λ_ _=>by simp only[Cs,aqG,aOW,Bool.and_self])<|sz (Rs aWM<|λ_ _ _=>by simp only[Cs,aqG,aOW,Bool.and_self])<|sz (rj aXG)<|aOh)
def aD6:=ai @bbT<|ai @bbR<|ai @bb1<|ai @bb3<|ai @bce<|ai @bbD<|ai @bbH<|ai @bbL<|ai @bbP<|ai @bbp<|ai @bbt<|ai @bbu<|ai @bcn<|@aOX
section
attribute[local irreducible] aX
def a1l a a1 b c d e R:=(.mk _:NR a7x a8V Tryz.f301 [.u,a1,b,c,d] [a] e R).p
def bgO{c0:List AV}{a1 b c d:AV}{R:cC}(l0:L c0=2)(h:H1 196 2 5 c0 λia e=>a1l ia a1 b c d e R):Ct 301 [.a c0,a1,b,c,d] R:=z1 a8V aNH Tryz.func301 l0 h
def a86:=I5 10 [(4,([4,5,6],[1]))]
def a0v a b R:=(.mk _:NR a7x a86 Tryz.f315 [.u] [a] b R).p
def bgE{c0:List AV}{R:cC}(l0:L c0=4)(h:H1 272 4 1 c0 λia b=>a0v ia b R):Ct 315 [.a c0] R:=z1 a86 aNH Tryz.func315 l0 h
def a0n a s0 R:=(.mk _:NR a7x a8H Tryz.f239 [a] [] s0 R).p
def bgA{a:AV}{R:cC}(h:H0 λs0=>a0n a s0 R):Ct 239 [a] R:=z0 a8H aNH Tryz.func239 h
def a8X:=I5 14 [(7,([4],[1]))]
def aSt a b R:=(.mk _:NR a7x a8X Tryz.f312 [.u] [a] b R).p
def bgv{c0:List AV}{R:cC}(l0:L c0=4)(h:H1 272 4 1 c0 λia b=>aSt ia b R):Ct 312 [.a c0] R:=z1 a8X aNH Tryz.func312 l0 h
def a9D:=I5 35 [(11,([59],[2,3,6])),(14,([78],[2,3,6])),(19,([98],[2,3,6])),(23,([108],[2,3,6]))]
def a2F b a c R:=(.mk _:NR a7x a9D Tryz.f230 [.u, .u] [b,a] c R).p
def bha{c0:List AV}{b:List AV}{R:cC}(l0:L c0=6)(l1:L b=6)(h:H2 31 6 2 c0 264 6 3 b λia c d=>a2F ia c d R):Ct 230 [.a c0, .a b] R:=z2 a9D aNH Tryz.func230 l0 l1 h
end
def aW8(p:aQl)(t:Int)(s:ByteArray)(a b:Int)(e:PrB p):Ct 301 [.a p.c,iv t,st s,iv a,iv b] (λr=>∃k,r=iv k/\(k=0->a=5->b=5->0<=aOB p.bm0 s)):=by refine bgO rfl λh g d f=>?_;simp+contextual only[a1l,u0,u1,d,pz,ar,Fa,aD6,e,aXX,a6n,↓uL];grind
def aOd:FT:=aTQ aW8
def bbQ{p t s a b Lw K}:=bbn aOd aW8 p t s a b Lw K (j:=by simp+contextual only[ij,ijv])
def aW0(e:kW)(f:∃n,shE n e):Ct 315 [.a e.c] (λr=>aQ1 r):=by obtain⟨n,f⟩:=f;induction n generalizing e with|zero=>exact f.elim|succ n j=>have i:=f.len;refine bgE aN9 λp o g m=>?_;simp only[a0v];refine yh (λs:Int×Int×Nat=>[iv s.1,iv s.2.1,iv s.2.2]) 2 (L e.l) (λ_=>True) (1,0,0) trivial ?_;rintro⟨a,b,k⟩ _;simp only[qz 25,aI,au,u0,u1,g,pz,aj,ixv,bh,rr,jM,kU,jt,Fa,aO2,wl,zp,↓uL];intro h;have d:=aL h;refine⟨dJ d,aPW (j _<|f.2 _<|ig d) (aV2 a6h) ?_⟩;rintro r ⟨x,y,rfl⟩;simp only[u0,u1,rr,aRW,ip];exact wN (enc:=λs:Int×Int×Nat=>[iv s.1,iv s.2.1,iv s.2.2]) (s:=(a,b,k)) (s':=(_,_,k+1)) (by rw[fX<|by omega]) rfl rfl d trivial
def aT6:FT:=om aW0
def bbI{e Lw K}:=f111 aT6 aW0 e Lw K (j:=by simp+contextual only[ij,ijv])
def aWW(l:List NA)(d:∃n,shL n 8 l):Ct 239 [sl NA.c l] (λr=>isI r):=by obtain⟨n,d⟩:=d;induction n using Nat.strongRecOn generalizing l with|ind n f=>obtain⟨j,g⟩:=d;refine bgA λs0 o i=>?_;simp only[a0n,u0,u1,↓uL];refine yh (λs:Int×Nat=>[iv s.1,iv s.2]) 1 (L l) (λ_=>True) (L l,0) trivial ?_;rintro⟨a,k⟩ _;simp only[qz 25,aI,au,u0,u1,ixv,rr,pz,bh,jM,kU,jt,alg,aPG,wl,zp,↓uL];intro h;have b:=aL h;obtain⟨m,rfl,g1,e⟩:=(g _<|ig b).body;refine⟨dJ b,aPW (f m (by omega) _ ⟨by have:=g1.1;omega,g1.2⟩) rfl ?_⟩;rintro r ⟨x,rfl⟩;simp only[u0,u1,AL,ip];refine⟨dJ b,aPW (f m (by omega) _ ⟨by have:=e.1;omega,e.2⟩) rfl ?_⟩;rintro r ⟨y,rfl⟩;simp only[u0,u1,AL,ip];exact wN (enc:=λs:Int×Nat=>[iv s.1,iv s.2]) (s:=(a,k)) (s':=(_,k+1)) (by rw[fX<|by omega]) rfl rfl b trivial
def aT4:FT:=om aWW
def bbE{l Lw K}:=f111 aT4 aWW l Lw K (j:=by simp+contextual only[ij,ijv])
def aWS(e:kW)(f:∃n,shE n e):Ct 312 [.a e.c] (λr=>isB r):=by obtain⟨n,f⟩:=f;induction n generalizing e with|zero=>exact f.elim|succ n p=>have o:=f.len;refine bgv aN9 λu t g q=>?_;simp only[aSt,↓uL];generalize m:@qp _ 43 ⟨_⟩=Lw;have d:lR [iv 0] Lw:=(by rw[<-m];refine bhZ (L e.l) (λ_=>True) trivial λk s _=>?_;simp only[qz 43,aI,au,u0,u1,g,pz,aj,ixv,bh,rr,jM,kU,jt,Fa,aNP,wl,zp,↓uL];intro h;have i:=aL h;refine⟨dJ i,aPW (p _<|f.2 _<|ig i) (aV2 a6h) ?_⟩;rintro r ⟨x,rfl⟩;simp only[u0,u1,AL,ip,wl];grind [gS]);have b:e.op=2\/e.op=3\/(e.op≠2/\e.op≠3):=(by omega);rcases b with b|b|⟨j,b⟩;simp+contextual only[u0,u1,g,pz,ar,aD6,aj,rr,aRB,aNP,wl,b,bj5,d,aUw,Bool.and_self,↓jN,↓uL];simp+contextual only[u0,u1,g,pz,ar,aD6,aj,rr,aRB,aNP,wl,b,bj5,boY,Bool.or_true,d,Int.reduceEq,aUw,Bool.and_self,↓jA,↓uL];simp+contextual only[u0,u1,g,pz,ar,aD6,aj,rr,aRB,aNP,wl,j,b,boY,d,a7c,Bool.and_self,↓jA,↓jN,↓uL]
def aRh:FT:=om aWS
def bbA{e Lw K}:=f111 aRh aWS e Lw K (j:=by simp+contextual only[ij,ijv])
def aXn(w:J9)(i:aNZ):Ct 230 [.a w.c, .a i.c] (λr=>isB r):=by refine bha rfl rfl λg f b d e=>?_;simp+contextual (maxSteps:=2000000) only[qz 141,qz 143,qz 117,qz 119,qz 87,qz 89,qz 69,qz 71,a2F,a7i,au,u0,u1,b,d,ix,rk,pz,ar,aD6,aj,rr,aNP,DR,wl,asq,↓uL];(try simp only[j4,j5,bN,bik,aNS,brW]);(repeat' (first|apply ai|intro _));all_goals first|omega|trivial
def aUf:FT:=aRd aXn
def bb5{w i Lw K}:=f201 aUf aXn w i Lw K (j:=by simp+contextual only[ij,ijv])
def a7y:dO:=(301,aOd)::(315,aT6)::(239,aT4)::(312,aRh)::(230,aUf)::a7x
def aR1:eJ a7y:=sz (bhJ aW8) (sz (rj aW0<|λ_=>by simp only[Cs,aqG,aOW,Bool.and_self])<|sz (rj aWW<|λ_=>by simp only[Cs,aqG,aOW,Bool.and_self])<|sz (rj aWS<|λ_=>by simp only[Cs,aqG,aOW,Bool.and_self])<|sz (aYm aXn)<|aNH)
def aRO:=ai @bbQ<|ai @bbI<|ai @bbE<|ai @bbA<|ai @bb5<|@aD6
section
attribute[local irreducible] aX
def a9a:=I5 13 [(2,([7],[1,3,5])),(8,([7,8],[1,3,5]))]
def a0O b a1 a c R:=(.mk _:NR a7y a9a Tryz.f316 [.u,a1, .u] [b,a] c R).p
def bgI{c0:List AV}{a1:AV}{b:List AV}{R:cC}(l0:L c0=2)(d:L b=4)(h:H2 196 2 3 c0 272 4 5 b λia c e=>a0O ia a1 c e R):Ct 316 [.a c0,a1, .a b] R:=z2 a9a aR1 Tryz.func316 l0 d h
def a8Y:=I5 23 []
def aUS a b R:=(.mk _:NR a7y a8Y Tryz.f298 [.u] [a] b R).p
def bgw{c0:List AV}{R:cC}(l0:L c0=11)(h:H1 274 11 1 c0 λia b=>aUS ia b R):Ct 298 [.a c0] R:=z1 a8Y aR1 Tryz.func298 l0 h
def a8Z:=I5 10 [(3,([3],[0]))]
def a0g a s0 R:=(.mk _:NR a7y a8Z Tryz.f269 [a] [] s0 R).p
def bgx{a:AV}{R:cC}(h:H0 λs0=>a0g a s0 R):Ct 269 [a] R:=z0 a8Z aR1 Tryz.func269 h
def a9F:=I5 30 [(7,([8],[1,3,5,7])),(23,([11],[1,3,5,7,8,10]))]
def a2R b a1 a c R:=(.mk _:NR a7y a9F Tryz.f186 [.u,a1, .u] [b,a] c R).p
def bhb{c0:List AV}{a1:AV}{b:List AV}{R:cC}(l0:L c0=6)(d:L b=2)(h:H2 31 6 3 c0 247 2 5 b λia c e=>a2R ia a1 c e R):Ct 186 [.a c0,a1, .a b] R:=z2 a9F aR1 Tryz.func186 l0 d h
end
def aW4(p:aQl)(t:Int)(e:kW)(d:PrB p/\∃n,shE n e):Ct 316 [.a p.c,iv t, .a e.c] (λr=>isI r):=by obtain⟨j,n,d⟩:=d;induction n generalizing e with|zero=>exact d.elim|succ n q=>have o:=d.len;refine bgI rfl aN9 λw v g i u=>?_;simp only[a0O,↓uL];generalize m:@qp _ 49 ⟨_⟩=Lw;have f:∀x:Int,lR [iv x,iv 0] Lw:=(by intro x;rw[<-m];refine yh (λs:Int×Nat=>[iv s.1,iv s.2]) 1 (L e.l) (λ_=>True) (x,0) trivial ?_;rintro⟨a,k⟩ _;simp+contextual only[qz 49,aI,au,u0,u1,g,i,pz,aj,ixv,bh,rr,jM,kU,jt,Fa,aPG,tW,wl,zp,↓uL];intro h;have b:k<L e.l:=(by simp_all);refine⟨dJ b,aPW (q _<|d.2 _<|ig b) (by simp only[Cs,aqG,aOW,Bool.and_self]) ?_⟩;rintro r ⟨y,rfl⟩;simp only[AL,ip];exact wN (enc:=λs:Int×Nat=>[iv s.1,iv s.2]) (s:=(a,k)) (s':=(y,k+1)) (by grind [fX]) rfl rfl b trivial);simp+contextual only[a7i,qz 17,qz 15,aI,au,u0,u1,g,i,pz,aj,aRO,j,aXX,AL,ar,Fa,f,wl,asq,↓uL]
def aT8:FT:=vn aW4
def bbM{p t e Lw K}:=f311 aT8 aW4 p t e Lw K (j:=by simp+contextual only[ij,ijv])
def aX1(n:Nat)(h:∀s,shS n s->Ct 298 [.a s.c] isB)(l:List NA)(i:L l<=8)(hs:∀s∈l,shS n s):Ct 269 [sl NA.c l] isB:=by refine bgx λs0 e f=>?_;simp only[a0g];refine bhZ (L l) (λ_=>True) trivial λk g _=>?_;simp only[qz 19,aI,au,u0,u1,ixv,bh,rr,pz,jM,kU,jt,Fa,aNP,wl,zp,↓uL];intro d;have b:=aL d;refine⟨dJ b,aPW (h _<|hs _<|ig b) (aV2 aS7) ?_⟩;rintro r ⟨x,rfl⟩;simp only[u0,u1,AL,ip,wl];grind [gS]
set_option maxHeartbeats 8000000 in
def a7f:∀(n:Nat) (s:NA),shS n s->Ct 298 [.a s.c] isB:=by intro n;induction n with|zero=>intro s h;exact h.elim|succ n o=>intro s l;have A:=l.at;obtain⟨m,C,g1,q⟩:=l.body;obtain rfl:n=m:=(by omega);refine bgw bit λd B f z=>?_;have hI:Q ((L s.index:Int)=1)=U->∃n,shE n (gd s.index 0):=(by grind [ig]);have u:s.op=1\/s.op=2\/s.op=3\/s.op=14->∃n,shE n s.expr:=(by grind);have k:fW (cX 269) [sl NA.c s.body] (lo d [sl NA.c s.body]) (λb=>gR (gP U b) (λg=>g<|AV.p (1,1) 0 10) λt=>gR (gP U b) (λg=>rV (vl J d t) λv=>g v) λe=>gR (gP U b) (λg=>fW (cX 269) [dG d e] (lo d [e]) λv=>g v) λi=>rV (mL b i<|bv I) λj=>aE isB d [j]):=(by refine aPW (aX1 n o _ (by omega) g1.2) rfl ?_;rintro r ⟨x,rfl⟩;(cases x);simp only[u0,AL,a7c,aNP,u1,jN,ip];simp only[u0,u1,AL,ip,jA,f,pz,alg,aUw];refine aPW (aX1 n o _ (by omega) q.2) rfl ?_;rintro r ⟨y,rfl⟩;simp only[AL,u1,aNP,ip]);have cs:(Q (s.op<1)||Q (15<s.op))=U\/s.op=1\/s.op=2\/s.op=3\/s.op=4\/s.op=5\/s.op=6\/s.op=7\/s.op=8\/s.op=9\/s.op=10\/s.op=11\/s.op=12\/s.op=13\/s.op=14\/s.op=15:=(by grind);rcases cs with h|h|h|h|h|h|h|h|h|h|h|h|h|h|h|h;simp+contextual only[aUS,u0,u1,f,pz,aj,h,aNP,↓iC,↓uL];trace_state;all_goals(try have w:=u<|by omega);simp+contextual only[aUS,u0,u1,f,rk,pz,ar,Fa,aRO,aj,rr,rg,ixv,Gx,aRB,aNP,h,k,bj5,boY,Int.reduceLT,Int.reduceEq,Int.reduceLE,brW,byD,byJ,aUw,a7c,↓jA,↓jN,Bool.and_self,wl,zp,↓uL];(try simp only[aF,j4,j5,bN,fH,cP,bik,aNS,eH,fK]);simp_all
def a6L(s:NA)(b:∃n,shS n s):Ct 298 [.a s.c] (λr=>isB r):=by obtain⟨n,b⟩:=b;exact a7f n s b
def a8a:FT:=om a6L
def aWT(l:List NA)(a:∃n,shL n 8 l):Ct 269 [sl NA.c l] (λr=>isB r):=by obtain⟨n,a⟩:=a;exact aX1 n (a7f n) l a.1 a.2
def aT1:FT:=om aWT
def bbB{l Lw K}:=f111 aT1 aWT l Lw K (j:=by simp+contextual only[ij,ijv])
def aYh(c:aTo):Prop:=0<=c.H7/\c.H7<=32/\∀k,k<L c.bid->∀j∈a6z (gd c.bid k),0<=j/\j<c.H7
def aTv{P:Bool->Prop}{Q:cC}:(∀r,(∃b:Bool,r=bv b/\P b)->Q r)=∀b,P b->Q (bv b):=(by grind)
def aPA{a:Bool}{p:Bool->Prop}:(∃k,bv a=bv k/\p k)=p a:=(by simp)
def bd5{l:List Int}{Q:cC}:(∀r,aRU l r->Q r)=∀t o,Q (.l (l.map ci) t o):=QS
def bdN{Y:ae}{x:aNZ}{r:AV}:lo Y [.a x.c] r=True:=by simp[lo,nA,eB,iR,aNZ.c]
def aXo(w:J9)(t:Int)(c:aTo)(H:L c.bid<1000000):Ct 186 [.a w.c,iv t, .a c.c] (λr=>∃b,r=bv b/\(b=U->aYh c)):=by refine bhb rfl rfl λK E z g P=>?_;simp+contextual only[a2R,u0,u1,g,pz,ar,aj,aPA,eE,aPy,wl,↓uL];intro f;refine yV (L c.bid) (λk _ Y=>Fx K Y []/\∀u,u<k->∀j∈a6z (gd c.bid u),0<=j/\j<c.H7) ⟨Fx.refl _ _,by simp⟩ ?_;rintro k _ Y W ⟨F,hI⟩;have p:L Y=4096:=F.len.trans E;have B:=F.kq z;have l:=F.kq g;simp only[qz 43,qy 6,aI,au,u0,u1,l,rk,pz,aj,ixv,bh,aPA,↓uL];refine⟨λh=>⟨u7 h,anu p λv O e N A=>?_⟩,λh _=>?_⟩;have q:=aL h;have C:=e.kq B;have m:=e.kq l;simp+contextual only[qz 8,au,u0,u1,C,m,A,ix,rk,pz,ar,Fa,aRO,aj,rr,rg,aPA,bd5,bdN,H,eE,aPy,wl,↓uL];refineλx y _=>⟨(by grind [dX]),λ_ _ X o=>?_⟩;refine bhZ (L<|a6z<|gd c.bid k) (λi=>∀d,d<i->0<=gd (a6z<|gd c.bid k) d/\gd (a6z<|gd c.bid k) d<c.H7) (by simp) λi T S=>?_;have G:L (a6z<|gd c.bid k)<=3:=(by grind [a6z]);simp only[qz 139,aI,au,u0,u1,gT,tf,rk,pz,m,bh,aj,ar,aRO,rr,aPA,eE,aPy,wl,↓uL];refine⟨(by grind [dJ,aL,gS,dh]),λR=>?_⟩;refine dR (mk:=λ(_:Unit) i=>[iv i]) (s:=()) (s':=()) (λ_ _=>rfl) q (by omega) ⟨F.trans e,a6p hI λj D=>?_⟩;obtain⟨d,M,rfl⟩:=ou D;grind [bT,bkb,bw];simp at f;have n:k=L c.bid:=(by grind);subst n;exact⟨by omega,by omega,hI⟩
def aUg:FT:=vn aXo
def bb6{w t c Lw K}:=f311 aUg aXo w t c Lw K (j:=by simp+contextual only[ij,ijv])
def a7z:dO:=(316,aT8)::(298,a8a)::(269,aT1)::(186,aUg)::a7y
def aTB:eJ a7z:=sz (By aW4<|λ_ _ _=>by simp only[Cs,aqG,aOW,Bool.and_self]) (sz (rj a6L<|λ_=>by simp only[Cs,aqG,aOW,Bool.and_self])<|sz (rj aWT<|λ_=>by simp only[Cs,aqG,aOW,Bool.and_self])<|sz (By aXo)<|aR1)
def aQT:=ai @bbM<|ai @bbB<|ai @bb6<|@aRO
section
attribute[local irreducible] aX
def a8W:=I5 27 [(3,([3],[1])),(11,([4],[1])),(18,([6],[1,4,5]))]
def a0f a b R:=(.mk _:NR a7z a8W Tryz.f236 [.u] [a] b R).p
def bgu{c0:List AV}{R:cC}(l0:L c0=2)(h:H1 196 2 1 c0 λia b=>a0f ia b R):Ct 236 [.a c0] R:=z1 a8W aTB Tryz.func236 l0 h
def a0r b a1 a c R:=(.mk _:NR a7z a8V Tryz.f302 [.u,a1, .u] [b,a] c R).p
def bgC{c0:List AV}{a1:AV}{b:List AV}{R:cC}(l0:L c0=2)(d:L b=4)(h:H2 196 2 3 c0 272 4 5 b λia c e=>a0r ia a1 c e R):Ct 302 [.a c0,a1, .a b] R:=z2 a8V aTB Tryz.func302 l0 d h
def a9p:=I5 13 [(6,([3],[1]))]
def a1N a b R:=(.mk _:NR a7z a9p Tryz.f119 [.u] [a] b R).p
def bgX{c0:List AV}{R:cC}(l0:L c0=7)(h:H1 129 7 1 c0 λia b=>a1N ia b R):Ct 119 [.a c0] R:=z1 a9p aTB Tryz.func119 l0 h
end
def aWR(p:aQl)(u:shP p):Ct 236 [.a p.c] (λr=>isB r):=by obtain⟨⟨A,B,C⟩,D,o⟩:=u;refine bgu rfl λw t e z=>?_;simp only[a0f];refine bhZ (L p.bm0) (λ_=>True) trivial λk q _=>?_;simp+contextual only[qz 19,aI,au,u0,u1,e,rk,pz,aj,ixv,bh,ar,Fa,aQT,rr,aNP,wl,↓uL];refine⟨λh=>⟨u7 h,by grind [gS,aL]⟩,λ_=>?_⟩;refine yV (L p.ay) (λ_ _ Y=>Fx w Y []) (Fx.refl _ _) ?_;rintro k _ Y q F;have n:=F.kq e;have f:L Y=4096:=F.len.trans t;simp only[qz 67,qy 4,qy 6,aI,au,u0,u1,n,rk,pz,aj,ixv,bh,aNP,wl,zp,↓uL];intro h;have d:=aL h;refine⟨dJ d,anu f λv y l x m=>?_⟩;have g:=o _<|ig d;refine bhZ (L (gd p.ay k).locs) (λ_=>True) trivial λj E _=>?_;simp+contextual only[qz 109,aI,au,u0,u1,m,rk,pz,aj,ix,bh,ar,aQT,rr,rg,aNP,wl,↓uL];refine⟨λh=>⟨u7 h,λ_=>gS (aL h) (by have:=g.1;omega) trivial⟩,λ_=>⟨λ_=>⟨4,g.2⟩,λb _=>dR (mk:=λ(_:Unit) i=>[iv i]) (s:=()) (s':=()) (λ_ _=>rfl) d (by omega)<|F.trans l⟩⟩
def aT0:FT:=om aWR
def bbz{p Lw K}:=f111 aT0 aWR p Lw K (j:=by simp+contextual only[ij,ijv])
def aWY(p:aQl)(t:Int)(e:kW)(f:PrB p/\∃n,shE n e):Ct 302 [.a p.c,iv t, .a e.c] (λr=>isI r):=by refine bgC rfl aN9 λi h b d g=>?_;simp+contextual only[a0r,u0,u1,b,d,pz,ar,Fa,aQT,f,rr,aPG,wl,asq,↓uL]
def aP8:FT:=vn aWY
def bbG{p t e Lw K}:=f311 aP8 aWY p t e Lw K (j:=by simp+contextual only[ij,ijv])
def aPU(c:aBY):Prop:=mQ c.aQ=U/\L c.ay=L c.aQ.ay/\∀t∈c.ay,aYh t
def aOc(c:aBY):Prop:=L c.ay<1000/\∀t∈c.ay,L t.bid<1000000
def aXh(c:aBY)(f:aOc c):Ct 119 [.a c.c] (λr=>∃b,r=bv b/\(b=U->aPU c)):=by obtain⟨i,e⟩:=f;refine bgX rfl λp n d g=>?_;simp+contextual only[a1N,u0,u1,d,pz,aj,ar,aQT,rr,aPA,eE,aPy,wl,↓uL];intro o;refine bhZ (L c.ay) (λk=>∀j,j<k->aYh (gd c.ay j)) (by simp) λk m l=>?_;simp+contextual only[qz 37,aI,au,u0,u1,d,rk,pz,aj,ixv,bh,ar,Fa,aQT,rr,aTv,aPA,eE,aPy,wl,↓uL];refine⟨λh=>⟨u7 h,e _<|ig<|aL h,by grind [gS,aL]⟩,λh _=>⟨?_,?_,?_⟩⟩;simp_all;grind;grind [ou,bT,bkb,bw]
def aRk:FT:=om aXh
def bbZ{c Lw K}:=f111 aRk aXh c Lw K (j:=by simp+contextual only[ij,ijv])
def aYb:dO:=(236,aT0)::(302,aP8)::(119,aRk)::a7z
def aTC:eJ aYb:=sz (rj aWR) (sz (By aWY<|λ_ _ _=>by simp only[Cs,aqG,aOW,Bool.and_self])<|sz (rj aXh)<|aTB)
def aQU:=ai @bbz<|ai @bbG<|ai @bbZ<|@aQT
section
attribute[local irreducible] aX
def a9e:=I5 11 [(3,([9],[0,1,2,3]))]
def aUX a a1 b c s0 R:=(.mk _:NS aYb a9e Tryz.f299 [a,a1,b,c] [] s0 R).p
def bgM{a a1 b c:AV}{s0:ae}{R:be}(hs:L s0=4096)(h:aUX a a1 b c s0 R):EB 299 [a,a1,b,c] s0 R:=zB a9e aTC Tryz.func299 h
def a9f:=I5 56 [(12,([67],[0,3,5,6,7,8,9,30])),(17,([91],[0,3,5,6,7,8,9,30])),(24,([119],[0,3,5,6,7,8,9,30])),(51,([14],[0,3,5,6]))]
def aUY b a c R:=(.mk _:NS aYb a9f Tryz.f272 [b, .u] [a] c R).p
def bgN{c:AV}{b:List AV}{s0:ae}{R:be}(hs:L s0=4096)(l1:L b=11)(h:HB1 274 11 3 b s0 λe d=>aUY c e d R):EB 272 [c, .a b] s0 R:=zB1 a9f aTC Tryz.func272 hs l1 h
def a5F:=I5 22 [(3,([6],[0,1])),(9,([8],[0,1,6,7])),(16,([8,9],[0,1,6]))]
def aRq a a1 s0 R:=(.mk _:NF<|zF GGV aYb a5F Tryz.f240 [a,a1] [] s0<|QDb Tryz.f240 R).p
def a7S{a a1:AV}{s0:ae}{R:be}(hs:L s0=4096)(h:aRq a a1 s0 R):EB 240 [a,a1] s0 R:=aTc<|zB a5F (aQ9 aTC) Tryz.func240 h
end
def aV6{fn:Nat}{xs:List AV}{Y:ae}{d:Nat}{K:be}{P:Value->Prop}(i:uQ.elem fn=U)(h:∃r b,((∃v,r= .s v/\P v)/\Fx Y b [])/\cZ aS GG fn xs Y r b)(g:∀v,P v->K (.s v) Y):cB fn xs Y d K:=by obtain⟨r,b,⟨⟨v,rfl,j⟩,c⟩,f⟩:=h;exact aS2 i ⟨_,b,⟨rfl,c⟩,f⟩<|g v j
section
variable{Y:ae}{e:TypeId}{z:Nat}{a:AV}{bA:List (List AV)}
theorem ixG{i:Int}{K:cC}(d:gp Y e z a bA)(c:aF (L bA) i)(h:∀b m,a= .m b (L bA)->box Y b=V ⟨e,z,U,I,bA++m⟩->K (.p b i.toNat 0)):rV (cz z Y a<|iv i) K:=by have f:=c.1;have g:=c.2;rcases d with⟨rfl,rfl⟩|⟨b,m,rfl,j⟩;grind;grind [cz,rV]
theorem stG{b:Id}{i:Nat}{cs:List AV}{K:ae->Prop}(c:box Y b=V ⟨e,z,U,I,bA⟩)(m:i<L bA)(n:∀r∈bA,L r=z)(k:L cs=z)(l:cs.all eN=U)(h:nrm (eR Y<|.a cs)= .a cs)(hI:eB (.a cs)=[])(g:∀Y',Fx Y Y' [b]->box Y' b=V ⟨e,z,U,I,bA.set i cs⟩->K Y'):sV (aK z Y (.p b i 0)<|.a cs) K:=by have d:bA[i]?=V bA[i]:=(by simp);have j:bA[i].length=z:=(by simp_all);have f:aK z Y (.p b i 0) (.a cs)=V (wr Y b ⟨e,z,U,I,bA.set i cs⟩):=(by simp only[aK,aBG,c,eE,brx,hI,kills,aRl,h,pW,eY,d];grind);rw[f];exact g _ (wc c)<|lO c
theorem aQz{b:Id}{i j:Nat}{x:AV}{r:List AV}{K:ae->Prop}(c:box Y b=V ⟨e,z,U,I,bA⟩)(h:bA[i]?=V r)(l:j<L r)(g:eY (nrm<|eR Y x)=V [nrm<|eR Y x])(k:eN (nrm<|eR Y x)=U)(hI:eB x=[])(f:∀Y',Fx Y Y' [b]->box Y' b=V ⟨e,z,U,I,bA.set i<|r.set j<|nrm<|eR Y x⟩->K Y'):sV (aK 1 Y (.p b i j) x) K:=by have d:aK 1 Y (.p b i j) x=V (wr Y b ⟨e,z,U,I,bA.set i<|r.set j<|nrm<|eR Y x⟩):=(by simp only[aK,aBG,c,eE,brx,hI,kills,aRl,pW,g,h,bZ,aO1];grind [GP]);rw[d];exact f _ (wc c)<|lO c
end
def bxL{e:TypeId}{z d:Nat}{cs:List AV}{Y:ae}{K:be}(h:L cs=z)(g:0<z)(b:d<L Y)(f:∀v Y',Fx Y Y' []->bK Y (d,v)->box Y' (d,v)=V ⟨e,z,U,U,[cs]⟩->K (.p (d,v) 0 0) Y'):eV (bxA e z Y d<|.a cs) K:=by have c:bxA e z Y d (.a cs)=V (.p (zt Y d) 0 0,put Y d ⟨e,z,U,U,[cs]⟩):=(by grind [bxA,eY,aRI]);rw[c];exact f _ _ (kH b) (qQ Y d)<|be7 b
def gfP{Y:ae}{b:Id}{T e:TypeId}{z ze j d by':Nat}{cs zs:List AV}{a:AV}{bA new:List (List AV)}{t o:Bool}{K:AV->be}(B:box Y b=V ⟨T,z,U,U,[cs]⟩)(G:j<L cs)(w:gp Y e ze a bA)(i:b∉aA a)(O:L zs=ze)(k:0<ze)(D:d<L Y)(M:∀r∈bA,L r=ze)(H:∀r∈new,L r=ze)(v:new≠[])(h:(L bA+L new)*(by'+1)<=1099511627776)(C:b.1≠d)(A:∀c Y',box Y' b=V ⟨T,z,U,U,[cs.set j c]⟩->bc Y' e ze c (bA++new)->Fx Y Y' (b::aA a)->(∀q∈aA c,bK Y q/\q.1=d)->K (.p b 0 j) c Y'):eV (Gy e zs by' Y d a<|.l new t o) λx s=>rV (iQ j s<|.p b 0 0) λy=>sV (aK 1 s y x) (K y x):=by refine qs w O k D M H v h λc Y' g F N=>?_;have f:=F.keep _ _ i B;have E:iQ j Y' (.p b 0 0)=V (.p b 0 j):=(by simp[iQ,f]);simp only[E,aY];refine A0 f g.p.ce G λn m u=>?_;have P:b∉aA c:=(by grind);refine A c n u (by grind [bc.fx]) ((F.trans m).mono λq R=>?_) N;grind
def bfa{α:Type}{l:List α}{x y:α}:(l++[x]).set (L l) y=l++[y]:=by simp
structure Wk(Y:ae)(b:Id)(p:aQl)(al:List NA)(n:Nat)(a s t:AV):Prop where
 bx:∃th:Int,box Y b=V ⟨305,6,U,U,[[sl w6.c p.bm0,sl aO6.c p.ay,iv th,a,s,t]]⟩
 ga:gp Y 274 11 a (al.map NA.c)
 gs:∃l:List ByteArray,gp Y 9 1 s (l.map cs)/\L l<=n
 gt:∃l:List ByteArray,gp Y 9 1 t (l.map cs)/\L l<=n
 la:L al<=6
 le:L Y=4096
 sb:b.1=60
 sa:∀q∈aA a,q.1=42
 ss:∀q∈aA s,q.1=204
 st:∀q∈aA t,q.1=262
section
variable{Y Y':ae}{b:Id}{p:aQl}{al:List NA}{n:Nat}{a s t:AV}
theorem Wk.fx{ks:List Id}(W:Wk Y b p al n a s t)(F:Fx Y Y' ks)(d:b∉ks)(e:∀q∈aA a,q∉ks)(f:∀q∈aA s,q∉ks)(h:∀q∈aA t,q∉ks):Wk Y' b p al n a s t:=by obtain⟨o,i⟩:=W.bx;obtain⟨l,g,j⟩:=W.gs;obtain⟨m,c,k⟩:=W.gt;exact⟨⟨o,F.keep _ _ d i⟩,W.ga.fx F e,⟨l,g.fx F f,j⟩,⟨m,c.fx F h,k⟩,W.la,F.len.trans W.le,W.sb,W.sa,W.ss,W.st⟩
theorem Wk.fx0(W:Wk Y b p al n a s t)(F:Fx Y Y' []):Wk Y' b p al n a s t:=(by grind [Wk.fx])
theorem Wk.mono{m:Nat}(W:Wk Y b p al n a s t)(h:n<=m):Wk Y b p al m a s t:=by obtain⟨l,g,e⟩:=W.gs;obtain⟨k,c,d⟩:=W.gt;exact⟨W.bx,W.ga,⟨l,g,by omega⟩,⟨k,c,by omega⟩,W.la,W.le,W.sb,W.sa,W.ss,W.st⟩
theorem ixL{i:Int}{K:cC}{α:Type}[Inhabited α]{f:α->List AV}{l:List α}{z:Nat}{e:TypeId}(d:gp Y e z a<|l.map f)(c:aF (L l) i)(w:∀x,L (f x)=z)(g:∀y,(∀q,vl q Y y=aN q (f<|gd l i.toNat))->(∀j q,rV (iQ j Y y) q=q (match y with| .p b k o=> .p b k (o+j)|y=>y))->K y):rV (cz z Y a<|iv i) K:=by refine ixG d (by grind) λb m v h=>g _ (λq=>?_) (λj q=>?_);have r:=c.1;have u:=c.2;grind [gd,List.getElem?_append_left,List.getElem?_eq_getElem,bT,vl,iE];simp[iQ,h,rV]
def bdi(W:Wk Y b p al n a s t)(x y:Int)(q:ByteArray):∃r c,((∃v,r= .s v/\∃u:Bool,v= .bool u)/\Fx Y c [])/\cZ aS GG 299 [.p b 0 0,iv x,iv y,st q] Y r c:=by refine bgM W.le ?_;simp only[aUX];refine yV (L al) (λ_ _ Y'=>Fx Y Y' []) (Fx.refl _ _) ?_;rintro k _ c B F;have e:=W.fx0 F;obtain⟨C,g⟩:=e.bx;have j:∀u Y',Fx Y Y' []->aNN (λr c=>(∃v,r= .s v/\∃u:Bool,v= .bool u)/\Fx Y c []) Y' [bv u]:=λu Y' d=>⟨⟨_,rfl,u,rfl⟩,d⟩;simp only[qz 19,qy 2,aI,au,qb g,u0,u1,g,pz,aj,e.ga.ln,bJ,↓uL];refine⟨λh=>?_,λ_=>j _ _ F⟩;have f:=aL h;refine ixL e.ga (dJ f) (λ_=>bit) λD o _=>?_;simp only[o,bh,pz,aY];refine aRA rfl bit (by decide) (by rw[e.le];decide) λv A l z m=>?_;have d:=F.trans l;simp+contextual only[qz 4,au,u0,u1,m,pz,aj,j _ _ d,wl,ip,↓uL];have w:=W.la;exactλ_=>dR (mk:=λ(_:Unit) i=>[iv i]) (s:=()) (s':=()) (λ_ _=>rfl) f (by omega) d
theorem aRE(W:Wk Y b p al n a s t){x y:Int}{c:ByteArray}{d:Nat}{K:be}(e:∀u:Bool,K (bv u) Y):cB 299 [.p b 0 0,iv x,iv y,st c] Y d K:=aV6 rfl (bdi W x y c) (by simp_all)
def aPr(Y:ae)(b:Id)(p:aQl)(al:List NA)(n:Nat)(a s t:AV)(r:AV)(c:ae):Prop:=∃(e:Int) (s' d:AV),r=iv e/\Wk c b p al (n+1) a s' d/\Fx Y c (b::(aA s++aA t))/\(∀q∈aA s',q∈aA s\/bK Y q)/\∀q∈aA d,q∈aA t\/bK Y q
theorem aPr.no(W:Wk Y b p al n a s t)(F:Fx Y Y' [])(e:Int):aPr Y b p al n a s t (iv e) Y':=⟨e,s,t,rfl,(W.fx0 F).mono (by omega),F.mono (by simp),λ_ h=> .inl h,λ_ h=> .inl h⟩
def bd6{Q:cC}:(∀r,(∃k:Int,r=iv k)->Q r)=∀k,Q (iv k):=a65
def a52{x:ByteArray}:aX zd9 1 Y [(0,st x)]=V (.l ([x].map cs) U U,Y):=iz
set_option maxHeartbeats 8000000 in
theorem bdl(W:Wk Y b p al n a s t)(O:PrB p){m:Nat}{x:NA}(hx:shS m x)(hn:n<100000):∃r Y1,aPr Y b p al n a s t r Y1/\cZ aS GG 272 [.p b 0 0, .a x.c] Y r Y1:=by have hw:=W;have ha:=hx.at;obtain⟨b1,B⟩:=b;obtain rfl:b1=60:=W.sb;refine bgN W.le bit λs2 v3 K2 a0 nf2 b3=>?_;have F2:Fx Y s2 []:=K2.fx [];have T:=W.fx0 F2;obtain⟨th,D⟩:=T.bx;have rp:∀{l:List AV},aN (V 2) (sl w6.c p.bm0::sl aO6.c p.ay::l)=V (.a p.c):=rfl;simp only[aUY,qy 4,qb D,u0,u1,D,rp,pz,aj,↓uL];refine anu T.le λv5 A E aQ b5=>?_;have f:=T.fx0 E;have X:=E.kq b3;have F:=F2.trans E;obtain⟨th,D⟩:=f.bx;have aZ:cO A (.p (60,B) 0 0)=V (.p (60,B) 0 0):=qb D;obtain⟨ls,N,aX⟩:=f.gs;obtain⟨lt,H,aY⟩:=f.gt;have aK:dG A s=sl Ab.cs ls:=N.ar;have aL:dG A t=sl Ab.cs lt:=H.ar;refine dT (by first|rfl|(simp[eL,okT,tok,lb,cq,Qh,gz,dC,pP,dK];done)) ?_;refine aRE f λtx=>?_;simp only[qz 8,↓uL];refine aRE f λaR=>?_;simp only[qz 10,↓uL];refine aRE f λlp=>?_;have dn:∀e:Int,aNN (aPr Y (60,B) p al n a s t) A [iv e]:=λe=>aPr.no W F e;have hI:∀y∈x.index,∃n,shE n y:=(by grind);have hX:x.op=1\/x.op=2\/x.op=3\/x.op=14->∃n,shE n x.expr:=(by grind);have an:=aTb (p:=λi=>Q<|(gd p.bm0 i).name=x.name) (n:=L p.bm0);have ah:(x.op=1\/x.op=2\/x.op=3\/x.op=4\/x.op=5\/x.op=6\/x.op=7\/x.op=8\/x.op=9\/x.op=10\/x.op=11\/x.op=12\/x.op=13\/x.op=14)\/(x.op≠1/\x.op≠2/\x.op≠3/\x.op≠4/\x.op≠5/\x.op≠6/\x.op≠7/\x.op≠8/\x.op≠9/\x.op≠10/\x.op≠11/\x.op≠12/\x.op≠13/\x.op≠14):=(by omega);have lock:∀(i j:Int) (d:Nat) (k:Int),gF (!tx) (λk=>cB 299 [AV.p (60,B) 0 0,iv i,iv j,st x.name] A d λax av=>k ax av) A λaz C=>rV (mL (bv tx) (bv U) az) λR=>fW aOS [dG C R] (lo C [R]) λS=>fW aOi [AV.s<|Value.int dq k,dG C S] (lo C [iv k,S]) λaB=>aNN (aPr Y (60,B) p al n a s t) C [aB]:=(by intro i j d k;(cases tx);simp only[kN,gF,bdZ];refine aRE f λu=>?_;simp only[u0,ar,aQU,dn,asq];simp only[gF,fh,bdT,aUw,u0,ar,aQU,dn,asq]);simp only[qz 12,u0,u1,X,pz,aj,↓uL];rcases ah with(h|h|h|h|h|h|h|h|h|h|h|h|h|h)|⟨g1,g2,g3,g4,g5,g6,g7,g8,g9,aT,aU,z,aV,aW⟩;(all_goals(try have am:=hX<|by omega);simp+contextual only[qz 309,qy 26,qz 311,qz 147,qy 20,qz 149,qz 105,qz 107,qz 75,qz 77,a7i,aI,au,u0,u1,rk,pz,ar,Fa,aQU,aj,rr,ixv,Gx, *,bj5,boY,Int.reduceEq,brW,↓iC,↓iB,aXX,bd6,wl,zp,eE,sr,aPy,aYF,↓uL]);intro h0 k;have:0<L x.index:=(by grind);exact⟨⟨by omega,by omega⟩,hI _<|ig this⟩;(any_goals intro k hk h0;have ap:k=0:=(by simp_all);refine⟨by have:=O.1;omega,⟨hk ap,an.2⟩,aRE f λu=>?_⟩;cases tx<;>cases u<;>simp+contextual only[qz 18,u0,u1,X,pz,aj,ar,aQU,dn,aUw,a7c,jA,jN,asq,↓uL]);intro k hk;refine⟨by have:=O.2.1;omega,λ_=>⟨by omega,λ_=>?_⟩⟩;simp only[a52,bQ];refine apQ N f.le oX oX (by simp) (by simp;omega) λs' aq z o af=>?_;have w:=o.keep _ _ (λg=>by have:=f.ss _ g;simp at this) D;simp only[qz 22,qb w,u0,u1,w,aj,↓uL];refine A0 w z.p.ce (by simp) λP v G=>?_;refine dT (by first|rfl|(simp[eL,okT,tok,lb,cq,Qh,gz,dC,pP,dK];done)) ?_;have M:∀q∈aA s',q∉[((60,B):Id)]:=(by grind);refine⟨0,s',t,rfl,⟨⟨th,G⟩,(f.ga.fx o<|λq g K=>by grind [Wk.sa,Wk.ss]).fx v (λq g e=>by grind [Wk.sa]),⟨ls++[x.name],by rw[dg];exact z.p.fx v M,by simp;omega⟩,⟨lt,(H.fx o<|λq g K=>by grind [Wk.st,Wk.ss]).fx v (λq g e=>by grind [Wk.st]),by omega⟩,f.la,v.len.trans<|o.len.trans f.le,rfl,f.sa,(by grind),f.st⟩,((F.trans o).trans v).mono<|λq g=> .inl ?_,(by grind [bK.old]),λq g=> .inl g⟩;grind;intro k _;have:=O.2.1;omega;(focus refineλk=>⟨λ_=>by omega,λ_=>?_,λ_=>?_⟩;all_goals simp only[a52,bQ];refine apQ H f.le oX oX (by simp) (by simp;omega) λt' aq z o af=>?_;have w:=o.keep _ _ (λg=>by have:=f.st _ g;simp at this) D;have Z:=o.keep _ _ (λg=>by have:=f.st _ g;simp at this) X;have d5:=o.keep _ _ (λg=>by have:=f.st _ g;simp at this) b5;simp only[qz 28,qb w,u0,u1,w,aj,↓uL];refine A0 w z.p.ce (by simp) λP v G=>?_;have Z:=v.kq Z;have d5:=v.kq d5;refine dT (by first|rfl|(simp[eL,okT,tok,lb,cq,Qh,gz,dC,pP,dK];done)) ?_;have M:∀q∈aA t',q∉[((60,B):Id)]:=(by grind);have ak:∀e:Int,aPr Y (60,B) p al n a s t (iv e) P:=(by intro e;refine⟨e,s,t',rfl,⟨⟨th,G⟩,(f.ga.fx o<|λq g K=>by grind [Wk.sa,Wk.st]).fx v (λq g e=>by grind [Wk.sa]),⟨ls,(N.fx o<|λq g K=>by grind [Wk.ss,Wk.st]).fx v (λq g e=>by grind [Wk.ss]),by omega⟩,⟨lt++[x.name],by rw[dg];exact z.p.fx v M,by simp;omega⟩,f.la,v.len.trans<|o.len.trans f.le,rfl,f.sa,f.ss,by grind⟩,((F.trans o).trans v).mono<|λq g=> .inl ?_,λq g=> .inl g,by grind [bK.old]⟩;grind);simp only[u0,u1,Z,d5,pz,aj,ar,Fa,aQU,O,am,rr,asq,↓uL];exactλ_=>ak _)
theorem baX(W:Wk Y b p al n a s t)(h:PrB p){m:Nat}{x:NA}(j:shS m x)(i:n<100000){d:Nat}{K:be}(v:∀(e:Int) (s' g:AV) f,Wk f b p al (n+1) a s' g->Fx Y f (b::(aA s++aA t))->(∀q∈aA s',q∈aA s\/bK Y q)->(∀q∈aA g,q∈aA t\/bK Y q)->K (iv e) f):cB 272 [.p b 0 0, .a x.c] Y d K:=by refine jH rfl (bdl W h j i) ?_;rintro r f ⟨e,s',g,rfl,k,l,o,u⟩;grind [Fx.len]
def bS:Nat->Nat|0=>0|m+1=>1+8*bS m
def aR9(Y:ae)(b:Id)(p:aQl)(al:List NA)(n:Nat)(a s t:AV)(r:AV)(c:ae):Prop:=∃(e l:Int) (d s' f:AV),r= .t [iv e,iv l]/\Wk c b p al n d s' f/\Fx Y c (b::(aA a++(aA s++aA t)))/\(∀q∈aA d,q∈aA a\/bK Y q)/\(∀q∈aA s',q∈aA s\/bK Y q)/\∀q∈aA f,q∈aA t\/bK Y q
theorem bc8(hB:PrB p):∀(m:Nat) {Y:ae} {al:List NA} {n:Nat} {a s t:AV} {l:List NA},Wk Y b p al n a s t->shL m 8 l->n+L l*bS m<100000->
  ∃r Y1,aR9 Y b p al (n+L l*bS m) a s t r Y1/\cZ aS GG 240 [.p b 0 0,sl NA.c l] Y r Y1:=by
 intro m
 induction m with
 |zero=>
  intro Y al n a s t l W hs hn
  have:l=[]:=List.eq_nil_iff_forall_not_mem.2 λx hx=>hs.2 x hx
  subst this
  refine a7S W.le ?_
  simp only[aRq]
  refine yV 0 (λ_ _ Y'=>Y'=Y) rfl ?_
  rintro k _ Y1 hk rfl
  simp only[qz 19,qy 2,aI,au,u0,u1,aO1,↓uL]
  refine⟨λh=>by simp at h;omega,λ_=>⟨0,0,a,s,t,rfl,W.mono (by omega),Fx.refl _ _,λ_ h=> .inl h,λ_ h=> .inl h,λ_ h=> .inl h⟩⟩
 |succ m ih=>
  intro Y al n a s t l W hs hn
  obtain⟨b1,g⟩:=b
  obtain rfl:b1=60:=W.sb
  refine a7S W.le ?_
  simp only[aRq]
  refine yV (L l) (λk _ Y'=>∃D s' F,Wk Y' (60,g) p al (n+k*bS (m+1)) D s' F/\Fx Y Y' ((60,g)::(aA a++(aA s++aA t)))/\(∀q∈aA D,q∈aA a\/bK Y q)/\(∀q∈aA s',q∈aA s\/bK Y q)/\∀q∈aA F,q∈aA t\/bK Y q) (by grind [Fx.refl]) ?_
  rintro k _ Y1 hk ⟨a1,s1,t1,W1,F1,i1,i2,i3⟩
  have b8:k*bS (m+1)<=L l*bS (m+1):=qo _ hk
  have aN:∀(e ln:Int) (D s' F:AV) Y',Wk Y' (60,g) p al (n+L l*bS (m+1)) D s' F->Fx Y Y' ((60,g)::(aA a++(aA s++aA t)))->(∀q∈aA D,q∈aA a\/bK Y q)->(∀q∈aA s',q∈aA s\/bK Y q)->(∀q∈aA F,q∈aA t\/bK Y q)->aNN (aR9 Y (60,g) p al (n+L l*bS (m+1)) a s t) Y' [iv e,iv ln]:=λe ln D s' F Y' h1 h2 h3 h4 h5=>⟨e,ln,D,s',F,rfl,h1,h2,h3,h4,h5⟩
  simp only[qz 19,qy 2,aI,au,u0,u1,ixv,bh,rr,pz,↓uL]
  refine⟨λh=>⟨u7 h,aRA rfl bit (by decide) (by rw[W1.le];decide) λv s2 F2 N2 aK=>?_⟩,by grind⟩
  have ao:=aL h
  have W2:=W1.fx0 F2
  have hx:=hs.2 _<|ig ao
  obtain⟨m',cn,g1,g2⟩:=hx.body
  obtain rfl:m=m':=by omega
  have bC:n+k*bS (m+1)+(1+8*bS m)<=n+L l*bS (m+1):=by
   have h9:(k+1)*bS (m+1)<=L l*bS (m+1):=qo _ ao
   grind [tN,bS]
  have n7:∀{D s' F:AV} {Y':ae} {bi:List NA} {n':Nat},Wk Y' (60,g) p bi n' D s' F->∀(v:Nat),((7,v):Id)∉((60,g):Id)::(aA D++(aA s'++aA F)):=λW v o=>by
   simp only[eW,dF,iK] at o
   rcases o with h|h|h|h
   ·omega
   ·have:=W.sa _ h;simp at this
   ·have:=W.ss _ h;simp at this
   ·have:=W.st _ h;simp at this
  generalize cp:gd l k=x at*
  simp only[qz 4,u0,u1,aK,pz,↓uL]
  refine baX W2 hB hx (by omega) λe s3 t3 Y3 z F3 j2 j3=>?_
  have b3:=F3.keep _ _ (λo=>n7 W2 v<|by simp only[eW,dF] at o⊢;rcases o with h|h|h;exact .inl h;exact .inr<|.inr<|.inl h;exact .inr<|.inr<|.inr h) aK
  have Z:Fx Y Y3 ((60,g)::(aA a++(aA s++aA t))):=((F1.trans F2).trans F3).mono (by grind [bK.no])
  have aQ:∀q∈aA s3,q∈aA s\/bK Y q:=(by grind [bK.old])
  have aR:∀q∈aA t3,q∈aA t\/bK Y q:=(by grind [bK.old])
  obtain⟨th,ah⟩:=z.bx
  have bn:=z.la
  have ew:dq.wrap ((L al:Int)+1)=((L al+1:Nat):Int):=fX (by omega)
  simp+contextual only[qz 6,a7i,qz 59,qz 57,qy 8,aI,au,qb ah,u0,u1,ah,aRV,bfx,aRa,z.ga.ln,bJ,b3,pz,aj,ew,Int.reduceEq,brW,byD,bj5,↓iC,↓uL]
  have ac:∀(e ln:Int),aNN (aR9 Y (60,g) p al (n+L l*bS (m+1)) a s t) Y3 [iv e,iv ln]:=λe ln=>aN e ln _ _ _ _ (z.mono<|by omega) Z i1 aQ aR
  refine⟨λ_=>ac _ _,λh6=>⟨λ_=>ac _ _,λ_=>?_⟩⟩
  have cm:L al+1<=6:=by grind
  have bq:aX brP 1 Y3 [(0,.a [iv 0,iv 0,sv [],sv [],.l [] U U,iv 0,iv 0,sv [],.l [] U U,.l [] U U,.l [] U U])]=V (.l [brP] U U,Y3):=by kernel_rfl
  simp only[bq,bQ]
  refine apQ z.ga z.le (qW λ_=>bit) (by simp) (by simp) (by simp;omega) λa4 Y4 g4 F4 N4=>?_
  rcases g4 with⟨h8,_⟩|⟨q,bm,o⟩
  ·simp at h8
  subst bm
  have aO:q.1=42:=(N4 q<|by simp[aA]).2
  have bu:=(N4 q<|by simp[aA]).1
  obtain⟨q1,q2⟩:=q
  simp only at aO
  subst aO
  have na:∀{u:Nat} {r:Nat},r≠42->((r,u):Id)∉aA a1:=λj o=>j<|z.sa _ o
  have b4:=F4.keep _ _ (na<|by decide) b3
  have bo:=F4.keep _ _ (na<|by decide) ah
  have aC:L (al.map NA.c++[brP])=L al+1:=by simp
  have br:∀{K:cC},K (.p (42,q2) (L al) 0)->rV (cz 11 Y4 (.m (42,q2)<|L<|al.map NA.c++[brP])<|iv (L al:Int)) K:=λ{K} hK=>by
   simp only[cz,Int.natCast_nonneg,aNV,o,aQd,bh,aC,Nat.lt_succ_self,asq,rV]
   exact hK
  simp only[qz 10,↓uL]
  refine br ?_
  refine stG o (by simp) (by intro r j;simp only[dF,dN,cE] at j;rcases j with⟨y,_,rfl⟩|rfl;exact bit;rfl) bit (by rw[a6X];rfl) (by rw[a6X];rfl) (by rw[a6X];rfl) λY5 F5 aP=>?_
  have aZ:(al.map NA.c++[brP]).set (L al) (NA.c x)=(al++[x]).map NA.c:=by
   have:=bfa (l:=al.map NA.c) (x:=brP) (y:=NA.c x)
   rw[bJ] at this
   rw[this];simp
  rw[aZ] at aP
  have b5:=F5.kq b4
  have T:=F5.kq bo
  simp only[qz 12,qb T,u0,u1,T,aj,↓uL]
  refine A0 T rfl (by simp) λY6 F6 bp=>?_
  have b6:=F6.kq b5
  have co:=F6.kq aP
  have bt:gz (.a x.c)=[]:=by rw[a6X];rfl
  refine dT (by simp only[lbV,aBG,T,o,aNV,eE,brx,Cz,RN,bt];simp[eL,lb,gz,dC,dK]) ?_
  have aa:Fx Y3 Y6 (aA a1++[(60,g)]):=((F4.trans F5).trans F6).mono λr j=>by
   simp only[dF,cE] at j⊢
   grind [bK.no]
  have a6:Fx Y Y6 ((60,g)::(aA a++(aA s++aA t))):=(Z.trans aa).mono λr j=>by
   rcases dF.1 j with h|h
   ·exact .inl h
   ·rcases dF.1 h with h|h
    ·rcases i1 r h with h|h
     ·grind
     ·exact .inr h.no
    grind
  have aM:∀r:Id,r.1≠42->r.1≠60->r∉aA a1++[((60,g):Id)]:=(by grind)
  obtain⟨ls,gs,an⟩:=z.gs
  obtain⟨lt,ag,S⟩:=z.gt
  have W6:Wk Y6 (60,g) p (al++[x]) (n+k*bS (m+1)+1) (.m (42,q2)<|L<|al.map NA.c++[brP]) s3 t3:=by
   refine⟨⟨th,bp⟩, .inr ⟨(42,q2),[],by simp,by grind⟩,⟨ls,gs.fx aa<|λr j=>aM r (by grind [Wk.ss])<|by grind [Wk.ss],an⟩,⟨lt,ag.fx aa<|λr j=>aM r (by grind [Wk.st])<|by grind [Wk.st],S⟩,by simp;omega,F6.len.trans<|F5.len.trans<|F4.len.trans z.le,rfl,by simp[aA],z.ss,z.st⟩
  have a2:bK Y (42,q2):=bu.old Z
  have ad:∀{B:ae} {N:Nat} {M E G:AV} {l':List NA} {d:Nat} {K:be},Wk B (60,g) p (al++[x]) N M E G->shL m 4 l'->N<=n+k*bS (m+1)+(1+4*bS m)->Fx Y B ((60,g)::(aA a++(aA s++aA t)))->(∀q∈aA M,q∈aA a\/bK Y q)->(∀q∈aA E,q∈aA s\/bK Y q)->(∀q∈aA G,q∈aA t\/bK Y q)->
    (∀(e ln:Int) (H s9 t9:AV) (C:ae),Wk C (60,g) p (al++[x]) (N+4*bS m) H s9 t9->Fx B C ((60,g)::(aA M++(aA E++aA G)))->Fx Y C ((60,g)::(aA a++(aA s++aA t)))->(∀q∈aA H,q∈aA a\/bK Y q)->(∀q∈aA s9,q∈aA s\/bK Y q)->(∀q∈aA t9,q∈aA t\/bK Y q)->K (.t [iv e,iv ln]) C)->cB 240 [.p (60,g) 0 0,sl NA.c l'] B d K:=by
   intro B N M E G l' d K A am hN X aw O P hK
   have h4:L l'*bS m<=4*bS m:=qo _ am.1
   refine jH rfl (ih A ⟨by have:=am.1;omega,am.2⟩<|by omega) ?_
   rintro r C ⟨e,ln,H,s9,t9,rfl,R,w,v1,v2,v3⟩
   refine⟨w.len,hK e ln H s9 t9 C (R.mono<|by omega) w ((X.trans w).mono λr j=>?_) (λq o=>(v1 q o).elim (aw q) λh=> .inr<|h.old X) (λq o=>(v2 q o).elim (O q) λh=> .inr<|h.old X)<|λq o=>(v3 q o).elim (P q) λh=> .inr<|h.old X⟩
   rcases dF.1 j with h|h
   ·exact .inl h
   ·simp only[eW,dF] at h⊢
    rcases h with h|h|h|h
    ·grind
    ·exact(aw r h).elim (by grind) λh=> .inr h.no
    ·exact(O r h).elim (by grind) λh=> .inr h.no
    ·exact(P r h).elim (by grind) λh=> .inr h.no
  simp only[u0,u1,b6,pz,aj,↓uL]
  refine ad W6 g1 (by omega) a6 (by simp[aA];exact .inr a2) aQ aR λe' ln H s9 t9 C R G9 w v1 v2 v3=>?_
  have b9:=G9.keep _ _ (n7 W6 v) b6
  simp only[qz 16,rr,aY,↓uL]
  refine bpD (λf=>∀(e ln:Int) {B:ae} {N:Nat} {M E G:AV},Wk B (60,g) p (al++[x]) N M E G->N<=n+k*bS (m+1)+(1+8*bS m)->Fx Y B ((60,g)::(aA a++(aA s++aA t)))->(∀q∈aA M,q∈aA a\/bK Y q)->(∀q∈aA E,q∈aA s\/bK Y q)->(∀q∈aA G,q∈aA t\/bK Y q)->f [iv e,iv ln] B) ?_ λf ap=>?_
  ·intro e ln B N M E G A hN X aw O P
   obtain⟨th,ak⟩:=A.bx
   have e1:dq.wrap (((L al+1:Nat):Int)-1)=(L al:Int):=by grind [eM]
   simp only[qz 99,aI,qb ak,u0,u1,ak,aRV,bfx,aRa,aj,A.ga.ln,bJ,a6G,bZ,aO1,e1,↓uL]
   refine slP A.ga (by omega) (by simp;omega) λH g9 i9=>?_
   have ht:((al++[x]).map NA.c).take ((L al:Int).toNat)=al.map NA.c:=by simp
   rw[ht] at g9
   refine A0 ak g9.ce (by simp) λC w b9=>?_
   have d9:∀r:Id,r.1≠60->r∉[((60,g):Id)]:=(by grind)
   obtain⟨ls,gs,an⟩:=A.gs
   obtain⟨lt,ag,S⟩:=A.gt
   have R:Wk C (60,g) p al N H E G:=⟨⟨th,b9⟩,g9.fx w<|λr j=>(by grind [Wk.sa]),⟨ls,gs.fx w<|λr j=>(by grind [Wk.ss]),an⟩,⟨lt,ag.fx w<|λr j=>(by grind [Wk.st]),S⟩,bn,w.len.trans A.le,rfl,λr j=>A.sa r<|i9▸j,A.ss,A.st⟩
   have aJ:Fx Y C ((60,g)::(aA a++(aA s++aA t))):=(X.trans w).mono λr j=>by
    rcases dF.1 j with h|h
    ·exact .inl h
    ·exact .inl (by simp at h;simp[h])
   have u9:∀q∈aA H,q∈aA a\/bK Y q:=(by grind)
   simp only[qz 20,au,u0,u1,↓uL]
   refine⟨λ_=>aN _ _ _ _ _ _ (R.mono<|by omega) aJ u9 O P,λ_=>?_⟩
   refine dR (mk:=λ(_:Unit) i=>[iv i]) (s:=()) (s':=()) (λ_ _=>rfl) ao (by have:=hs.1;omega) ⟨H,E,G,R.mono ?_,aJ,u9,O,P⟩
   grind [tN,bS]
  simp only[qz 101,u0,u1,b9,pz,aj,↓uL]
  refine⟨λ_=>?_,λ_=>ap _ _ R (by omega) w v1 v2 v3⟩
  refine ad R g2 (by omega) w v1 v2 v3 λe2 cq cl cr cs ck bd cj a5 w1 w2 w3=>?_
  simp only[qz 18,rr,aY]
  exact ap _ _ bd (by omega) a5 w1 w2 w3
theorem baR(i:PrB p){m:Nat}{l:List NA}(W:Wk Y b p al n a s t)(hs:shL m 8 l)(j:n+L l*bS m<100000){d:Nat}{K:be}(x:∀(e ln:Int) (g s' h:AV) f,Wk f b p al (n+L l*bS m) g s' h->Fx Y f (b::(aA a++(aA s++aA t)))->(∀q∈aA g,q∈aA a\/bK Y q)->(∀q∈aA s',q∈aA s\/bK Y q)->(∀q∈aA h,q∈aA t\/bK Y q)->K (.t [iv e,iv ln]) f):cB 240 [.p b 0 0,sl NA.c l] Y d K:=by refine jH rfl (bc8 i m W hs j) ?_;rintro r f ⟨e,ln,g,s',h,rfl,k,o,u,v,w⟩;grind [Fx.len]
end
def a7A:dO:=aYb
def a7k:eJ a7A:=aTC
def aWi:=@aQU
section
attribute[local irreducible] aX
def a87:=I5 37 [(18,([8,9],[1])),(28,([11],[1,10]))]
def a0x a b R:=(.mk _:NR a7A a87 Tryz.f188 [.u] [a] b R).p
def bgF{c0:List AV}{R:cC}(l0:L c0=2)(h:H1 196 2 1 c0 λia b=>a0x ia b R):Ct 188 [.a c0] R:=z1 a87 a7k Tryz.func188 l0 h
end
def bdo{p:aQl}(f:shP p):Ct 188 [.a p.c] aQ1:=by
 have g:=f.1
 have R:=g.1
 have h2:=g.2.1
 refine bgF rfl λs2 S j h0=>?_
 simp+contextual only[a0x,u0,u1,j,pz,aj,ar,Fa,aWi,f,R,g,rr,aO2,wl,↓uL]
 intros
 refine yh (λs:Int×Nat=>[iv s.1,iv s.2]) 1 (L p.ay) (λ_=>True) (0,0) trivial ?_
 rintro⟨c,k⟩ _
 simp+contextual only[qz 109,aI,au,u0,u1,j,rk,pz,aj,ixv,bh,ar,aWi,rr,aO2,wl,↓uL]
 refine⟨λh=>⟨u7 h,⟨4,(f.2.2 _<|ig<|aL h).2⟩,λx=>wN (enc:=λs:Int×Nat=>[iv s.1,iv s.2]) (s:=(c,k)) (s':=(_,k+1)) (by rw[fX<|by grind]) rfl rfl (aL h) trivial⟩,λ_ _=>?_⟩
 have z:bM bu1 [(0,2),(2,1),(3,1),(4,1),(5,1)] [(0, .a p.c)]=V (.a [sl w6.c p.bm0,sl aO6.c p.ay,iv 0, .l [] U U, .l [] U U, .l [] U U]):=rfl
 simp only[z,aY]
 refine bxL rfl (by decide) (by omega) λv F o N3 N=>?_
 have A:L F=4096:=o.len.trans S
 have W3:Wk F (60,v) p [] 0 (.l [] U U) (.l [] U U) (.l [] U U):=⟨⟨0,N⟩, .inl ⟨rfl,rfl⟩,⟨[], .inl ⟨rfl,rfl⟩,by simp⟩,⟨[], .inl ⟨rfl,rfl⟩,by simp⟩,by simp,A,rfl,by simp[aA],by simp[aA],by simp[aA]⟩
 have c3:=o.kq j
 refine yV (L p.ay) (λk _ Y=>∃a s t,Wk Y (60,v) p [] (k*10000) a s t/\box Y (1,1)=V ⟨196,2,U,U,[p.c]⟩) (by grind) ?_
 rintro k _ Y hk ⟨a,s,t,W,q⟩
 obtain⟨th,m⟩:=W.bx
 simp only[qz 169,aI,au,u0,u1,q,qb m,m,pz,aj,rr,aO2,wl,zp,↓uL]
 intro h
 have d:=aL h
 have E:=f.2.2 _<|ig d
 have ab:=f.2.1
 refine A0 m rfl (by simp) λX b O=>?_
 have u:=b.kq q
 have H:Wk X (60,v) p [] (k*10000) a s t:=by
  obtain⟨ls,w,B⟩:=W.gs
  obtain⟨T,y,n⟩:=W.gt
  have d9:∀r:Id,r.1≠60->r∉[((60,v):Id)]:=(by simp_all)
  exact⟨⟨k,O⟩,W.ga.fx b<|λr D=>(by grind [Wk.sa]),⟨ls,w.fx b<|λr D=>(by grind [Wk.ss]),B⟩,⟨T,y.fx b<|λr D=>(by grind [Wk.st]),n⟩,W.la,b.len.trans W.le,rfl,W.sa,W.ss,W.st⟩
 simp only[qz 6,u0,u1,u,rk,pz,aj,ixv,bh,↓uL]
 have aa:bS 4=585:=rfl
 have hm:L (gd p.ay k).body*bS 4<=8*bS 4:=qo _ E.2.1
 refine⟨dJ d,baR g H E.2 (by omega) λe ln M s' Z s5 K G _ _ _=>?_⟩
 have P:=G.keep _ _ (λC=>by
  simp only[eW,dF,iK] at C
  rcases C with h|h|h|h
  ·omega
  ·have:=W.sa _ h;simp at this
  ·have:=W.ss _ h;simp at this
  ·have:=W.st _ h;simp at this) u
 simp only[qz 8,au,u0,u1,rr,aO2,wl,ip,↓uL]
 exactλ_=>dR (mk:=λ(_:Unit) i=>[iv i]) (s:=()) (s':=()) (λ_ _=>rfl) d (by omega) ⟨M,s',Z,K.mono (by omega),P⟩
def a59{p:aQl}(f:shP p):∃x:Int×Int,Ct 188 [.a p.c] (·= .t [iv x.1,iv x.2]):=by obtain⟨r,⟨e,l,rfl⟩,b,d⟩:=bdo f;exact⟨(e,l),_,rfl,b,d⟩
noncomputable def chk(p:aQl):Int×Int:=@dite _ (shP p) (Classical.propDecidable _) (λh=>Classical.choose<|a59 h) λ_=>(0,0)
def aW1(p:aQl)(b:shP p):Ct 188 [.a p.c] (·= .t [iv (chk p).1,iv (chk p).2]):=by rw[chk,dif_pos b];exact Classical.choose_spec<|a59 b
def aRi:FT:=mT aW1
def bbJ{p Lw K}:=oK aRi aW1 p Lw K (j:=by simp+contextual only[ij,ijv])
def a7B:dO:=(188,aRi)::a7A
def aX4:eJ a7B:=sz (pg aW1)<|a7k
def aWj:=ai @bbJ<|@aWi
section
attribute[local irreducible] aX
def a9E:=I5 11 [(3,([0,2,10],[1,3]))]
def aSv a a1 b c s0 R:=(.mk _:NS a7B a9E Tryz.f242 [a,a1,b,c] [] s0 R).p
def a7U{a a1 b c:AV}{s0:ae}{R:be}(hs:L s0=4096)(h:aSv a a1 b c s0 R):EB 242 [a,a1,b,c] s0 R:=zB a9E aX4 Tryz.func242 h
def a9q:=I5 32 [(8,([6],[1,2,3])),(11,([],[1,2,3,6])),(14,([39],[1,2,3,6,7,31])),(17,([8],[1,2,3,6,7])),(21,([65],[1,2,3,6,7,31])),(26,([9],[1,2,3]))]
def a1P a b R:=(.mk _:NR a7B a9q Tryz.f189 [.u] [a] b R).p
def bgY{c0:List AV}{R:cC}(l0:L c0=2)(h:H1 196 2 1 c0 λia b=>a1P ia b R):Ct 189 [.a c0] R:=z1 a9q aX4 Tryz.func189 l0 h
end
def SiR(Y:ae)(a:AV)(N:Nat)(r:AV)(d:ae):Prop:=∃(a':AV) (e:Int) (l':List dL),r= .t [a',iv e]/\gp d 181 3 a' (l'.map dL.c)/\L l'<=N/\Fx Y d (aA a)/\(∀q∈aA a',q∈aA a\/bK Y q)/\∀q∈aA a',q∈aA a\/q.1=27
def bdu(u:Int):∀(m:Nat) {Y:ae} {a:AV} {n:Int} {l:List dL} {st:List NA},L Y=4096->gp Y 181 3 a (l.map dL.c)->shL m 8 st->L l+L st*bS m<100000->
  ∃r f,SiR Y a (L l+L st*bS m) r f/\cZ aS GG 242 [a,iv u,iv n,sl NA.c st] Y r f:=by
 intro m
 induction m with
 |zero=>
  intro Y a n l st y g hs hn
  have:st=[]:=List.eq_nil_iff_forall_not_mem.2 λx O=>hs.2 x O
  subst this
  refine a7U y ?_
  simp only[aSv]
  refine jD (α:=AV×Int) (λs i=>[s.1,iv s.2,iv i]) 2 0 (λ_ s Y'=>Y'=Y/\s.1=a) (s0:=(a,n)) ⟨rfl,rfl⟩ ?_
  rintro k ⟨a',n'⟩ f hk ⟨rfl,rfl⟩
  simp only[qz 19,qy 2,aI,au,u0,u1,aO1,↓uL]
  exact⟨λh=>by simp at h;omega,λ_=>⟨_,_,l,rfl,g,by omega,Fx.refl _ _,λ_ h=> .inl h,λ_ h=> .inl h⟩⟩
 |succ m ih=>
  intro Y a n l st y g hs hn
  refine a7U y ?_
  simp only[aSv]
  refine jD (α:=AV×Int) (λs i=>[s.1,iv s.2,iv i]) 2 (L st) (λk s Y'=>∃l':List dL,gp Y' 181 3 s.1 (l'.map dL.c)/\L l'<=L l+k*bS (m+1)/\Fx Y Y' (aA a)/\(∀q∈aA s.1,q∈aA a\/bK Y q)/\∀q∈aA s.1,q∈aA a\/q.1=27) (s0:=(a,n)) (by grind [Fx.refl]) ?_
  rintro k ⟨a1,o⟩ f hk ⟨l1,g1,aB,M,i1,p1⟩
  simp only at g1 i1 p1
  have z:L f=4096:=M.len.trans y
  simp only[qz 19,qy 2,aI,au,u0,u1,ixv,bh,rk,pz,↓uL]
  refine⟨λh=>⟨u7 h,?_⟩,λh=>⟨a1,o,l1,rfl,g1,by grind,M,i1,p1⟩⟩
  have e:=aL h
  have O:=hs.2 _<|ig e
  obtain⟨m',aE,b1,b2⟩:=O.body
  obtain rfl:m=m':=by omega
  have ag:L l+k*bS (m+1)+(1+8*bS m)<=L l+L st*bS (m+1):=by
   have h9:(k+1)*bS (m+1)<=L st*bS (m+1):=qo _ e
   grind [bS]
  generalize H:gd st k=x at*
  have X:bM bt1 aon [(0,iv u),(1,iv o),(2,iv x.line)]=V (.a<|dL.c ⟨u,o,x.line⟩):=rfl
  have Z:aX btT 1 f [(0, .a<|dL.c ⟨u,o,x.line⟩)]=V (.l ([(⟨u,o,x.line⟩:dL)].map dL.c) U U,f):=ua rfl rfl rfl (by decide) rfl (by decide)
  simp only[X,aY,Z,bQ]
  refine apQ g1 z (by grind [dL.c]) (by grind [dL.c]) (by simp) (by simp;omega) λa2 T W R N2=>?_
  have aq:L T=4096:=R.len.trans z
  rw[<-dg] at W
  have P:Fx Y T (aA a):=(M.trans R).mono (by grind [bK.no])
  have v:∀{D:ae} {a3:AV} {n3:Int} {E:List dL} {G:List NA} {d:Nat} {K:be},gp D 181 3 a3 (E.map dL.c)->shL m 4 G->L E<=L l+k*bS (m+1)+(1+4*bS m)->Fx Y D (aA a)->(∀q∈aA a3,q∈aA a\/bK Y q)->(∀q∈aA a3,q∈aA a\/q.1=27)->
    (∀(a4:AV) (F:Int) (B:List dL) (j:ae),gp j 181 3 a4 (B.map dL.c)->L B<=L E+4*bS m->Fx Y j (aA a)->(∀q∈aA a4,q∈aA a\/bK Y q)->(∀q∈aA a4,q∈aA a\/q.1=27)->K (.t [a4,iv F]) j)->cB 242 [a3,iv u,iv n3,sl NA.c G] D d K:=by
   intro D a3 n3 E G d K g3 A aC S i3 p3 hK
   have h4:L G*bS m<=4*bS m:=qo _ A.1
   refine jH rfl (ih (S.len.trans y) g3 ⟨by have:=A.1;omega,A.2⟩<|by omega) ?_
   rintro r j ⟨a4,F,B,rfl,N,aa,C,i4,p4⟩
   exact⟨C.len,hK a4 F B j N (by omega) ((S.trans C).mono<|by grind [bK.no]) (by grind [bK.old])<|by grind⟩
  simp only[qz 4,au,u0,u1,ixv,bh,rk,pz,H,↓uL]
  refine⟨dJ e,v W.p b1 (by simp;omega) P (by grind [bK.old]) (by grind) λa4 F B j N aa C i4 p4=>?_⟩
  simp only[qz 6,au,rr,u0,u1,ixv,bh,pz,H,↓uL]
  refine⟨dJ e,v N b2 (by grind) C i4 p4 λa5 n5 l5 Y5 g5 aD F5 i5 p5=>?_⟩
  simp only[qz 8,au,rr,u0,u1,↓uL]
  refine dR (mk:=λ(s:AV×Int) i=>[s.1,iv s.2,iv i]) (s:=(a1,o)) (s':=(a5,n5)) (λ_ _=>rfl) e (by have:=hs.1;omega) ⟨l5,g5,?_,F5,i5,p5⟩
  grind [bS]
structure Wo(Y:ae)(b:Id)(w:J9)(a0 a1 a2 a3 a4 a5:AV):Prop where
 bx:box Y b=V ⟨31,6,U,U,[[a0,a1,a2,a3,a4,a5]]⟩
 g0:gp Y 175 5 a0 (w.cells.map cA.c)
 g1:gp Y 177 2 a1 (w.ak.map dS.c)
 g2:gp Y 179 2 a2 (w.bC.map aOw.c)
 g3:gp Y 9 1 a3 (w.bU.map cs)
 g4:gp Y 9 1 a4 (w.ay.map cs)
 g5:gp Y 181 3 a5 (w.dU.map dL.c)
 p0:∀q∈aA a0,q.1=63
 p1:∀q∈aA a1,q.1=77
 p2:∀q∈aA a2,q.1=92
 p3:∀q∈aA a3,q.1=37
 p4:∀q∈aA a4,q.1=110
 p5:∀q∈aA a5,q.1=27
 sb:b.1=3
 le:L Y=4096
section
variable{Y Y':ae}{b:Id}{w:J9}{a0 a1 a2 a3 a4 a5 a':AV}
theorem Wo.fx0(W:Wo Y b w a0 a1 a2 a3 a4 a5)(F:Fx Y Y' []):Wo Y' b w a0 a1 a2 a3 a4 a5:=⟨F.kq W.bx,W.g0.fx F (by simp),W.g1.fx F (by simp),W.g2.fx F (by simp),W.g3.fx F (by simp),W.g4.fx F (by simp),W.g5.fx F (by simp),W.p0,W.p1,W.p2,W.p3,W.p4,W.p5,W.sb,F.len.trans W.le⟩
theorem Wo.up0{new:List cA}(W:Wo Y b w a0 a1 a2 a3 a4 a5)(e:box Y' b=V ⟨31,6,U,U,[[a',a1,a2,a3,a4,a5]]⟩)(g:bc Y' 175 5 a'<|(w.cells++new).map cA.c)(F:Fx Y Y' (b::aA a0))(N:∀q∈aA a',bK Y q/\q.1=63):Wo Y' b {w with cells:=w.cells++new} a' a1 a2 a3 a4 a5:=by have d:∀q:Id,q.1≠3->q.1≠63->q∉b::aA a0:=λq f h a=>(by grind [Wo.sb,Wo.p0]);exact⟨e,g.p,W.g1.fx F<|λq a=>(by grind [Wo.p1]),W.g2.fx F<|λq a=>(by grind [Wo.p2]),W.g3.fx F<|λq a=>(by grind [Wo.p3]),W.g4.fx F<|λq a=>(by grind [Wo.p4]),W.g5.fx F<|λq a=>(by grind [Wo.p5]),(by grind),W.p1,W.p2,W.p3,W.p4,W.p5,W.sb,F.len.trans W.le⟩
theorem Wo.up1{new:List dS}(W:Wo Y b w a0 a1 a2 a3 a4 a5)(e:box Y' b=V ⟨31,6,U,U,[[a0,a',a2,a3,a4,a5]]⟩)(g:bc Y' 177 2 a'<|(w.ak++new).map dS.c)(F:Fx Y Y' (b::aA a1))(N:∀q∈aA a',bK Y q/\q.1=77):Wo Y' b {w with ak:=w.ak++new} a0 a' a2 a3 a4 a5:=by have d:∀q:Id,q.1≠3->q.1≠77->q∉b::aA a1:=λq f h a=>(by grind [Wo.sb,Wo.p1]);exact⟨e,W.g0.fx F<|λq a=>(by grind [Wo.p0]),g.p,W.g2.fx F<|λq a=>(by grind [Wo.p2]),W.g3.fx F<|λq a=>(by grind [Wo.p3]),W.g4.fx F<|λq a=>(by grind [Wo.p4]),W.g5.fx F<|λq a=>(by grind [Wo.p5]),W.p0,(by grind),W.p2,W.p3,W.p4,W.p5,W.sb,F.len.trans W.le⟩
theorem Wo.up2{new:List aOw}(W:Wo Y b w a0 a1 a2 a3 a4 a5)(e:box Y' b=V ⟨31,6,U,U,[[a0,a1,a',a3,a4,a5]]⟩)(g:bc Y' 179 2 a'<|(w.bC++new).map aOw.c)(F:Fx Y Y' (b::aA a2))(N:∀q∈aA a',bK Y q/\q.1=92):Wo Y' b {w with bC:=w.bC++new} a0 a1 a' a3 a4 a5:=by have d:∀q:Id,q.1≠3->q.1≠92->q∉b::aA a2:=λq f h a=>(by grind [Wo.sb,Wo.p2]);exact⟨e,W.g0.fx F<|λq a=>(by grind [Wo.p0]),W.g1.fx F<|λq a=>(by grind [Wo.p1]),g.p,W.g3.fx F<|λq a=>(by grind [Wo.p3]),W.g4.fx F<|λq a=>(by grind [Wo.p4]),W.g5.fx F<|λq a=>(by grind [Wo.p5]),W.p0,W.p1,(by grind),W.p3,W.p4,W.p5,W.sb,F.len.trans W.le⟩
theorem Wo.up3{new:List ByteArray}(W:Wo Y b w a0 a1 a2 a3 a4 a5)(c:box Y' b=V ⟨31,6,U,U,[[a0,a1,a2,a',a4,a5]]⟩)(g:bc Y' 9 1 a'<|(w.bU++new).map cs)(F:Fx Y Y' (b::aA a3))(N:∀q∈aA a',bK Y q/\q.1=37):Wo Y' b {w with bU:=w.bU++new} a0 a1 a2 a' a4 a5:=by have d:∀q:Id,q.1≠3->q.1≠37->q∉b::aA a3:=λq e f a=>(by grind [Wo.sb,Wo.p3]);exact⟨c,W.g0.fx F<|λq a=>(by grind [Wo.p0]),W.g1.fx F<|λq a=>(by grind [Wo.p1]),W.g2.fx F<|λq a=>(by grind [Wo.p2]),g.p,W.g4.fx F<|λq a=>(by grind [Wo.p4]),W.g5.fx F<|λq a=>(by grind [Wo.p5]),W.p0,W.p1,W.p2,(by grind),W.p4,W.p5,W.sb,F.len.trans W.le⟩
theorem Wo.up4{new:List ByteArray}(W:Wo Y b w a0 a1 a2 a3 a4 a5)(c:box Y' b=V ⟨31,6,U,U,[[a0,a1,a2,a3,a',a5]]⟩)(g:bc Y' 9 1 a'<|(w.ay++new).map cs)(F:Fx Y Y' (b::aA a4))(N:∀q∈aA a',bK Y q/\q.1=110):Wo Y' b {w with ay:=w.ay++new} a0 a1 a2 a3 a' a5:=by have d:∀q:Id,q.1≠3->q.1≠110->q∉b::aA a4:=λq e f a=>(by grind [Wo.sb,Wo.p4]);exact⟨c,W.g0.fx F<|λq a=>(by grind [Wo.p0]),W.g1.fx F<|λq a=>(by grind [Wo.p1]),W.g2.fx F<|λq a=>(by grind [Wo.p2]),W.g3.fx F<|λq a=>(by grind [Wo.p3]),g.p,W.g5.fx F<|λq a=>(by grind [Wo.p5]),W.p0,W.p1,W.p2,W.p3,(by grind),W.p5,W.sb,F.len.trans W.le⟩
end
def WBd(w:J9):Prop:=L w.cells<100000/\L w.ak<100000/\L w.bC<100000/\L w.bU<100000/\L w.ay<100000/\L w.dU<100000
def bbe:∀k,k<9->(gd aNF k).size<=4:=by decide
def rwW{a b c d e f:AV}:aN (V 6) [a,b,c,d,e,f]=V (.a [a,b,c,d,e,f]):=rfl
def aXi(p:aQl)(hp:shP p/\p.bm0=aNF):Ct 189 [.a p.c] (λr=>∃w:J9,r= .a w.c/\WBd w/\((chk p).1=0->∃c∈w.cells,c.name=qN)):=by
 obtain⟨hp,hd⟩:=hp
 refine aDq (bgY rfl λs2 hl b1 h0=>?_)
 simp only[a1P,qy 4]
 refine ic hl λv2 s4 F4 N4 b2=>?_
 have aB:L s4=4096:=F4.len.trans hl
 refine ic aB λC s6 F6 N6 H=>?_
 have c1:=F6.kq<|F4.kq b1
 have c2:=F6.kq b2
 have bB:L s6=4096:=F6.len.trans aB
 have W6:Wo s6 (3,C) ⟨[],[],[],[],[],[]⟩ (.l [] U U) (.l [] U U) (.l [] U U) (.l [] U U) (.l [] U U) (.l [] U U):=⟨H, .inl ⟨rfl,rfl⟩, .inl ⟨rfl,rfl⟩, .inl ⟨rfl,rfl⟩, .inl ⟨rfl,rfl⟩, .inl ⟨rfl,rfl⟩, .inl ⟨rfl,rfl⟩,by simp[aA],by simp[aA],by simp[aA],by simp[aA],by simp[aA],by simp[aA],rfl,bB⟩
 have aT:∀{Y:ae} {w:J9} {a0 a1 a2 a3 a4 a5:AV} {r:List AV},Wo Y (3,C) w a0 a1 a2 a3 a4 a5->box Y (2,v2)=V ⟨31,6,U,U,[r]⟩->L r=6->WBd w->((chk p).1=0->∃c∈w.cells,c.name=qN)->
   aw 6 Y (.p (3,C) 0 0) λt=>sV (aK 6 Y (.p (2,v2) 0 0) t) λaF=>aw 6 aF (.p (2,v2) 0 0) λbd=>aE (λr=>∃w:J9,bm1 r= .a w.c/\WBd w/\((chk p).1=0->∃c∈w.cells,c.name=qN)) aF [bd]:=by
  intro Y w a0 a1 a2 a3 a4 a5 r W hb hr hB y
  simp only[aC5,W.bx,aww,aBF,df,axE,awx,rwW,aY,↓uL]
  refine r9 hb hr rfl λY' F b'=>?_
  simp only[b',aww,aBF,df,awx,rwW,aY]
  have d:∀q:Id,q.1≠2->q∉[((2,v2):Id)]:=(by simp_all)
  refine aOv (Q:=λr=>∃w:J9,r= .a w.c/\WBd w/\((chk p).1=0->∃c∈w.cells,c.name=qN)) (v':= .a w.c) ?_ rfl ⟨w,rfl,hB,y⟩
  simp only[fzT,ji,mU,aBr<|W.g0.fx F λq y=>(by grind [Wo.p0]),aBr<|W.g1.fx F λq y=>(by grind [Wo.p1]),aBr<|W.g2.fx F λq y=>(by grind [Wo.p2]),aBr<|W.g3.fx F λq y=>(by grind [Wo.p3]),aBr<|W.g4.fx F λq y=>(by grind [Wo.p4]),aBr<|W.g5.fx F λq y=>(by grind [Wo.p5])]
  rfl
 simp+contextual only[qz 6,qy 8,u0,u1,c1,pz,ar,Fa,aWj,hp,rr,↓uL]
 refine⟨λbD=>aT W6 c2 rfl (by simp[WBd]) (λh=>by simp[h] at bD),λck=>?_⟩
 have h9:L p.bm0=9:=by rw[hd];rfl
 obtain⟨Inv,ax⟩:∃g:Nat->Unit->ae->Prop,g=λk _ Y=>∃(w:J9) (a0 a1 a2 a3 a4 a5:AV) (r:List AV),Wo Y (3,C) w a0 a1 a2 a3 a4 a5/\box Y (1,1)=V ⟨196,2,U,U,[p.c]⟩/\box Y (2,v2)=V ⟨31,6,U,U,[r]⟩/\L r=6/\L w.cells<=4*k/\L w.ak<=k/\L w.bC<=k/\L w.bU<=k/\w.ay=[]/\w.dU=[]/\(3<k->∃c∈w.cells,c.name=qN):=⟨_,rfl⟩
 refine yV (L p.bm0) Inv (by rw[ax];exact⟨_,_,_,_,_,_,_,_,W6,c1,c2,rfl,by simp,by simp,by simp,by simp,rfl,rfl,by simp⟩) ?_
 rintro k _ Y hk hi
 rw[ax] at hi
 obtain⟨w,a0,a1,a2,a3,a4,a5,r,W,d1,d2,hr,n0,n1,n2,n3,n4,n5,y⟩:=hi
 simp only[qz 49,aI,au,u0,u1,d1,rk,pz,aj,↓uL]
 refine⟨λh=>bsK (λe=>∀{Y':ae} {X:J9} {x0 x1 x2 x3 x4 x5:AV},Wo Y' (3,C) X x0 x1 x2 x3 x4 x5->box Y' (1,1)=V ⟨196,2,U,U,[p.c]⟩->box Y' (2,v2)=V ⟨31,6,U,U,[r]⟩->L X.cells<=4*(k+1)->L X.ak<=k+1->L X.bC<=k+1->L X.bU<=k+1->X.ay=[]->X.dU=[]->(3<k+1->∃c∈X.cells,c.name=qN)->e [] Y') ?_ λe af=>?_,λh=>?_⟩
 ·intro Y' X x0 x1 x2 x3 x4 x5 g1 g2 A g4 g5 g6 g7 g8 g9 ch
  simp only[qz 69,aI,au,u0,u1,↓uL]
  exact dR (mk:=λ(_:Unit) i=>[iv i]) (s:=()) (s':=()) (λ_ _=>rfl) (aL h) (by omega) (by grind)
 ·simp only[qz 71,qy 10,u0,u1,d1,rk,pz,aj,ixv,bh,↓uL]
  refine⟨u7 h,anu W.le λv7 R F1 N1 e7=>?_⟩
  have ac:=aL h
  have o:=W.fx0 F1
  have e1:=F1.kq d1
  have e2:=F1.kq d2
  have co:(gd p.bm0 k).size<=4:=by rw[hd];exact bbe k (by omega)
  have cn:k=3->(gd p.bm0 k).kind=1/\(gd p.bm0 k).name=qN:=by rintro rfl;rw[hd];exact⟨rfl,rfl⟩
  generalize cj:gd p.bm0 k=m at*
  have ep:∀{Y':ae} {j:Nat} {a:AV} {T z:Nat} {bq:Bool} {rs:List (List AV)} {q:Id},Fx R Y' ((3,C)::aA a)->(∀q∈aA a,q.1=j)->q.1≠3->q.1≠j->box R q=V ⟨T,z,U,bq,rs⟩->box Y' q=V ⟨T,z,U,bq,rs⟩:=λF hj E cl hb=>F.keep _ _ (by grind) hb
  have nb:∀{a:AV} {j:Nat},(∀q∈aA a,q.1=j)->j≠3->((3,C):Id)∉aA a:=(by grind)
  have ad:k≠3->3<k+1->∃c∈w.cells,c.name=qN:=(by grind)
  have bs:dG R a1=sl dS.c w.ak:=o.g1.ar
  have N:∀{a:AV} {j:Nat},(∀q∈aA a,q.1=j)->∀q:Id,q.1≠3->q.1≠j->q∉((3,C):Id)::aA a:=(by grind)
  have kc:(m.kind=1\/m.kind=2)\/(m.kind=3\/m.kind=4)\/m.kind=5\/(m.kind≠1/\m.kind≠2/\m.kind≠3/\m.kind≠4/\m.kind≠5):=by omega
  have az:m.kind≠1->k≠3:=(by omega)
  rcases kc with h|h|h|⟨h1,h2,E,h4,h5⟩
  ·rcases h with h|h
   all_goals
    simp only[qz 12,a7i,qz 89,qz 87,qz 131,qz 129,qy 20,qy 26,qy 32,aI,au,u0,u1,e7,o.bx,pz,aj,ar,eE,sr,aPy,aYF,zp,h,bj5,boY,Int.reduceEq,↓iC,↓iB,↓uL]
    obtain⟨M,hM⟩:∃M:Int,M=if 1>m.size then 1 else m.size:=⟨_,rfl⟩
    have ci:1<=M/\M<=4:=by omega
    refine yV M.toNat (λS _ Y'=>∃(new:List cA) (x0:AV),Wo Y' (3,C) {w with cells:=w.cells++new} x0 a1 a2 a3 a4 a5/\box Y' (1,1)=V ⟨196,2,U,U,[p.c]⟩/\box Y' (2,v2)=V ⟨31,6,U,U,[r]⟩/\box Y' (7,v7)=V ⟨308,6,U,U,[m.c]⟩/\L new=S/\(0<S->∃c∈new,c.name=m.name)) ⟨[],a0,by simpa using o,e1,e2,e7,rfl,by simp⟩ ?_
    rintro S _ Y2 cm ⟨new,x0,v,f1,f2,f7,bb,bF⟩
    simp only[qz 103,qy 14,aI,au,u0,u1,f7,v.bx,pz,aj,aRW,<-hM,↓uL]
    refine⟨λh2=>?_,λh2=>?_⟩
    ·have ba:S<M.toNat:=by grind
     have Z:bM bsR aOs [(0,st m.name),(1,iv S),(2,iv m.size),(3,bv<|Q<|m.kind=2),(4,iv m.init)]=V (.a<|cA.c ⟨m.name,S,m.size,Q<|m.kind=2,m.init⟩):=rfl
     have D:∀{x:cA},aX btQ 1 Y2 [(0, .a<|cA.c x)]=V (.l ([x].map cA.c) U U,Y2):=λ{x}=>ua rfl rfl rfl (by decide) rfl (by decide)
     simp only[Z,aY,D,bQ,↓uL]
     refine gfP (j:=0) v.bx (by simp) v.g0 (nb v.p0<|by decide) rfl (by decide) (by rw[v.le];decide) (qW (f:=cA.c) (z:=5) λ_=>rfl) (qW (f:=cA.c) (z:=5) λ_=>rfl) (by simp) (by simp;omega) (by simp) λa' Y3 H A u P=>?_
     simp only[qz 18,au,u0,u1,↓uL]
     rw[<-dg] at A
     have N:∀{q:Id},q.1≠3->q.1≠63->q∉((3,C):Id)::aA x0:=λE br y=>by
      rcases eW.1 y with h|h
      ·rw[h] at E;exact E rfl
      ·exact br (v.p0 _ h)
     have B:=v.up0 (new:=[⟨m.name,S,m.size,Q<|m.kind=2,m.init⟩]) H A u P
     refine dR (mk:=λ(_:Unit) i=>[iv i]) (s:=()) (s':=()) (λ_ _=>rfl) ba (by omega) ⟨new++[⟨m.name,S,m.size,Q<|m.kind=2,m.init⟩],a',by grind,u.keep _ _ (by grind) f1,u.keep _ _ (by grind) f2,u.keep _ _ (by grind) f7,by simp[bb],by simp⟩
    ·have cc:S=M.toNat:=by grind
     refine af v f1 f2 (by simp;omega) (by grind) (by grind) (by grind) n4 n5 λE=>?_
     by_cases h4:k=3
     ·obtain⟨c,hc,bt⟩:=bF (by omega)
      grind
     ·obtain⟨c,hc,bt⟩:=ad h4 E
      grind
  ·have E:=az (by omega)
   rcases h with h|h
   all_goals
    simp only[qz 12,a7i,qz 89,qz 87,qz 131,qz 129,qy 20,qy 26,qy 32,aI,au,u0,u1,e7,o.bx,pz,aj,ar,eE,sr,aPy,aYF,zp,h,bj5,boY,Int.reduceEq,↓iC,↓iB,↓uL]
    have Z:∀{rw:Bool},bM btf brF [(0,st m.name),(1,bv rw)]=V (.a<|dS.c ⟨m.name,rw⟩):=λ{rw}=>rfl
    have D:∀{x:dS},aX btR 1 R [(0, .a<|dS.c x)]=V (.l ([x].map dS.c) U U,R):=λ{x}=>ua rfl rfl rfl (by decide) rfl (by decide)
    simp only[Z,aY,D,bQ]
    refine gfP (j:=1) o.bx (by simp) o.g1 (nb o.p1<|by decide) rfl (by decide) (by rw[o.le];decide) (qW (f:=dS.c) (z:=2) λ_=>rfl) (qW (f:=dS.c) (z:=2) λ_=>rfl) (by simp) (by simp;omega) (by simp) λa' Y3 H A u P=>?_
    rw[<-dg] at A
    exact af (o.up1 (new:=[⟨m.name,_⟩]) H A u P) (u.keep _ _ (N o.p1 _ (by simp)<|by simp) e1) (u.keep _ _ (N o.p1 _ (by simp)<|by simp) e2) (by grind) (by simp;omega) (by grind) (by grind) n4 n5<|ad E
  ·have E:=az (by omega)
   simp only[qz 12,a7i,qz 89,qz 87,qz 131,qz 129,qy 20,qy 26,qy 32,aI,au,u0,u1,e7,o.bx,pz,aj,bs,ar,aWj,rr,eE,aPy,aYF,h,bj5,boY,Int.reduceEq,↓iC,↓iB,↓uL]
   refine⟨by omega,λx=>?_⟩
   have Z:bM bt0 brF [(0,st m.name),(1,iv x)]=V (.a<|aOw.c ⟨m.name,x⟩):=rfl
   have D:∀{x:aOw},aX btS 1 R [(0, .a<|aOw.c x)]=V (.l ([x].map aOw.c) U U,R):=λ{x}=>ua rfl rfl rfl (by decide) rfl (by decide)
   simp only[Z,aY,D,bQ]
   refine gfP (j:=2) o.bx (by simp) o.g2 (nb o.p2<|by decide) rfl (by decide) (by rw[o.le];decide) (qW (f:=aOw.c) (z:=2) λ_=>rfl) (qW (f:=aOw.c) (z:=2) λ_=>rfl) (by simp) (by simp;omega) (by simp) λa' Y3 H A u P=>?_
   rw[<-dg] at A
   simp only[qz 30,↓uL]
   refine dT (by first|rfl|(simp[eL,okT,tok,lb,cq,Qh,gz,dC,pP,dK];done)) ?_
   exact af (o.up2 (new:=[⟨m.name,x⟩]) H A u P) (u.keep _ _ (N o.p2 _ (by simp)<|by simp) e1) (u.keep _ _ (N o.p2 _ (by simp)<|by simp) e2) (by grind) (by grind) (by simp;omega) (by grind) n4 n5<|ad E
  ·simp only[qz 12,a7i,qz 89,qz 87,qz 131,qz 129,qy 20,qy 26,qy 32,aI,au,u0,u1,e7,o.bx,pz,aj,ar,eE,aPy,aYF,h1,h2,E,h4,h5,boY,↓iB,↓uL]
   have E:=az h1
   have D:aX zd9 1 R [(0,st m.name)]=V (.l ([m.name].map cs) U U,R):=iz
   simp only[D,bQ]
   refine gfP (j:=3) o.bx (by simp) o.g3 (nb o.p3<|by decide) rfl (by decide) (by rw[o.le];decide) oX oX (by simp) (by simp;omega) (by simp) λa' Y3 H A u P=>?_
   rw[<-dg] at A
   exact af (o.up3 (new:=[m.name]) H A u P) (u.keep _ _ (N o.p3 _ (by simp)<|by simp) e1) (u.keep _ _ (N o.p3 _ (by simp)<|by simp) e2) (by grind) (by grind) (by grind) (by simp;omega) n4 n5<|ad E
 ·have bz:k=9:=by grind
  subst bz
  clear hk h
  refine yV (L p.ay) (λk _ Y=>∃(O:J9) (a4 a5:AV),Wo Y (3,C) O a0 a1 a2 a3 a4 a5/\O.cells=w.cells/\O.ak=w.ak/\O.bC=w.bC/\O.bU=w.bU/\box Y (1,1)=V ⟨196,2,U,U,[p.c]⟩/\box Y (2,v2)=V ⟨31,6,U,U,[r]⟩/\L O.ay<=k/\L O.dU<=k*5000) (by grind) ?_
  rintro k _ Y2 hk ⟨O,x4,x5,v,w0,w1,w2,w3,f1,f2,m4,m5⟩
  have cp:=hp.2.1
  simp only[qz 157,qy 38,qy 48,aI,au,u0,u1,f1,v.bx,rk,pz,aj,ixv,bh,↓uL]
  refine⟨λh=>⟨u7 h,?_⟩,λh=>?_⟩
  rotate_left
  ·have:=aT v f2 hr (by simp only[WBd,w0,w1,w2,w3];omega) (λ_=>by rw[w0];exact y<|by omega)
   simp only[u1,v.bx,pz,↓uL] at this
   exact this
  have ac:=aL h
  have aR:=(hp.2.2 _<|ig ac).2
  generalize bG:gd p.ay k=tk at*
  have D:aX zd9 1 Y2 [(0,st tk.name)]=V (.l ([tk.name].map cs) U U,Y2):=iz
  simp only[D,bQ]
  have nb:∀{a:AV} {j:Nat},(∀q∈aA a,q.1=j)->j≠3->((3,C):Id)∉aA a:=(by grind)
  have N:∀{a:AV} {j:Nat},(∀q∈aA a,q.1=j)->∀q:Id,q.1≠3->q.1≠j->q∉((3,C):Id)::aA a:=(by grind)
  refine gfP (j:=4) v.bx (by simp) v.g4 (nb v.p4<|by decide) rfl (by decide) (by rw[v.le];decide) oX oX (by simp) (by simp;omega) (by simp) λa' Y3 H A u P=>?_
  rw[<-dg] at A
  have B:=v.up4 (new:=[tk.name]) H A u P
  have h1:=u.keep _ _ (N v.p4 _ (by simp)<|by simp) f1
  have h2:=u.keep _ _ (N v.p4 _ (by simp)<|by simp) f2
  have b8:bS 4=585:=rfl
  have hm:L tk.body*bS 4<=8*bS 4:=qo _ aR.1
  simp only[qz 42,↓uL]
  refine dT (by first|rfl|(simp[eL,okT,tok,lb,cq,Qh,gz,dC,pP,dK];done)) ?_
  simp only[u0,u1,B.bx,h1,rk,pz,aj,ixv,bh,bG,↓uL]
  refine⟨dJ ac,jH rfl (bdu k 4 (n:=0) B.le B.g5 aR<|by grind) ?_⟩
  rintro cr Y4 ⟨aJ,n',l',rfl,g4,aB,F4,i4,p4⟩
  refine⟨F4.len,?_⟩
  have p5:∀q∈aA aJ,q.1=27:=λq y=>(by grind [Wo.p5])
  have bo:∀q:Id,q.1≠27->q∉aA x5:=λq h y=>h<|B.p5 q y
  have b4:=F4.keep _ _ (bo _<|by simp) B.bx
  simp only[qz 44,rr,aY,u1,b4,aj,↓uL]
  refine A0 b4 g4.ce (by simp) λY5 F5 b5=>?_
  simp only[qz 46,↓uL]
  refine dT (by first|rfl|(simp[eL,okT,tok,lb,cq,Qh,gz,dC,pP,dK];done)) ?_
  have cg:∀q:Id,q.1≠3->q∉[((3,C):Id)]:=(by grind)
  have G:Fx Y3 Y5 (aA x5++[(3,C)]):=F4.trans F5
  have K:∀q:Id,q.1≠27->q.1≠3->q∉aA x5++[((3,C):Id)]:=(by grind)
  have W5:Wo Y5 (3,C) {O with ay:=O.ay++[tk.name],dU:=l'} a0 a1 a2 a3 a' aJ:=⟨b5,B.g0.fx G<|λq y=>K q (by grind [Wo.p0])<|by grind [Wo.p0],B.g1.fx G<|λq y=>K q (by grind [Wo.p1])<|by grind [Wo.p1],B.g2.fx G<|λq y=>K q (by grind [Wo.p2])<|by grind [Wo.p2],B.g3.fx G<|λq y=>K q (by grind [Wo.p3])<|by grind [Wo.p3],B.g4.fx G<|λq y=>K q (by grind)<|by grind,g4.fx F5 (by grind),B.p0,B.p1,B.p2,B.p3,B.p4,p5,rfl,F5.len.trans<|F4.len.trans B.le⟩
  simp only[u0,u1,↓uL]
  refine dR (mk:=λ(_:Unit) i=>[iv i]) (s:=()) (s':=()) (λ_ _=>rfl) ac (by omega) ⟨_,a',aJ,W5,w0,w1,w2,w3,G.keep _ _ (by grind) h1,G.keep _ _ (by grind) h2,by simp;omega,?_⟩
  grind
def aUd:FT:=om aXi
def bb0{p Lw K}:=f111 aUd aXi p Lw K (j:=by simp+contextual only[ij,ijv])
def aYc:dO:=(189,aUd)::a7B
def aX5:eJ aYc:=sz (rj aXi)<|aX4
def aQV:=ai @bb0<|@aWj
section
attribute[local irreducible] aX
def a5E:=I5 28 [(7,([7],[2,3,4,5,6])),(13,([],[2,3,4,5,6,7,8])),(16,([9],[2,3,4,5,6,7,8])),(21,([],[2,3,4,5,6,7,8]))]
def aUA a s0 R:=(.mk _:NF<|zF GGV aYc a5E Tryz.f123 [a] [] s0<|I3 Tryz.f123 R).p
def bgf{a:AV}{R:cC}(h:∀s0:ae,L s0=4096->(∀k,aZ s0 k=mO)->aUA a s0 R):Fn aS GG 123 [a] R:=by refine fnV (uq ready (aQ9 aX5) Tryz.func123 (an:=a5E) (by kernel_rfl)<|Eq.mpr (show ZF aS GGV aYc a5E Tryz.f123 [a] R=(aUA a (ly Tryz.f123) R) by kernel_rfl) ?_);exact h _ uB<|i8 _
def a9m:=I5 32 [(9,([8,9],[1,2,7])),(21,([12],[1,2,7,8,9,10,11])),(27,([14],[1,2,7,8,9,10,11,12,13]))]
def a1t a b R:=(.mk _:NR aYc a9m Tryz.f122 [.u] [a] b R).p
def bgU{c0:List AV}{R:cC}(l0:L c0=2)(h:H1 196 2 1 c0 λia b=>a1t ia b R):Ct 122 [.a c0] R:=z1 a9m aX5 Tryz.func122 l0 h
end
section
attribute[local irreducible] aX
def aUF a a1 s0 R:=(.mk _:NS a7x asK Tryz.f115 [a,a1] [] s0 R).p
def bgg{a a1:AV}{s0:ae}{R:be}(hs:L s0=4096)(h:aUF a a1 s0 R):EB 115 [a,a1] s0 R:=zB asK aNH Tryz.func115 h
def aUJ a a1 s0 R:=(.mk _:NS a7x at1 Tryz.f281 [a,a1] [] s0 R).p
def bgo{a a1:AV}{s0:ae}{R:be}(hs:L s0=4096)(h:aUJ a a1 s0 R):EB 281 [a,a1] s0 R:=zB at1 aNH Tryz.func281 h
def aUI a a1 s0 R:=(.mk _:NS a7x atB Tryz.f278 [a,a1] [] s0 R).p
def bgm{a a1:AV}{s0:ae}{R:be}(hs:L s0=4096)(h:aUI a a1 s0 R):EB 278 [a,a1] s0 R:=zB atB aNH Tryz.func278 h
def aUH a a1 b s0 R:=(.mk _:NS a7x auF Tryz.f282 [a,a1,b] [] s0 R).p
def bgl{a a1 b:AV}{s0:ae}{R:be}(hs:L s0=4096)(h:aUH a a1 b s0 R):EB 282 [a,a1,b] s0 R:=zB auF aNH Tryz.func282 h
def a8R:=I5 47 [(13,([],[4,7]))]
def aUK a a1 s0 R:=(.mk _:NS a7x a8R Tryz.f244 [a,a1] [] s0 R).p
def bgp{a a1:AV}{s0:ae}{R:be}(hs:L s0=4096)(h:aUK a a1 s0 R):EB 244 [a,a1] s0 R:=zB a8R aNH Tryz.func244 h
def a8S:=I5 9 [(4,([7,8],[0,1,2]))]
def aZ9 d(I1:aG)(m1:bu) e b a:=aV (gt d 1) (iv 1) λc=>I1 [b,c] a/\m1 [b,c] a<m1 d e
def aUQ a I1 m1 f d b:=eV (aX brP 1 b [(0,d)]) λe c=>eV (Gy 274 brG 176 c 30 (gt a 0) e)<|aZ9 a I1 m1 f
def aRp k d a1 R I1 m1 b c:=Rg->aU (gt b 1) k λt3=>Qct t3 (gt b 1) λl=>Qot t3 (QbE l<|iv 0) λm=>Qct t3 m λa=>Qcf a d λe=>aC a (rV<|cO c e) λf=>bn a 2 c f λg=>aC a (aO .gtr g<|iv 0) λh=>Qot t3 (aD a (bv U) h) λi=>aD t3 i (bv I) λj=>ah j (cB 244 [d,a1] c 28<|aUQ b I1 m1 c)<|aNN R c [gt b 0]
def aUP a a1 b s0 R:=lV [.l [] U U,iv 0] s0<|aRp b a a1 R
def bgq{a a1 b:AV}{s0:ae}{R:be}(hs:L s0=4096)(h:aUP a a1 b s0 R):EB 194 [a,a1,b] s0 R:=zB a8S aNH Tryz.func194 h
end
end Go.Ab
