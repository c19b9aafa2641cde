/- Part of the proof of EncodeNames, made short by a program. -/
import Derived.Test.YtmilgmjhdfijjaaGreatDoorC
import Derived.Laws.RangeString
import Derived.Laws.RangeAny
set_option linter.all false
set_option maxRecDepth 100000
open And renaming intro->ai
open Bool renaming and_assoc->BI,and_eq_false_iff->pk,and_eq_true->bN,and_false->qc,and_true->ru,eq_false_or_eq_true->sq,false->I,false_and->kM,false_eq_true->eE,false_or->lG,not_eq_false'->fK,not_eq_true'->eH,not_false->kN,not_true->fh,or_eq_false_iff->cP,or_eq_true->fH,or_false->kz,or_true->wY,true->U,true_and->iw
open Decidable renaming byContradiction->aqy,decide->Q,not_not->aNS
open Eq renaming mpr->aND
open Go.Code renaming region->BM,ret->ET
open Go.IntKind renaming i64->dq
open Go.Proofs.Tryz renaming f98->CI,func98->So,ntmps98->arJ,prog->aS
open Go.Value renaming bool.injEq->mV,int.injEq->mW,string.injEq->mX
open Int renaming toNat_natCast->bh,toNat_of_nonneg->kA
open List renaming all_cons->Cs,all_eq_true->dV,all_nil->aqG,any_eq_true->tL,append_assoc->cC,append_inj->aqH,append_nil->cL,cons.injEq->kO,cons_append->zn,drop->aOz,drop_drop->zo,drop_succ_cons->nM,drop_zero->ip,ext_getElem->zp,filter_append->me,findIdx?_eq_none_iff->GB,findIdx?_eq_some_iff_getElem->RL,findIdx?_isSome->RM,getD_eq_getElem?_getD->eI,getElem?_drop->mf,getElem?_eq_getElem->eC,getElem?_map->ve,getElem?_set_ne->oq,getElem_map->xi,getElem_of_mem->ou,getElem_range->RS,getElem_take->GI,length->L,length_append->P8,length_cons->bZ,length_filter_le->fZ,length_map->bJ,length_nil->vw,length_pos_iff->aqS,length_replicate->oA,length_set->zq,map_append->dg,map_congr_left->ja,map_cons->ji,map_drop->GK,map_map->vA,map_nil->mU,map_set->vB,map_take->GL,mem_append->dF,mem_cons->eW,mem_cons_of_mem->zu,mem_filter->jW,mem_map->dN,mem_map_of_mem->CA,mem_range->fq,mem_singleton->cE,nil_append->dW,not_mem_nil->ql,range->aH,replicate->er,set_append_right->CD,singleton_append->RZ,take_append_drop->aq0,take_length->gV,take_of_length_le->oB,take_succ_eq_append_getElem->iJ,take_zero->CE
open Nat renaming add_zero->kP,eq_zero_or_pos->oD,le_antisymm->bP,le_refl->dA,le_trans->gl,lt_of_le_of_lt->rC,lt_of_lt_of_le->C3,lt_or_ge->jj,reduceAdd->dc,zero_add->aj
open Option renaming bind_some->qd,getD_none->sD,getD_some->mi,isSome_iff_exists->zz,map_some->df,none->J,some->V,some.injEq->bE
open Prod renaming mk.injEq->iK
namespace Go.Ab
open Go Go.RowKit Go.Proofs
def aC4{Y:ae}:kb (V 22) Y (.q pI)=V (.a pI):=by kernel_rfl
def avT{k:Nat}(h:k<22):sI 22 1 J (.a pI) (iv k)=V (st (gd ik k)):=by have d:pI[k]?=V (st (gd ik k)):=(by have b:k<L ik:=h;rw[bT b];simp only[pI,ve,eC b,df]);simp only[sI];have c:(0:Int)<=(k:Int)/\(k:Int)<22:=⟨by omega,by omega⟩;simp[c.2,yy,d]
def PP(s:ByteArray):Ct 180 [st s] (·=bv (rZ s)):=by refine aMG λs0 _ g=>?_;simp only[akc,aC4,aY,↓uL];refine C7 22 (λk=>∀j,j<k->gd ik j≠s) (by simp) λk i c=>?_;simp+contextual only[akd,aI,u0,u1,au,↓uL];refine⟨λh=>?_,λh=>?_⟩;have a:k<22:=(by simp at h;omega);rw[avT a];simp+contextual only[u0,u1,↓uL];refine⟨λb=>?_,λb=>gS a (by decide) (jf c (by simp at b;exactλe=>b e.symm))⟩;have:rZ s=U:=(by rw[rZ,tL];exact⟨gd ik k,dB (l:=ik) a,by simp at b;simp[b]⟩);rw[this];have a:k=22:=(by simp at h;omega);have:rZ s=I:=(by rw[rZ,List.any_eq_false];intro x f;have:=(px (l:=ik) (p:=λx=>x≠s)).1 (λj d=>c j (by rw[a];exact d)) x f;simpa using this);rw[this]
def Gg:FT:=lH PP
def azB{s Lw K}:=np Gg PP s Lw K
def NM(i n:Int):Ct 128 [iv i,iv n] (·=bv (dh i n)):=by refine aJ1 λs0 b a=>?_;simp+contextual only[S0,u0,u1,dh,↓uL]
def EZ:FT:=lI NM
def axZ{i n Lw K}:=nq EZ NM i n Lw K
def OA(i n:Int):Ct 129 [iv i,iv n] (·=bv (dh i n)):=by refine aLb λs0 b a=>?_;simp+contextual only[abM,u0,u1,dh,↓uL]
def ry:FT:=lI OA
def ayx{i n Lw K}:=nq ry OA i n Lw K
def Oz(t:bF)(c:Int):Ct 223 [.a t.c,iv c] (·=bv (Q (t.cQ=3)&&Q (t.cond=c))):=by refine aLa rfl λs0 e b d=>?_;simp+contextual only[abL,u0,u1,b,rk,aj,↓uL]
def BV:FT:=lI Oz
def ayw{t c Lw K}:=nq BV Oz t c Lw K
def NS(e:aP):Ct 42 [.a e.c] (·=bv (fR e)):=by refine aKC rfl λs0 f b d=>?_;simp+contextual only[YD,u0,u1,b,rk,aj,fR,↓uL]
def zc:FT:=lH NS
def ax5{e Lw K}:=np zc NS e Lw K
def NQ(e:aP):Ct 44 [.a e.c] (·=bv (pN e)):=by refine aKB rfl λs0 f b d=>?_;simp+contextual only[YC,u0,u1,b,rk,aj,pN,↓uL]
def aTR:FT:=lH NQ
def ax4{e Lw K}:=np aTR NQ e Lw K
def PU(w:br)(e:aP):Ct 132 [.a w.c, .a e.c] (·=bv (!tA w e)):=by refine aML rfl rfl λs0 i b d g=>?_;simp+contextual only[aku,u0,u1,b,d,rk,ix,aj,tA,aly,aIc,↓uL];refine⟨λh=>?_,λh=>⟨λf=>dX.1 f,?_⟩⟩;simp;simp[dh,BI]
def Gl:FT:=lI PU
def azG{w e Lw K}:=nq Gl PU w e Lw K
def oW(l:List Int)(n:Int):Int:=match l.findIdx? (λx=>Q (x=n)) with|some i=>i|none=> -1
def anR{l:List Int}{n:Int}{k:Nat}(a:k<L l)(h:∀j,j<k->gd l j≠n)(b:gd l k=n):oW l n=k:=by have:l.findIdx? (λx=>Q (x=n))=V k:=(by rw[RL];refine⟨a,by rw[<-bT a,b];simp,λj c=>?_⟩;have:=h j c;rw[bT (by omega)] at this;simpa using this);rw[oW,this]
def anS{l:List Int}{n:Int}(h:∀j,j<L l->gd l j≠n):oW l n= -1:=by have:l.findIdx? (λx=>Q (x=n))=J:=(by rw[GB];intro x a;have:=(px (p:=λx=>x≠n)).1 h x a;simpa using this);rw[oW,this]
def PO(l:List Int)(n:Int)(d:L l<4611686018427387904):Ct 153 [sl ci l,iv n] (·=iv (oW l n)):=by refine aMC λs0 _ f=>?_;simp only[JR,aI,cT,aY,↓uL];refine C7 (L l) (λk=>∀j,j<k->gd l j≠n) (by simp) λk g b=>?_;simp+contextual only[aj7,JR,u0,u1,ix,rk,bh,au,aI,↓uL];refine⟨λh=>⟨bA h,λa=>?_,λa=>gS (aL h) d (jf b (by simp at a;exactλe=>a e.symm))⟩,λh=>?_⟩;rw[anR (aL h) b (by simp at a;exact a.symm)];rw[anS λj c=>b j (C3 c (bw h))]
def Cq:FT:=gz PO
def azA{l n Lw K}:=gX Cq PO l n Lw K
def PX(w:am)(u:L w.ac<1000000/\L w.init.count<1000000):Ct 37 [.a w.c] (·=bv (rM w)):=by refine aMO rfl λv t k q=>?_;simp only[JZ,u0,u1,k,rk,aj,dc,cT,↓uL];refine yh (λs:Int×Nat=>[iv s.1,iv s.2]) 1 (L w.init.count) (λs=>s.2<=L w.init.count/\s.1=nE w.init.count s.2/\∀j,j<s.2->0<=gd w.init.count j/\gd w.init.count j<=400) (0,0) ⟨by simp,by simp[nE],by simp⟩ ?_;rintro⟨l,i⟩ ⟨e,f,d⟩;simp only at e f d;simp+contextual only[akH,JZ,u0,u1,ix,rk,k,aj,dc,bh,au,ck,aI,↓uL];have p:=aoN d e;have o:i<L w.init.count->(Q (gd w.init.count i<0)||Q (400<gd w.init.count i))=U->rM w=I:=λh b=>(by have:¬∀c∈w.init.count,0<=c/\c<=400:=λg=>(by have:=g _ (dB h);simp only[fH,lS] at b;omega);simp[rM,this]);refine⟨λh=>⟨bA h,λb=>by rw[o (aL h) b],λb=>?_⟩,λh=>?_⟩;have:=aL h;simp only[cP,o8,Int.not_lt] at b;refine wN (enc:=λs:Int×Nat=>[iv s.1,iv s.2]) (s:=(l,i)) (s':=(l+gd w.init.count i,i+1)) (i:=i) ?_ rfl rfl (aL h) ⟨aL h,?_,jf d b⟩;rw[fX (by omega),eM (by omega) (by omega)];simp only;rw[Ra (aL h),f];have m:i=L w.init.count:=bP e (bw h);have n:nE w.init.count i=w.init.count.sum:=(by rw[m,nE,gV]);have g:∀c∈w.init.count,0<=c/\c<=400:=px.1 (λj r=>d j (by omega));rw[eM (by omega) (by omega),f,n];simp only[rM,aID g,iw]
def aUv:FT:=mT PX
def azJ{w Lw K}:=oK aUv PX w Lw K
def aXJ(s:bW)(e:(∀j,j<L s.bU->L s.bm.done=L s.bU/\(gd s.bm.done j=I->gd s.bU j=0))/\L s.bU=L s.bm.done/\L s.bU<1000000):Ct 40 [.a s.c] (·=bv U):=by refine aMR rfl λs0 l d f=>?_;simp+contextual only[J0,u0,u1,d,rk,ix,aj,dc,cT,↓uL];refine C7 (L s.bm.done) (λk=>True) trivial λk i g=>?_;simp+contextual only[akT,J0,u0,u1,d,ix,rk,bh,au,aI,aj,dc,↓uL];refine⟨λh=>⟨bA h,λ_=>by rw[e.2.1];exact bA h,λb=>?_,λb=>gS (aL h) (by omega) trivial⟩,λh=>trivial⟩;simp only[bN,eH,lS] at b;exact nl ((e.1 k (by have:=aL h;omega)).2 b.1) b.2
def Gs:FT:=mT aXJ
def azM{s Lw K}:=oK Gs aXJ s Lw K
def Qb(w:am)(B:uZ w=U/\(∀j,j<L w.init.bm.ay->pX w j=U)/\L w.init.count=L w.init.bm.ay/\L w.init.bm.ay<1000000/\L w.init.bm.ak=L w.aQ.ak/\(∀c∈w.aQ.bC,aF (L w.aQ.ak) c.eg)):Ct 38 [.a w.c] (·=bv U):=by obtain⟨p1,C,D,R,E,F⟩:=B;refine aMU rfl λs0 A r N=>?_;simp+contextual only[Kc,u0,u1,r,rk,ix,aj,dc,cT,↓uL];refine pQ (L w.init.bm.ay) [4] (λk=>True) trivial λk Y P O i=>?_;have s:box Y (1,1)=_:=i.bt r;simp+contextual only[Ke,di,Kd,u0,u1,s,ix,rk,bh,au,aI,aj,dc,↓uL];refine⟨λh=>⟨bA h,?_⟩,λh=>trivial⟩;refine eF rfl rfl (by decide) (by rw[i.1,A];decide) λg q y=>?_;have z:box g (1,1)=_:=q.bt s;have v:fI s0 [4] (L w.init.bm.ay) (λ_=>True) [iv (dq.wrap ((k:Int)+1))] g/\fM (L w.init.bm.ay) [iv (dq.wrap ((k:Int)+1))] g<fM (L w.init.bm.ay) [iv k] Y:=oL (aL h) (by omega) trivial (i.trans q);have m:=nt p1 k (aL h);have n:=C k (aL h);simp only[aOK,Eu,zX,bN,eH] at m;simp only[pX,bN,eH] at n;simp+contextual only[akZ,akY,Kd,Ke,Kc,↓iC,↓iB,↓iS,u0,u1,z,y,ix,rk,bh,au,aI,aj,dc,↓uL];simp only[cP] at m n;obtain⟨⟨⟨⟨G,H⟩,K⟩,M⟩,o,x⟩:=m;obtain⟨_,p⟩:=n;refine⟨λl=>?_,λl=>⟨by rw[D];exact bA h,λf=>?_,λf=>⟨λb=>⟨λd=>?_,λ_=>v⟩,λb=>⟨λd=>?_,λd=>?_⟩⟩⟩⟩;simp only[G,H,M,kz] at l;cases l;exfalso;revert K f;(cases Q (gd w.init.count k=0)<;>cases(Q ((gd w.init.bm.ay k).cQ=0)||Q ((gd w.init.bm.ay k).cQ=1))<;>simp);simp at b;simp[b] at x;simp[x] at d;have e:(Q ((gd w.init.bm.ay k).cQ=3)||Q ((gd w.init.bm.ay k).cQ=4))=U:=(by simp at b⊢;omega);simp[e,dh] at o;simp at d;omega;have e:(Q ((gd w.init.bm.ay k).cQ=3)||Q ((gd w.init.bm.ay k).cQ=4))=U:=(by simp at b⊢;omega);simp only[e,iw] at o p;have u:aF (L w.aQ.bC) (gd w.init.bm.ay k).cond:=dX.1 (by simpa using o);refine⟨u,by rw[E];exact F _ (ii u),λt=>?_,λ_=>v⟩;rw[t] at p;cases p
def Gu:FT:=mT Qb
def azO{w Lw K}:=oK Gu Qb w Lw K
def brb{x y:Bool}:tY [bv I,bv I] 1 [(0,bv x),(1,bv y)]=V (.a [bv x,bv y]):=rfl
def brl{x y:List Int}:tY [.l [] U U, .l [] U U] 1 [(0,sl ci x),(1,sl ci y)]=V (.a [sl ci x,sl ci y]):=rfl
def ax2{a b:List Int}{k:Nat}(h:k<2):sI 2 1 J (.a [sl ci a,sl ci b]) (iv k)=V (sl ci (if k=0 then a else b)):=by match k,h with|0,_=>rfl|1,_=>rfl
def ia2{Y:ae}{b:Id}{x:bY}{k:Nat}(a:box Y b=V x)(h:k<2):wm 2 1 Y (.p b 0 0) (iv k)=V (.p b 0 k):=by match k,h with|0,_=>simp[wm,a]|1,_=>simp[wm,a]
def ld2{x y:Bool}{k:Nat}(h:k<2):aN J ([bv x,bv y].drop k)=V (bv (if k=0 then x else y)):=by match k,h with|0,_=>rfl|1,_=>rfl
def PS(w:br)(s:bW)(e:aP)(E:yM w e=I/\yN e=I/\lZ e.dI (gd s.count e.aq.toNat)/\lZ e.ep (gd s.count e.aq.toNat)/\aF (L s.count) e.aq/\(e.kind=3\/e.kind=4->aF (L w.cells) e.bb)/\vo e):Ct 133 [.a w.c, .a s.c, .a e.c] (·=bv U):=by obtain⟨p1,u,S,T,G,H,v⟩:=E;refine aMJ rfl rfl rfl λs0 C o p q N=>?_;simp+contextual only[JY,u0,u1,o,p,q,rk,ix,aj,dc,cT,brb,↓uL];refine⟨λh=>H (by simpa using h),?_⟩;refine eF rfl rfl (by decide) (by rw[C];decide) λY F m=>?_;have x:box Y (3,1)=_:=F.bt o;have r:box Y (4,1)=_:=F.bt p;have t:box Y (5,1)=_:=F.bt q;simp+contextual only[akq,u0,u1,x,r,t,m,rk,ix,aj,dc,cT,brl,↓uL];refine C7 2 (λ_=>True) trivial λk R _=>?_;simp+contextual only[aks,aI,au,u0,u1,uR,↓uL];refine⟨λh=>?_,λh=>trivial⟩;have g:k<2:=(by simp at h;omega);rw[ax2 g];have A:lZ (if k=0 then e.dI else e.ep) (gd s.count e.aq.toNat):=(by split<;>assumption);have D:L (if k=0 then e.dI else e.ep)<4611686018427387904:=(by split;exact v.1;exact v.2);have z:∀a b:Bool,a=(Q (e.kind=5)||(Q (e.kind=3)||Q (e.kind=4))&&Q ((gd w.cells e.bb.toNat).size≠0))->b=(Q (e.kind=4)||Q (e.kind=22))->(Q ((0:Int)<L (if k=0 then e.dI else e.ep))&&!(if k=0 then a else b))=I:=(by rintro a b rfl rfl;split;simp only[yM] at p1;rw[<-p1];congr 1;by_cases K:e.kind=5<;>simp[K];simp only[yN] at u;rw[<-u];congr 1;simp);generalize(if k=0 then e.dI else e.ep)=l at*;simp+contextual only[u0,u1,cT,ia2 m g,m,aj,ld2 g,↓uL];refine⟨λd=>?_,λ_=>?_⟩;rw[z _ _ rfl rfl] at d;cases d;refine yh (λa:Int×Nat=>[iv a.1,iv a.2]) 1 (L l) (λa=>a.2<=L l/\a.1=if a.2=0 then 0 else gd l (a.2-1)) (0,0) ⟨by simp,by simp⟩ ?_;rintro⟨M,i⟩ ⟨B,j⟩;simp only at B j;subst j;simp+contextual only[akr,aI,au,ck,u0,u1,ix,rk,r,t,aj,bh,↓uL];refine⟨λf=>⟨bA f,λ_=>G,λd=>?_,λ_=>?_⟩,λf=>gS g (by decide) trivial⟩;have n:=A i (aL f);exfalso;simp only[fH,lS] at d;have y:=n.2.2;have O:=n.1;have P:=n.2.1;rcases d with d|d;split at d;omega;have:=y (by omega);omega;omega;refine wN (enc:=λa:Int×Nat=>[iv a.1,iv a.2]) (i:=i) (s:=(_,i)) (s':=(gd l i,i+1)) ?_ rfl rfl (aL f) ⟨aL f,by simp⟩;rw[fX (by have:=aL f;omega)]
def Gj:FT:=qe PS
def azE{w s e Lw K}:=sT Gj PS w s e Lw K
def PV(s:bW)(e:aP)(G:aO8 s e=U/\L s.bm.ay<1000000/\(e.kind=3->aF (L s.cells) e.bb)/\(e.kind=23->aF (L s.bU) e.bb)):Ct 134 [.a s.c, .a e.c] (·=bv U):=by obtain⟨p1,O,H,K⟩:=G;refine aMM rfl rfl λs0 D F x N=>?_;simp only[akv,↓uL];simp+contextual only[f8,akD,akA,au,aI,↓iC,↓iB,↓iS,u0,u1,F,x,rk,ix,aj,dc,cT,vb,y6,vm,↓uL];have M:∀v:aG,True:=λ_=>trivial;refine⟨λh=>⟨H (nt h),?_⟩,λr=>⟨λh=>⟨K (nt h),?_⟩,λm=>⟨λh=>?_,λA=>⟨λu=>⟨trivial,λh=>nomatch h⟩,λu=>⟨trivial,λq=>⟨λl=>?_,λl=>⟨λo=>?_,λo=>?_⟩⟩⟩⟩⟩⟩⟩;rw[aO8,h] at p1;rw[<-p1];rfl;rw[aO8,r,h] at p1;rw[<-p1];rfl;rw[aO8,r,m,h] at p1;rw[<-p1];rfl;have f:(bif Q ((L (fO s.bm e.bb):Int)=0) then Q (e.value= -1) else Q (0<=e.value)&&(Q (e.value<L s.bm.ay)&&Q (e.value∈fO s.bm e.bb)))=U:=(by rw[aO8,r,m,A,u,q,l] at p1;exact p1);refine jD (α:=Int×Bool) (λa i=>[iv a.1,bv a.2,iv i]) 2 (L s.bm.ay) (λk a Y'=>a=((L (eh s.bm e.bb k):Int),Q (e.value∈eh s.bm e.bb k))/\Fr s0 Y' [8]) (s0:=(0,I)) ⟨by simp[eh],Fr.refl _ _⟩ ?_;rintro k _ Y B ⟨rfl,d⟩;have n:box Y (3,1)=_:=d.bt x;have E:=wU s.bm e.bb k;simp+contextual only[akE,di,akB,u0,u1,n,ix,rk,bh,au,ck,nr,aI,aj,dc,↓uL];refine⟨λh=>⟨bA h,?_⟩,λh=>?_⟩;refine eF rfl rfl (by decide) (by rw[d.1,D];decide) λw g y=>?_;have z:box w (3,1)=_:=g.bt n;simp+contextual only[akw,u0,u1,z,y,rk,aj,dc,au,ck,nr,aky,aI,↓uL];refine⟨λj=>?_,λj=>?_⟩;refine dR (mk:=λa i=>[iv a.1,bv a.2,iv i]) (p:=2) (s:=((L (eh s.bm e.bb k):Int),Q (e.value∈eh s.bm e.bb k))) (s':=(dq.wrap ((L (eh s.bm e.bb k):Int)+1),(Q (e.value∈eh s.bm e.bb k)||Q (e.value=(k:Int))))) (λ_ _=>rfl) (aL h) (by omega) ?_;refine⟨?_,d.trans g⟩;have b:pe s.bm e.bb k=U:=j;rw[vc,b,bX rfl,fX (by omega)];simp;refine dR (mk:=λa i=>[iv a.1,bv a.2,iv i]) (p:=2) (s:=((L (eh s.bm e.bb k):Int),Q (e.value∈eh s.bm e.bb k))) (s':=((L (eh s.bm e.bb k):Int),Q (e.value∈eh s.bm e.bb k))) (λ_ _=>rfl) (aL h) (by omega) ?_;refine⟨?_,d.trans g⟩;have b:pe s.bm e.bb k=I:=j;rw[vc,b];simp;have t:k=L s.bm.ay:=bP B (bw h);subst t;change(bif Q ((L (eh s.bm e.bb (L s.bm.ay)):Int)=0) then Q (e.value= -1) else Q (0<=e.value)&&(Q (e.value<L s.bm.ay)&&Q (e.value∈eh s.bm e.bb (L s.bm.ay))))=U at f;rcases sq (Q ((L (eh s.bm e.bb (L s.bm.ay)):Int)=0)) with C|C;rw[C] at f⊢;simp only[aly] at f;rw[f];simp;rw[C] at f;simp only[aIc,bN] at f;rw[f.2.2];rfl;have f:e.value=L (fO s.bm e.bb):=(by rw[aO8,r,m,A,u,q,l,o] at p1;exact nt p1);refine jD (α:=Int) (λa i=>[iv a,iv i]) 1 (L s.bm.ay) (λk a Y'=>a=(L (eh s.bm e.bb k):Int)/\Fr s0 Y' [11]) (s0:=0) ⟨by simp[eh],Fr.refl _ _⟩ ?_;rintro k _ Y B ⟨rfl,d⟩;have n:box Y (3,1)=_:=d.bt x;have E:=wU s.bm e.bb k;simp+contextual only[akF,di,akC,u0,u1,n,ix,rk,bh,au,ck,nr,aI,aj,dc,↓uL];refine⟨λh=>⟨bA h,?_⟩,λh=>?_⟩;refine eF rfl rfl (by decide) (by rw[d.1,D];decide) λw g y=>?_;have z:box w (3,1)=_:=g.bt n;simp+contextual only[akx,u0,u1,z,y,rk,aj,dc,au,ck,nr,akz,aI,↓uL];refine⟨λj=>?_,λj=>?_⟩;refine dR (mk:=λa i=>[iv a,iv i]) (s:=_) (s':=dq.wrap ((L (eh s.bm e.bb k):Int)+1)) (λ_ _=>rfl) (aL h) (by omega) ?_;refine⟨?_,d.trans g⟩;have b:pe s.bm e.bb k=U:=j;rw[vc,b,bX rfl,fX (by omega)];simp;refine dR (mk:=λa i=>[iv a,iv i]) (s:=_) (s':=(L (eh s.bm e.bb k):Int)) (λ_ _=>rfl) (aL h) (by omega) ?_;refine⟨?_,d.trans g⟩;have b:pe s.bm e.bb k=I:=j;rw[vc,b];simp;have t:k=L s.bm.ay:=bP B (bw h);subst t;simp[f,fO];rw[aO8,r,m,A,u,q,l,o] at p1;rw[<-p1];rfl
def Gm:FT:=gz PV
def azH{s e Lw K}:=gX Gm PV s e Lw K
def NU(w:am)(c u:Int)(O:L w.ac<100000/\L w.init.bm.ay<100000):Ct 45 [.a w.c,iv c,iv u] (λr=>∃t,r= .l ((mR w c u).map ci) t U):=by refine aKF rfl λP G z N=>?_;simp+contextual only[Zj,u0,u1,z,ix,rk,aj,dc,↓uL];refine iu (λa i=>[a,iv i]) 1 [40,68] [40,68,9] 3 1 (L w.init.bm.ay) (λk=>(iH w c u k).map ci) (λ_=>True) trivial (.inl ⟨rfl,rfl⟩) λk a Y F _ y q=>?_;have E:box Y (3,1)=_:=q.bt z;have o:L Y=4096:=(by rw[q.1,G]);have M:=qX (vf w c u) k;simp only[Zp,aI,di,u0,u1,Zn,ix,rk,bh,E,aj,↓uL];refine⟨λh=>⟨bA h,?_⟩,λh=>?_⟩;refine eF rfl rfl (by decide) (by rw[o];decide) λB b s=>?_;simp+contextual only[Zk,u0,u1,s,rk,aj,iz,↓uL];have K:=aL h;rw[eM (x:= -1-(k:Int)) (by omega) (by omega)];refine⟨λd=>?_,λd=>?_⟩;refine fP (y.fr b (by decide)) rfl (by decide) (by decide) (by rw[b.1,o];decide) pU (by simp) (by simp only[iH,bJ,P8,bZ,vw];omega) λD C v f=>?_;simp only[Ib,aI,au,fE,cS,aY,↓uL];refine C0 (mk:=λa i=>[a,iv i]) (λ_ _=>rfl) (aL h) (by omega) trivial ?_ (q.trans ((b.mono (by decide)).trans (f.mono (by decide))));have m:vf w c u k=U:=d;have e:iH w c u (k+1)=iH w c u k++[-1-(k:Int)]:=(by rw[iH,yK,m];simp[iH]);rw[e,dg];exact v;simp only[Ib,aI,au,fE,cS,aY,↓uL];refine C0 (mk:=λa i=>[a,iv i]) (λ_ _=>rfl) (aL h) (by omega) trivial ?_ (q.trans (b.mono (by decide)));have m:vf w c u k=I:=d;have e:iH w c u (k+1)=iH w c u k:=(by rw[iH,yK,m];simp[iH]);rw[e];exact y.fr b (by decide);have n:k=L w.init.bm.ay:=bP F (bw h);subst n;refine iu (λa i=>[a,iv i]) 1 [40,68] [40,68,11] 3 1 (L w.ac) (λk=>(iH w c u (L w.init.bm.ay)++fw (wV w c u) k).map ci) (λ_=>True) trivial (by simpa[fw] using y) λk a Y' A _ j g=>?_;have p:L Y'=4096:=(by rw[g.1,o]);have H:=qX (wV w c u) k;simp only[Zo,aI,di,u0,u1,Zm,ix,rk,bh,↓uL];refine⟨λh=>⟨bA h,?_⟩,λh=>?_⟩;refine eF rfl rfl (by decide) (by rw[p];decide) λB b s=>?_;simp+contextual only[Zl,u0,u1,s,rk,aj,iz,↓uL];refine⟨λd=>?_,λd=>?_⟩;refine fP (j.fr b (by decide)) rfl (by decide) (by decide) (by rw[b.1,p];decide) pU (by simp) (by simp only[iH,bJ,P8,bZ,vw];omega) λD C v f=>?_;simp only[Ia,aI,au,fE,cS,aY,↓uL];refine C0 (mk:=λa i=>[a,iv i]) (λ_ _=>rfl) (aL h) (by omega) trivial ?_ (g.trans ((b.mono (by decide)).trans (f.mono (by decide))));rw[Bo d];exact v;simp only[Ia,aI,au,fE,cS,aY,↓uL];refine C0 (mk:=λa i=>[a,iv i]) (λ_ _=>rfl) (aL h) (by omega) trivial ?_ (g.trans (b.mono (by decide)));rw[yJ d];exact j.fr b (by decide);have n:k=L w.ac:=bP A (bw h);subst n;exact qV j λt=>⟨t,rfl⟩
def aTS:FT:=vn NU
def ax7{w c u Lw K}:=zZ aTS NU w c u Lw K
def zV(l:List cA):List ByteArray:=(jv l (L l) 0 []).getD []
def aEq{x y:cA}:wl .neq 2 [(0,2),(1,0),(2,0),(3,1),(4,0)] (.a x.c) (.a y.c)=V (bv (Q (x≠y))):=by obtain⟨a,b,c,d,e⟩:=x;obtain⟨f,g,h,i,j⟩:=y;have p:(a.toList==f.toList)=Q (a=f):=(by have:=alq (a:=a) (b:=f);simp only[wl,zP] at this;simpa using this);by_cases k:a=f<;>by_cases l:b=g<;>by_cases m:c=h<;>by_cases n:d=i<;>by_cases o:e=j<;>simp[wl,cA.c,nW,sS,p,k,l,m,n,o]
def NI(l:List cA)(hp:(jv l (L l) 0 []).isSome=U/\L l<=12):Ct 76 [sl cA.c l] (λr=>∃t o,r= .t [.l ((zV l).map cs) t o,bv U]):=by refine aJY λG hl h0=>?_;obtain⟨C,R⟩:=zz.1 hp.1;have af:zV l=C:=(by rw[zV,R];rfl);rw[af];have aF:=hp.2;simp only[SC,↓uL];refine⟨λvs Y=>∃(i f:Nat) (a:AV) (b:List ByteArray),vs=[a,iv i]/\i<=L l/\L b<=i/\L l-i<=f/\jv l f i b=V C/\Gr Y [20] 9 1 a (b.map cs)/\Fr G Y [20,6],gM 1 (L l),⟨0,L l,_,[],rfl,by omega,by simp,by omega,R,Gr.nil,Fr.refl _ _⟩,?_⟩;rintro vs Y ⟨i,f,a,b,rfl,hi,aB,hf,g,W,hF⟩;have y:L Y=4096:=(by rw[hF.1,hl]);simp only[SH,aI,u0,u1,rk,aj,ix,bh,au,ck,cT,↓uL];refine⟨λh=>⟨bA h,?_⟩,λh=>?_⟩;refine eF rfl rfl (by decide) (by rw[y];decide) λY2 D b2=>?_;simp+contextual only[SF,u0,u1,b2,rk,aj,iz,au,↓uL];refine fP (W.fr D (by decide)) rfl (by decide) (by decide) (by rw[D.1,y];decide) (by simp) (by simp) (by simp only[bJ,bZ,vw];omega) λw u g3 S=>?_;have b3:box u (6,(aZ Y 6).lB+1)=_:=S.bt b2;simp+contextual only[SE,↓iC,↓iB,↓iS,u0,u1,b3,rk,aj,au,ck,cT,↓uL];have ah:=aL h;obtain⟨f,rfl⟩:∃f',f=f'+1:=⟨f-1,by omega⟩;rw[jv,bX ah] at g;have next:∀j Y',kW l i=V j->i<j->j<=L l->Gr Y' [20] 9 1 w ((b++[(gd l i).name]).map cs)->Fr G Y' [20,6]->(∃(i f:Nat) (a:AV) (b:List ByteArray),[w,iv (j:Int)]=[a,iv i]/\i<=L l/\L b<=i/\L l-i<=f/\jv l f i b=V C/\Gr Y' [20] 9 1 a (b.map cs)/\Fr G Y' [20,6])/\gM 1 (L l) [w,iv (j:Int)] Y'<gM 1 (L l) [a,iv i] Y:=(by intro j Y' n aE hj G' F';rw[n] at g;refine⟨⟨j,f,w,b++[(gd l i).name],rfl,hj,by simp;omega,by omega,g,G',F'⟩,?_⟩;simp only[gM,fE,au,bh];omega);have M:Gr u [20] 9 1 w ((b++[(gd l i).name]).map cs):=(by rw[dg];exact g3);have H:Fr G u [20,6]:=hF.trans ((D.mono (by decide)).trans (S.mono (by decide)));rw[fX (by omega),eM (x:=(L l:Int)-i) (by omega) (by omega)];have q:kW l i≠J:=λe=>(by rw[e] at g;cases g);refine⟨λn=>⟨λA=>?_,λA=>next (i+1) u ?_ (by omega) (by omega) M H⟩,λn=>⟨λF=>?_,λF=>?_⟩⟩;simp only[lS] at n A;exact nl (by rw[kW,bX n,bX A]) q;simp only[lS,o8] at n A;rw[kW,bX n,cj A];exfalso;simp only[o8] at n;have s:¬((gd l i).size<1\/4<(gd l i).size\/(L l:Int)-i<(gd l i).size):=λB=>q (by rw[kW,cj n,bX B]);have p:∀k,k<(gd l i).size.toNat->sM (gd l i) (gd l (i+k)) k=U:=aqy λB=>q (by rw[kW,cj n,cj s,cj B]);have N:=p 0 (by omega);simp only[sM,kP,eH,cP] at N;simp only[N.2,kz,fH,lS] at F;omega;simp only[o8] at n;simp only[cP,o8] at F;obtain⟨⟨⟨q1,q2⟩,q3⟩,q4⟩:=F;have s:¬((gd l i).size<1\/4<(gd l i).size\/(L l:Int)-i<(gd l i).size):=(by omega);have p:∀k,k<(gd l i).size.toNat->sM (gd l i) (gd l (i+k)) k=U:=aqy λB=>q (by rw[kW,cj n,cj s,cj B]);have ag:kW l i=V (i+(gd l i).size.toNat):=(by rw[kW,cj n,cj s,bX p]);refine yV (gd l i).size.toNat (λk _ Y'=>(∃m,box Y' (6,(aZ Y 6).lB+1)=V ⟨122,5,U,U,[cA.c {gd l i with index:=m}]⟩)/\Fr u Y' [6]) ⟨⟨(gd l i).index,b3⟩,Fr.refl _ _⟩ ?_;rintro k _ Y4 hk ⟨⟨m,b4⟩,E⟩;have Z:L Y4=4096:=(by rw[E.1,S.1,D.1,y]);simp only[SG,aI,u0,u1,b4,rk,aj,au,ck,↓uL];refine⟨λT=>?_,λT=>?_⟩;simp only[lS] at T;have P:k<(gd l i).size.toNat:=(by omega);refine Ev b4 (by rw[Z];decide) rfl (by simp[cA.c]) λY5 F5 b5=>?_;have K:box Y5 (6,(aZ Y 6).lB+1)=V ⟨122,5,U,U,[cA.c {gd l i with index:=k}]⟩:=b5;simp only[SD,au,ck,u0,u1,↓uL];rw[show dq.wrap ((i:Int)+k)=((i+k:Nat):Int) by rw[eM (by omega) (by omega)];omega];simp only[ix,u0,u1,bh,rk,K,aEq,↓uL];refine⟨dJ (by omega),λO=>?_,λO=>?_⟩;exfalso;have:=p k P;simp only[sM,eH,cP,o8,aNS,aNQ] at this;obtain⟨⟨⟨⟨w1,w2⟩,w3⟩,w4⟩,w5⟩:=this;refine nt O ?_;generalize gd l (i+k)=x at*;obtain⟨x1,x2,x3,x4,x5⟩:=x;simp only at w1 w2 w3 w4 w5;subst w1 w2 w3 w4 w5;generalize gd l i=c at*;obtain⟨c1,c2,c3,c4,c5⟩:=c;simp only at q3;subst q3;rfl;exact yU P ⟨⟨k,K⟩,E.trans F5⟩;simp only[o8] at T;have e:dq.wrap ((i:Int)+(gd l i).size)=((i+(gd l i).size.toNat:Nat):Int):=(by rw[eM (by omega) (by omega)];omega);rw[e];exact next _ Y4 ag (by omega) (by omega) (M.fr E (by decide)) (H.trans (E.mono (by decide)));have X:C=b:=(by have:=bw h;cases f<;>simp[jv,Nat.not_lt.2 this] at g<;>exact g.symm);subst X;obtain⟨x,o,e⟩:=sU W;have z:jS Y [a,bv U]= .t [.l (C.map cs) x o,bv U]:=(by show AV.t [iZ Y a,bv U]=_;have:iZ Y a=dQ Y a:=(by rcases W with⟨_,rfl⟩|⟨d,v,rfl,_⟩<;>rfl);rw[this,e]);refine⟨?_,x,o,z⟩;rw[z];rfl
def EW:FT:=om NI
def axW{l Lw K}:=qz EW NI l Lw K
def NK(w:br)(M:(∀j,j<L w.dU->aOg w j=I)/\L w.dU<=60):Ct 79 [.a w.c] (·=bv U):=by refine aJ0 rfl λs0 K u S=>?_;simp+contextual only[SV,u0,u1,u,rk,ix,aj,dc,cT,↓uL];refine jD (α:=Int×Int) (λa i=>[iv a.1,iv a.2,iv i]) 2 (L w.dU) (λk a Y'=>(a=if k=0 then(0,0) else((gd w.dU (k-1)).aq,(gd w.dU (k-1)).stmt+1))/\(0<=a.2/\a.2<=k)/\Fr s0 Y' [6]) (s0:=(0,0)) ⟨by simp,by simp,Fr.refl _ _⟩ ?_;rintro k ⟨l,r⟩ Y T ⟨f,C,q⟩;have v:box Y (1,1)=_:=q.bt u;simp+contextual only[SZ,u0,u1,v,ix,rk,bh,au,ck,nr,aI,aj,dc,↓uL];refine⟨λh=>⟨bA h,?_⟩,λh=>trivial⟩;refine eF rfl rfl (by decide) (by rw[q.1,K];decide) λo t G=>?_;have H:box o (1,1)=_:=t.bt v;have E:=M.1 k (aL h);simp only[aOg,cP] at E;obtain⟨⟨O,P⟩,b⟩:=E;simp only[o8] at O P;have D:=aL h;simp only at C;have F:¬((gd w.dU k).aq<l)/\(l<(gd w.dU k).aq->(gd w.dU k).stmt=0)/\(¬l<(gd w.dU k).aq->(gd w.dU k).stmt=r):=(by rcases oD k with m|m;subst m;simp only[vg,iK] at f;obtain⟨rfl,rfl⟩:=f;simp at b;exact⟨by omega,λ_=>b,λ_=>b⟩;rw[cj (by omega)] at f;simp only[iK] at f;obtain⟨rfl,rfl⟩:=f;rcases sq (Q ((gd w.dU (k-1)).aq≠(gd w.dU k).aq)) with g|g;rw[g] at b;simp only[wY,aly,cP,pk,o8,aNS,aNQ] at b;have:=nt g;exact⟨by omega,λ_=>b.1,λ_=>by omega⟩;rw[g,show Q ((k:Int)=0)=I by simp;omega] at b;simp only[kz,aIc,o8,aNS,aNQ] at b;rw[eM (by omega) (by omega)] at b;have:=aNG g;simp only[aNQ,aNS] at this;exact⟨by omega,λ_=>by omega,λ_=>b⟩);obtain⟨R,z,A⟩:=F;have n:∀x y:Int,x=(gd w.dU k).aq->y=(gd w.dU k).stmt->0<=y->y<=k->yI (λ(a:Int×Int) i=>[iv a.1,iv a.2,iv i]) (L w.dU) (λk a Y'=>(a=if k=0 then(0,0) else((gd w.dU (k-1)).aq,(gd w.dU (k-1)).stmt+1))/\(0<=a.2/\a.2<=k)/\Fr s0 Y' [6]) [iv x,iv (dq.wrap (y+1)),iv (dq.wrap ((k:Int)+1))] o/\gM 2 (L w.dU) [iv x,iv (dq.wrap (y+1)),iv (dq.wrap ((k:Int)+1))] o<gM 2 (L w.dU) [iv l,iv r,iv k] Y:=(by rintro x y rfl rfl d e;have N:dq.wrap ((gd w.dU k).stmt+1)=(gd w.dU k).stmt+1:=eM (by omega) (by omega);rw[N];refine dR (mk:=λ(a:Int×Int) i=>[iv a.1,iv a.2,iv i]) (p:=2) (s:=(l,r)) (s':=((gd w.dU k).aq,(gd w.dU k).stmt+1)) (λ_ _=>rfl) D (by omega) ?_;refine⟨by simp,⟨by simp only;omega,by simp only;omega⟩,q.trans t⟩);simp+contextual only[SW,f8,SY,SX,u0,u1,H,G,rk,aj,dc,au,ck,nr,aI,cT,↓uL];refine⟨λB=>?_,λB=>⟨λd=>⟨λe=>?_,λe=>?_⟩,λd=>⟨λe=>?_,λe=>?_⟩⟩⟩;simp only[fH,lS] at B;omega;simp[z (nt d)] at e;exact n _ 0 rfl (z (nt d)).symm (by omega) (by omega);simp[A (aNG d)] at e;have:=A (aNG d);refine n _ _ ?_ this.symm (by omega) (by omega);have:=aNG d;omega
def EY:FT:=mT NK
def axY{w Lw K}:=oK EY NK w Lw K
def api:dO:=(180,Gg)::(128,EZ)::(129,ry)::(223,BV)::(42,zc)::(44,aTR)::(132,Gl)::(153,Cq)::(37,aUv)::(40,Gs)::(38,Gu)::(133,Gj)::(134,Gm)::(45,aTS)::(76,EW)::(79,EY)::ao2
def sf:eJ api:=it (nH PP) (it (nI NM) (it (nI OA) (it (nI Oz) (it (nH NS) (it (nH NQ) (it (nI PU) (it (aCb PO) (it (pg PX) (it (pg aXJ) (it (pg Qb) (it (tE PS) (it (aCb PV) (it (By NU) (it (rj NI) (it (pg NK) (wQ))))))))))))))))
def aQS:=ai @azB<|ai @axZ<|ai @ayx<|ai @ayw<|ai @ax5<|ai @ax4<|ai @azG<|ai @azA<|ai @azJ<|ai @azM<|ai @azO<|ai @azE<|ai @azH<|ai @ax7<|ai @axW<|ai @axY<|@fsL
abbrev aPp:List AV:=[(sv []),(iv 0)]
def ave:=bi 14 [(6,([],[18]))]
def JV(l:aG)(f:bu) k m R g b:=rV (eO 0 g) λn=>ah n (rV (eO 1 g) λo=>rV (eO 2 g) λa=>aO .leq (.s (.int .i32 97)) a λh=>fm h a λp=>az h (aO .leq p (.s (.int .i32 122))) λq=>aD h q (bv I) λc=>ic c a λr=>aC c (aO .leq (.s (.int .i32 65)) r) λt=>ic c t λi=>fm i a λu=>az i (aO .leq u (.s (.int .i32 90))) λv=>aC c (aD i v (bv I)) λw=>aD c (bv U) w λx=>ah x (l [] b/\f [] b<f k m) (aO .gtr o (iv 0) λd=>fm d a λy=>az d (bf y (.s (.int .i32 95))) λz=>fm d z λe=>ic e a λA=>aC e (aO .leq (.s (.int .i32 48)) A) λB=>ic e B λj=>fm j a λC=>az j (aO .leq C (.s (.int .i32 57))) λD=>aC e (aD j D (bv I)) λE=>az d (aD e (bv U) E) λF=>aD d F (bv I) λG=>ah G (l [] b/\f [] b<f k m) (aE R b [(bv I)]))) (aE R b [(bv U)])
def akf e R c d b a:=∀_:Rg,eV (se a e) (JV c d b a R)
def ake b s0 R:=rV (lsA b) λt1=>aU t1 (iv 1) λc=>ic c b λt4=>aC c (rV (lsA t4)) λj=>aC c (aO .gtr j (iv 12)) λe=>aD c (bv U) e λa=>ic a b λf=>aC a (fV Gg s0 [f]) λg=>aD a (bv U) g λh=>ah h (aE R s0 [(bv I)]) (eV (tu s0 18 b) λi d=>lV [] d (akf i R))
def aMH{a:AV}{R:d7}(h:H0 λs0=>ake a s0 R):Ct 127 [a] R:=z0 ave sf Tryz.func127 h
def asw:=bi 2 []
def aYG c d l a R:=ab 1 a c λt4=>aJ a t4 λm=>fV EZ a [d,m] λb=>aT b 1 a c λe=>fm b d λf=>az b (ao 2 a e f) λg=>aT b 1 a g λh=>fm b l λi=>az b (rV (wl .eql 1 [] h i)) λj=>aD b j (bv I) λk=>aE R a [k]
def aJX{b:List AV}{c:AV}{d:AV}{R:d7}(l0:L b=6)(h:H1 31 6 3 b λe f=>aYG e c d f R):Ct 78 [.a b,c,d] R:=z1 asw sf Tryz.func78 l0 h
def atC:=bi 14 [(6,([35],[2,33,34]))]
def aa8 e m R b(f:aG)(c:bu) g a:=ab 1 a e λh=>ab 1 a m λi=>aJ a i λj=>fV ry a [h,j] λk=>cf k λl=>ah l (aE R a [(bv I)]) (aV (gt b 0) (iv 1) λd=>f [d] a/\c [d] a<c b g)
def Ip h g l R d e b a:=∀_:Rg,aU (gt b 0) h λi=>ah i (ao 2 a g (gt b 0) λj=>aw 2 a j λk=>eV (bs 126 aPp a 6) λc f=>sV (aK 2 f c k) (aa8 c l R b d e a)) (aE R a [(bv U)])
def Io d e a R:=ab 0 a e λt=>aJ a t λu=>ab 1 a d λv=>aJ a v λg=>aO .neq u g λb=>bn b 2 a e λh=>aC b (aJ a h) λi=>bn b 3 a d λj=>aC b (aJ a j) λk=>aC b (aO .neq i k) λl=>aD b (bv U) l λc=>bn c 3 a e λm=>aC c (aJ a m) λn=>bn c 4 a d λo=>aC c (aJ a o) λp=>aC c (aO .neq n p) λq=>aD c (bv U) q λr=>ah r (aE R a [(bv I)]) (ab 2 a d λf=>aJ a f λs=>lV [(iv 0)] a (Ip s f d R))
def aK4{b:List AV}{c:List AV}{R:d7}(l0:L b=6)(l1:L c=4)(h:H2 31 6 2 b 36 4 3 c λd e f=>Io d e f R):Ct 80 [.a b, .a c] R:=z2 atC sf Tryz.func80 l0 l1 h
def atD:=bi 34 [(3,([8],[2,3,7])),(11,([18],[2,3,7])),(14,([26],[2,3,7])),(17,([43],[2,3,7])),(22,([61],[2,3,7])),(27,([71],[2,3,7])),(30,([79],[2,3]))]
def abg a f g R b:=∀_:Rg,ah (gt b 0) (ab 3 a f λc=>aJ a c λd=>fV ry a [g,d] λe=>aE R a [e]) (aE R a [(bv I)])
def abn c(a:cG):=bf c (iv 22) λb=>ah b (a [b]) (bf c (iv 23) λd=>a [d])
def abe a b d R h c:=∀_:Rg,ah (gt c 0) (ab 4 a b λe=>aJ a e λf=>fV ry a [d,f] λg=>aE R a [g]) (jR 30 (abg a b d R) (abn h))
def abl c(a:cG):=bf c (iv 20) λb=>ah b (a [b]) (bf c (iv 21) λd=>a [d])
def abd a b e R d c:=∀_:Rg,ah (gt c 0) (ab 2 a b λf=>aJ a f λg=>fV ry a [e,g] λh=>aE R a [h]) (jR 27 (abe a b e R d) (abl d))
def abk b(a:cG):=bf b (iv 16) λc=>ah c (a [c]) (bf b (iv 17) λd=>ah d (a [d]) (bf b (iv 18) λe=>ah e (a [e]) (bf b (iv 19) λf=>a [f])))
def abc a c d R f e:=∀_:Rg,ah (gt e 0) (ab 1 a c λg=>aJ a g λh=>fV ry a [d,h] λb=>aT b 1 a c λi=>fm b d λj=>az b (ao 2 a i j) λk=>aT b 1 a k λl=>aD b l (bv I) λm=>aE R a [m]) (jR 22 (abd a c d R f) (abk f))
def abj b(a:cG):=bf b (iv 8) λc=>ah c (a [c]) (bf b (iv 9) λd=>ah d (a [d]) (bf b (iv 10) λe=>ah e (a [e]) (bf b (iv 11) λf=>a [f])))
def abb b c d R f e:=∀_:Rg,ah (gt e 0) (ab 1 b c λg=>aJ b g λh=>fV ry b [d,h] λa=>aT a 1 b c λi=>fm a d λj=>az a (ao 2 b i j) λk=>aT a 1 b k λl=>az a (cf l) λm=>aD a m (bv I) λn=>aE R b [n]) (jR 17 (abc b c d R f) (abj f))
def abi c(a:cG):=bf c (iv 6) λb=>ah b (a [b]) (bf c (iv 7) λd=>a [d])
def aba a b d R c e:=∀_:Rg,ah (gt e 0) (ab 0 a b λf=>aJ a f λg=>fV ry a [d,g] λh=>aE R a [h]) (jR 14 (abb a b d R c) (abi c))
def abh c(b:cG):=bf c (iv 3) λa=>ah a (b [a]) (bf c (iv 4) λd=>b [d])
def abf b R c e a d:=∀_:Rg,ah (gt d 0) (bf b (iv (-1)) λt4=>aE R c [t4]) (jR 11 (aba c e b R a) (abh a))
def abm b(a:cG):=bf b (iv 1) λc=>ah c (a [c]) (bf b (iv 2) λd=>ah d (a [d]) (bf b (iv 5) λe=>ah e (a [e]) (bf b (iv 12) λf=>ah f (a [f]) (bf b (iv 13) λg=>ah g (a [g]) (bf b (iv 14) λh=>ah h (a [h]) (bf b (iv 15) λi=>a [i]))))))
def aa9 b a c d R:=jR 3 (abf c R d b a) (abm a)
def aK5{b:List AV}{c:AV}{d:AV}{R:d7}(l0:L b=6)(h:H1 31 6 3 b λe f=>aa9 e c d f R):Ct 181 [.a b,c,d] R:=z1 atD sf Tryz.func181 l0 h
def au6:=bi 2 []
def aj1 a b s0 R:=fV Cq s0 [a,b] λt1=>aO .geq t1 (iv 0) λc=>aE R s0 [c]
def aMz{a:AV}{b:AV}{R:d7}(h:H0 λs0=>aj1 a b s0 R):Ct 217 [a,b] R:=z0 au6 sf Tryz.func217 h
def avo:=bi 2 []
def aV0 b c s0 R:=aO .geq b (iv 0) λt1=>fm t1 b λt3=>az t1 (aB 7 s0 c) λn=>aT t1 6 s0 n λd=>az t1 (aJ s0 d) λe=>az t1 (aU t3 e) λf=>aD t1 f (bv I) λa=>az a (aB 7 s0 c) λg=>aT a 6 s0 g λh=>fm a b λi=>az a (ao 1 s0 h i) λj=>az a (aM s0 j) λk=>az a (aO .geq k (iv 1)) λl=>aD a l (bv I) λm=>fe R s0 [m]
def aJT{a b:AV}{s0:ae}{R:be}(h:aV0 a b s0 R):EB 81 [a,b] s0 R:=zB avo sf Tryz.func81 h
def aMT{a:AV}{b:AV}{s0:ae}{R:be}(c:L s0=4096)(h:aV0 a b s0 R):EB 81 [a,b] s0 R:=by refine aJT ?_;exact h
def atz:=bi 26 [(7,([6,7],[1,2,5])),(17,([6,69],[1,5,7,67,68])),(20,([6],[1,5,7,67,68,69]))]
def CO a(f:aG)(c:bu) g b d:=∀_:Rg,aV (gt a 1) (iv 1) λe=>f [(gt b 0),e] d/\c [(gt b 0),e] d<c a g
def aaI c i d(h:aG) b B a:=ab 1 a c λl=>aO .neq l (gt i 1) λe=>bn e 2 a c λm=>bn e 2 a d λn=>aC e (aO .neq m n) λo=>aD e (bv U) o λf=>bn f 3 a c λp=>bn f 3 a d λq=>aC f (aO .neq p q) λr=>aD f (bv U) r λs=>ah s (h [(gt b 0)] a) (ab 0 a c λt=>ab 0 a d λu=>aO .neq t u λg=>ic g (gt b 1) λv=>ic g B λw=>aC g (aU v w) λx=>aD g (bv U) x λy=>ah y (eV (aX bH 1 a [(0,(gt b 1))]) λz j=>eV (j5 3 fB 8 j 105 (gt b 0) z) λA k=>h [A] k) (h [(gt b 0)] a))
def aaL a h c e d k f:=ao 7 a h (gt c 1) λi=>aw 7 a i λj=>eV (bs 64 y8 a 9) λb g=>sV (aK 7 g b j) (aaI b e d f c k)
def aaN h g d c j R e f a b:=∀_:Rg,aU (gt a 1) h λi=>ah i (jV 20 (CO a e f b) (aaL b g a d c j)) (aE R b [(gt a 0)])
def aaK f d g R b a:=∀_:Rg,ab 14 a f λc=>aJ a c λe=>lV [(gt b 0),(iv 0)] a (aaN e c b d g R)
def aaM a c e R(d:aG):=ab 1 a c λf=>bf f (iv 3) λK=>ah K (aB 7 a e λM=>ab 4 a M λN=>ab 2 a c λk=>ao 1 a N k λm=>aM a m λn=>ab 3 a c λo=>bf n o λp=>ah p (eV (aX bH 1 a [(0,(iv (-1)))]) λq g=>eV (j5 3 fB 8 g 40 (.l [] U U) q) λr h=>d [r,(iv 4)] h) (d [(.l [] U U),(iv 4)] a)) (bf f (iv 23) λs=>ah s (aB 7 a e λt=>aB 0 a t λu=>ab 2 a u λv=>ab 2 a c λw=>ao 1 a v w λx=>aM a x λb=>az b (aB 7 a e) λy=>aT b 5 a y λz=>aT b 2 a c λA=>az b (ao 1 a z A) λB=>az b (aM a B) λC=>aT b 3 a c λD=>az b (bf C D) λE=>aD b E (bv I) λF=>ah F (eV (aX bH 1 a [(0,(iv (-1)))]) λG i=>eV (j5 3 fB 8 i 65 (.l [] U U) G) λH j=>d [H,(iv 22)] j) (d [(.l [] U U),(iv 22)] a)) (aE R a [(.l [] U U)]))
def aaJ b a d R c:=jV 7 (aaK b a d R) (aaM c a b R)
def aaH c d a R:=aU d (iv 0) λt3=>ic t3 d λn=>bn t3 14 a c λf=>aC t3 (aJ a f) λg=>aC t3 (aO .geq n g) λh=>aD t3 (bv U) h λi=>ah i (aE R a [(.l [] U U)]) (ab 14 a c λj=>ao 7 a j d λk=>aw 7 a k λm=>eV (bs 64 y8 a 5) λb e=>sV (aK 7 e b m) (aaJ c b d R))
def aK0{b:List AV}{c:AV}{R:d7}(l0:L b=15)(h:H1 43 15 2 b λd e=>aaH d c e R):Ct 83 [.a b,c] R:=z1 atz sf Tryz.func83 l0 h
def NH(w:br)(i:Int)(b:Bool):Ct 78 [.a w.c,iv i,bv b] (·=bv (dh i (L w.ak)&&((gd w.ak i.toNat).rw==b))):=by refine aJX rfl λs0 f d e=>?_;simp+contextual only[aYG,u0,u1,d,rk,ix,ar,aQS,cT,aj,DR,vb,y6,↓uL];done
def EV:FT:=za NH
def axV{w i b Lw K}:=KP EV NH w i b Lw K
def Ow(w:br)(s:aW)(i:lh w s=U/\L w.bC<=2):Ct 80 [.a w.c, .a s.c] (·=bv U):=by refine aK4 rfl rfl λs0 t e l x=>?_;obtain⟨o,p,q,r⟩:=iY i.1;have v:=i.2;simp+contextual only[Io,u0,u1,e,l,rk,ix,cT,aj,↓uL];refine⟨λh=>by simp[p,q,r] at h,λ_=>?_⟩;refine pQ (L w.bC) [6] (λk=>True) trivial λk Y z y b=>?_;have f:box Y (2,1)=_:=b.bt e;simp+contextual only[Ip,u0,u1,f,ix,rk,bh,au,aI,aj,↓uL];refine⟨λh=>⟨bA h,?_⟩,λh=>trivial⟩;refine eF rfl rfl (by decide) (by rw[b.1,t];decide) λj d m=>?_;have n:box j (2,1)=_:=d.bt f;simp+contextual only[aa8,Ip,Io,u0,u1,n,m,rk,ar,aQS,cT,aj,au,↓uL];have u:dh (gd w.bC k).eg (L w.ak)=U:=dX.2 (o _ (dB (aL h)));refine⟨λg=>(by rw[u] at g;cases g),λ_=>?_⟩;exact(oL (aL h) (by omega) trivial (b.trans d))
def zf:FT:=gz Ow
def ayt{w s Lw K}:=gX zf Ow w s Lw K
def Ox(w:br)(b bb:Int):Ct 181 [.a w.c,iv b,iv bb] (·=bv (named w b bb)):=by refine aK5 rfl λg f d e=>?_;simp only[aa9,↓uL];simp only[f8,abm,iM,aY,sw,↓uL];simp only[abf,aI,au,↓uL];simp only[f8,abh,iM,aY,sw,↓uL];simp only[aba,aI,au,↓uL];simp only[f8,abi,iM,aY,sw,↓uL];simp only[abb,aI,au,↓uL];simp only[f8,abj,iM,aY,sw,↓uL];simp only[abc,aI,au,↓uL];simp only[f8,abk,iM,aY,sw,↓uL];simp only[abd,aI,au,↓uL];simp only[f8,abl,iM,aY,sw,↓uL];simp only[abe,aI,au,↓uL];simp only[f8,abn,iM,aY,sw,↓uL];simp only[abg,aI,au,↓uL];simp+contextual only[↓iC,↓iB,↓iS,u0,u1,aQS,ar,d,rk,ix,cT,aj,named,aly,aIc,DR,vb,y6,↓uL]
def Ft:FT:=za Ox
def ayu{w kind bb Lw K}:=KP Ft Ox w kind bb Lw K
def aE7{l:List Int}{n:Int}:Q (0<=oW l n)=Q (n∈l):=by unfold oW;by_cases h:n∈l;have:(l.findIdx? λx=>Q (x=n)).isSome=U:=(by rw[RM,tL];exact⟨n,h,by simp⟩);obtain⟨i,a⟩:=zz.1 this;rw[a];simp[h];have:(l.findIdx? λx=>Q (x=n))=J:=(by rw[GB];intro x b;simp only[o8];rintro rfl;exact h b);rw[this];simp[h]
def PN(l:List Int)(n:Int)(a:L l<4611686018427387904):Ct 217 [sl ci l,iv n] (·=bv (Q (n∈l))):=by refine aMz λs0 _ b=>?_;simp+contextual only[aj1,u0,u1,ar,aQS,↓uL];refine⟨a,?_⟩;rw[aE7]
def zl:FT:=gz PN
def azz{l n Lw K}:=gX zl PN l n Lw K
def aFl{s:ByteArray}{Y:ae}{d:Nat}{K:be}(a:d<L Y)(c:∀Y',Fr Y Y' [d]->box Y' (d,(aZ Y d).lB+1)=V ⟨0,0,U,I,[[st s,iv 0]]⟩->K (.g 1 (d,(aZ Y d).lB+1) 0 0) Y'):eV (tu Y d (st s)) K:=by have b:tu Y d (st s)=V (.g 1 (d,(aZ Y d).lB+1) 0 0,put Y d ⟨0,0,U,I,[[st s,iv 0]]⟩):=(by simp[tu,y7,a,lA]);rw[b];exact c _ ⟨D3,λk f=>yk (λe=>f (by simp[e]))⟩ (zQ a rfl)
def aEA{s:ByteArray}{Y:ae}{b:Id}{p o n:Nat}{K:be}(a:box Y b=V ⟨0,0,U,I,[[st s,iv p]]⟩)(i:b.1<L Y)(c:p<s.size->∀Y',Fr Y Y' [b.1]->box Y' b=V ⟨0,0,U,I,[[st s,iv ((p+(Utf8.decode s p).2:Nat):Int)]]⟩->K (.t [bv U,iv p, .s (.int .i32 (Utf8.decode s p).1)]) Y')(d:s.size<=p->K (.t [bv I]) Y):eV (se Y (.g 1 b o n)) K:=by unfold se;simp only[a,y6,vg,bh];by_cases h:p<s.size;rw[bX h];exact c h _ ⟨uC,λk f=>wy (λe=>f (by simp[e]))⟩ (lO a);rw[cj h];exact d (by omega)
def av3{a b:Int}:wl .leq 0 [] (.s (.int .i32 a)) (.s (.int .i32 b))=V (bv (Q (a<=b))):=rfl
def avW{a b:Int}:wl .eql 0 [] (.s (.int .i32 a)) (.s (.int .i32 b))=V (bv (Q (a=b))):=rfl
def DV(s:ByteArray)(b:Id):bu:=λ_ Y=>match box Y b with|some ⟨_,_,_,_,[[_, .s (.int _ p)]]⟩=>s.size-p.toNat|_=>0
def aB7{c:Int}(h:oO c=U):c<128:=by simp[oO,wx,zY] at h;omega
def PQ(s:ByteArray)(B:aQt s=U):Ct 127 [st s] (·=bv U):=by refine aMH λs0 t H=>?_;have l:=B;simp only[aQt,bN,eH,lS,cP,fK,o8] at l;obtain⟨⟨⟨⟨p1,K⟩,u⟩,C⟩,D⟩:=l;simp+contextual only[ake,u0,u1,Qm,ar,aQS,C,↓uL];refine⟨λh=>?_,λ_=>?_⟩;simp at h;omega;refine aFl (by rw[t];decide) λG w y=>?_;generalize(aZ s0 18).lB+1=v at*;refine⟨λvs Y=>∃p:Nat,vs=[]/\p<=s.size/\box Y (18,v)=V ⟨0,0,U,I,[[st s,iv p]]⟩/\L Y=4096,DV s (18,v),⟨0,rfl,by omega,y,by rw[w.1,t]⟩,?_⟩;rintro vs Y ⟨p,rfl,F,r,j⟩;simp only[akf,aI,↓uL];refine aEA r (by rw[j];show 18<4096;decide) (λa m x d=>?_) (λE=>?_);have i:=D p a;have g:rI s p=((s[p]'a).toNat:Int):=(by simp[rI,a]);have n:(s[p]'a).toNat<128:=(by have:=aB7 i;rw[g] at this;omega);have o:=decode_ascii s p a n;rw[o] at d⊢;simp only at d⊢;rw[<-g];have k:(∃p:Nat,True/\p<=s.size/\box m (18,v)=V ⟨0,0,U,I,[[st s,iv p]]⟩/\L m=4096)/\DV s (18,v) [] m<DV s (18,v) [] Y:=(by refine⟨⟨p+1,trivial,by omega,d,by rw[x.1,j]⟩,?_⟩;simp only[DV,d,r,bh];omega);generalize A:rI s p=c at*;have b:p=0->wx c=U:=λe=>(by subst e;rw[A] at u;exact u);simp+contextual only[JV,oJ,pG,KM,u0,u1,av3,avW,↓uL];refine⟨λ_=>⟨λ_=>k,λz=>⟨λ_=>k,λf=>?_⟩⟩,λh=>(nomatch h)⟩;exfalso;have q:oO c=U:=i;simp only[oO,wx,zY] at q b;rw[z] at q b;simp only[lG,fH,bN,lS] at q;simp only[pk,cP,o8] at f;rcases f with f|f;have:=b (by omega);cases this;omega;simp only[JV,oJ,u0,u1,↓uL];exact⟨λh=>(nomatch h),λ_=>trivial⟩
def Gh:FT:=mT PQ
def azC{s Lw K}:=oK Gh PQ s Lw K
def Ot(w:am)(q:Int)(hp:L w.ac<100000/\(aF (L w.ac) q->((gd w.ac q.toNat).kind=23->aF (L w.init.bm.done) (gd w.ac q.toNat).bb/\aF (L w.init.bU) (gd w.ac q.toNat).bb)/\((gd w.ac q.toNat).kind=3->aF (L w.init.cells) (gd w.ac q.toNat).bb))):Ct 83 [.a w.c,iv q] (λr=>∃t,r= .l ((dx w q).map ci) t U):=by refine aK0 rfl λs2 hl T h0=>?_;simp+contextual only[aaH,u0,u1,T,ix,rk,aj,ar,cT,↓uL];have ae:(Q (q<0)||Q ((L w.ac:Int)<=q))=!dh q (L w.ac):=(by cases h:dh q (L w.ac)<;>simp[dh] at h⊢<;>omega);rw[ae];refine⟨λh=>?_,λh=>?_⟩;simp only[eH] at h;have:dx w q=[]:=(by simp[dx,h]);rw[this];exact⟨rfl,U,rfl⟩;simp only[fK] at h;have hi:=h;have hq:=dX.1 h;obtain⟨aJ,al⟩:=hp;obtain⟨an,ao⟩:=al hq;refine⟨hq,eF rfl rfl (by decide) (by rw[hl];decide) λB O W=>?_⟩;have X:box B (2,1)=_:=O.bt T;have A:L B=4096:=(by rw[O.1,hl]);generalize(aZ s2 5).lB+1=v at*;have D:∀a Y (x:List Int) (n:Int),L x<=1->dx w q=x++fw (mr w q) (L w.ac)->(((gd w.ac q.toNat).kind=3/\n=4)\/((gd w.ac q.toNat).kind=23/\n=22))->Fr B Y [105,40,65]->Gr Y [105,40,65] 3 1 a (x.map ci)->aaK (.p (2,1) 0 0) (.p (5,v) 0 0) (iv q) (λr=>∃t,r= .l ((dx w q).map ci) t U) [a,iv n] Y:=(by intro a Y x n aK ad K o G4 _;have d1:box Y (2,1)=_:=o.bt X;have d3:box Y (5,v)=_:=o.bt W;simp only[u0,u1,d1,rk,aj,cT,au,↓uL];refine iu (λa i=>[a,iv i]) 1 [105,40,65] [105,40,65,9] 3 1 (L w.ac) (λk=>(x++fw (mr w q) k).map ci) (λ_=>True) trivial (by simpa[fw] using G4) λk S Y' af _ G C=>?_;have e3:box Y' (5,v)=_:=C.bt d3;have E:L Y'=4096:=(by rw[C.1,o.1,A]);simp only[aaN,aI,di,u0,u1,aaL,ix,rk,bh,au,ck,↓uL];refine⟨λh=>⟨bA h,?_⟩,λh=>?_⟩;refine eF rfl rfl (by decide) (by rw[E];decide) λR u b2=>?_;have f3:box R (5,v)=_:=u.bt e3;have aM:=qX (mr w q) k;have s:mr w q k=I->CO [S,iv k] (hI (λa i=>[a,iv i]) Y [105,40,65] [105,40,65,9] 3 1 (L w.ac) (λk=>(x++fw (mr w q) k).map ci) (λ_=>True)) (gM 1 (L w.ac)) Y' [S] R:=(by intro d;simp only[CO,aI,au,ck,cS,aY,↓uL];refine C0 (mk:=λa i=>[a,iv i]) (λ_ _=>rfl) (aL h) (by omega) trivial ?_ (C.trans (u.mono (by decide)));rw[yJ d];exact G.fr u (by decide));simp+contextual only[aaI,u0,u1,f3,b2,rk,aj,ar,iz,au,ck,↓uL];have z:mr w q k=(!(Q ((gd w.ac k).kind≠n)||Q ((gd w.ac k).bb≠(gd w.ac q.toNat).bb)||Q ((gd w.ac k).value≠(gd w.ac q.toNat).value))&&(Q ((gd w.ac k).aq≠(gd w.ac q.toNat).aq)||Q ((k:Int)<q))):=(by rw[Bool.eq_iff_iff];have ah:(k:Int)=q->(gd w.ac k).kind=(gd w.ac q.toNat).kind:=λe=>(by rw[<-e];rfl);simp only[mr,aTG,bN,fH,lS,eH,cP,pk,o8,aNQ,aNS];rcases K with⟨Z,rfl⟩|⟨Z,rfl⟩<;>rw[Z] at ah⊢<;>constructor<;>intro h2<;>omega);refine⟨λd=>?_,λd=>⟨λy=>?_,λy=>?_⟩⟩;exact s (by rw[z,d];rfl);have ab:mr w q k=U:=(by rw[z,d,y];rfl);refine fP (G.fr u (by decide)) rfl (by decide) (by decide) (by rw[u.1,E];decide) pU (by simp) (by simp only[bJ,P8,bZ,vw];omega) λa2 Y3 g3 P=>?_;simp only[CO,aI,au,ck,cS,aY,↓uL];refine C0 (mk:=λa i=>[a,iv i]) (λ_ _=>rfl) (aL h) (by omega) trivial ?_ (C.trans ((u.mono (by decide)).trans (P.mono (by decide))));rw[Bo ab];exact g3;exact s (by rw[z,y];simp);have ag:k=L w.ac:=bP af (bw h);subst ag;rw[ad];exact qV G λt=>⟨t,rfl⟩);have f:∀b,oM w (gd w.ac q.toNat)=b->fR (gd w.ac q.toNat)=U->dx w q=(bif b then[-1] else[])++fw (mr w q) (L w.ac):=λb d H=>(by simp[dx,hi,H,d]);simp+contextual only[aaJ,di,aaM,u0,u1,X,W,rk,ix,aj,dc,ar,iz,↓uL];refine⟨λM=>?_,λM=>⟨λm=>?_,λm=>?_⟩⟩;have j:=nt M;refine⟨ao j,λd=>?_,λd=>?_⟩;refine fP (aa:=[]) (ds:=[105,40,65]) (new:=[ci (-1)]) Gr.nil rfl (by decide) (by decide) (by rw[A];decide) (by simp) (by simp) (by decide) λa N F o=>?_;exact D a N [-1] 4 (by simp) (f U (by rw[oM,show Q ((gd w.ac q.toNat).kind=23)=I by rw[j];rfl];exact d) (by simp[fR,j])) (.inl ⟨j,rfl⟩) o F;exact D _ B [] 4 (by simp) (f I (by rw[oM,show Q ((gd w.ac q.toNat).kind=23)=I by rw[j];rfl];exact d) (by simp[fR,j])) (.inl ⟨j,rfl⟩) (Fr.refl _ _) Gr.nil;have g:=nt m;obtain⟨o1,o2⟩:=an g;refine⟨o1,λ_=>o2,λd=>?_,λd=>?_⟩;refine fP (aa:=[]) (ds:=[105,40,65]) (new:=[ci (-1)]) Gr.nil rfl (by decide) (by decide) (by rw[A];decide) (by simp) (by simp) (by decide) λa N F o=>?_;exact D a N [-1] 22 (by simp) (f U (by rw[oM,m];exact d) (by simp[fR,g])) (.inr ⟨g,rfl⟩) o F;exact D _ B [] 22 (by simp) (f I (by rw[oM,m];exact d) (by simp[fR,g])) (.inr ⟨g,rfl⟩) (Fr.refl _ _) Gr.nil;have H:fR (gd w.ac q.toNat)=I:=(by simp only[fR,M,m];rfl);have:dx w q=[]:=(by simp[dx,H]);rw[this];exact⟨rfl,U,rfl⟩
def Fq:FT:=pn Ot
def ayq{w q Lw K}:=rQ Fq Ot w q Lw K
structure jY where
 w:am
 ss:List aW
 deriving Inhabited,DecidableEq
def jY.c(x:jY):List AV:=x.w.c++[sl aW.c x.ss]
def j9{x y:jY}:(jY.c x=jY.c y)=(x=y):=by apply vp;constructor;intro h;obtain⟨d,xs⟩:=x;obtain⟨e,ys⟩:=y;have a:d.c=e.c:=(aqH h (by simp[am.c])).1;have b:=(aqH h (by simp[am.c])).2;simp only[NA] at a;simp only[kO,vm,amV] at b;rw[a,b];intro h;rw[h]
def apj:dO:=(78,EV)::(80,zf)::(181,Ft)::(217,zl)::(127,Gh)::(83,Fq)::api
def rf:eJ apj:=it (Rs NH) (it (aCb Ow) (it (Rs Ox) (it (aCb PN) (it (pg PQ) (it (aN0 Ot) (sf))))))
def rW:=ai @axV<|ai @ayt<|ai @ayu<|ai @azz<|ai @azC<|ai @ayq<|@aQS
abbrev aOO:List AV:=[(sv []),(bv I)]
def asy:=bi 31 [(5,([5,19],[2,17,18])),(12,([5,32],[2,30,31])),(22,([53],[10,51,52]))]
def aYI d(f:aG)(e:bu) g b a:=aV (gt d 1) (iv 1) λc=>f [b,c] a/\e [b,c] a<e d g
def aYJ c b g h i a:=ab 0 a c λe=>eV (aX C9 1 a [(0,e)]) λf d=>eV (j5 9 zz9 16 d 27 (gt b 0) f) (aYI b g h i)
def SL a(f:aG)(b:bu) g d c:=aV (gt a 1) (iv 1) λe=>f [d,e] c/\b [d,e] c<b a g
def aYK c a d e f b:=ab 0 b c λh=>eV (aX C9 1 b [(0,h)]) λi g=>eV (j5 9 zz9 16 g 40 (gt a 0) i) (SL a d e f)
def SN a(e:aG)(b:bu) f c:=aV (gt a 0) (iv 1) λd=>e [d] c/\b [d] c<b a f
def SS i h e R f g b a:=∀_:Rg,aU (gt b 0) i λj=>ah j (ao 1 a h (gt b 0) λk=>aM a k λd=>fV Gh a [d] λl=>cf l λc=>ic c e λm=>ic c d λn=>aC c (rV (oP ⟨I,[],(.bool I)⟩ a m n I)) λo=>aD c (bv U) o λp=>ah p (aE R a [(bv I)]) (sV (muA ⟨I,[],(.bool I)⟩ a e d (bv U)) (SN b f g a))) (aE R a [(bv U)])
def SO b R c a:=aJ a b λd=>lV [(iv 0)] a (SS d b c R)
def SP f R c a:=ab 4 a f λd=>eV (j5 9 zz9 16 a 49 c d) λe b=>eV (oS 223 b 50) (SO e R)
def SR i h d R e f b a:=∀_:Rg,aU (gt b 1) i λj=>ah j (ao 2 a h (gt b 1) λk=>aw 2 a k λl=>eV (bs 126 aPp a 9) λc g=>sV (aK 2 g c l) (aYK c b e f a)) (ab 3 a d λm=>eV (j5 9 zz9 16 a 45 (gt b 0) m) (SP d R))
def SU n m e R k l b a:=∀_:Rg,aU (gt b 1) n λg=>ah g (ao 2 a m (gt b 1) λh=>aw 2 a h λi=>eV (bs 124 aOO a 7) λc f=>sV (aK 2 f c i) (aYJ c b k l a)) (ab 2 a e λd=>aJ a d λj=>lV [(gt b 0),(iv 0)] a (SR j d e R))
def SQ a R t3 b:=ab 1 b a λc=>aJ b c λd=>lV [t3,(iv 0)] b (SU d c a R)
def aYH a b c R:=eV (j5 9 zz9 16 c 15 (.l [] U U) b) (SQ a R)
def aJZ{b:List AV}{c:AV}{R:d7}(l0:L b=6)(h:H1 31 6 2 b λd e=>aYH d c e R):Ct 77 [.a b,c] R:=z1 asy rf Tryz.func77 l0 h
def avk:=bi 2 []
def akI e d a R:=aw 6 a e λw=>aB 0 a d λx=>aw 4 a x λy=>fV zf a [w,y] λf=>aT f 4 a d λg=>az f (aJ a g) λh=>aT f 0 a e λi=>az f (aJ a i) λj=>az f (bf h j) λk=>aD f k (bv I) λb=>aT b 5 a d λl=>az b (aJ a l) λm=>aT b 3 a e λn=>az b (aJ a n) λo=>az b (bf m o) λp=>aD b p (bv I) λc=>aT c 6 a d λq=>az c (aJ a q) λr=>aT c 4 a e λs=>az c (aJ a s) λt=>az c (bf r t) λu=>aD c u (bv I) λv=>aE R a [v]
def aMP{b:List AV}{c:List AV}{R:d7}(l0:L b=6)(l1:L c=7)(h:H2 31 6 2 b 40 7 3 c λd e f=>akI d e f R):Ct 36 [.a b, .a c] R:=z2 avk rf Tryz.func36 l0 l1 h
def avf:=bi 2 []
def akt e d a R:=aw 6 a e λw=>aB 0 a d λx=>aw 4 a x λy=>fV zf a [w,y] λf=>aT f 4 a d λg=>az f (aJ a g) λh=>aT f 0 a e λi=>az f (aJ a i) λj=>az f (bf h j) λk=>aD f k (bv I) λb=>aT b 5 a d λl=>az b (aJ a l) λm=>aT b 3 a e λn=>az b (aJ a n) λo=>az b (bf m o) λp=>aD b p (bv I) λc=>aT c 6 a d λq=>az c (aJ a q) λr=>aT c 4 a e λs=>az c (aJ a s) λt=>az c (bf r t) λu=>aD c u (bv I) λv=>aE R a [v]
def aMK{b:List AV}{c:List AV}{R:d7}(l0:L b=6)(l1:L c=7)(h:H2 31 6 2 b 40 7 3 c λd e f=>akt d e f R):Ct 130 [.a b, .a c] R:=z2 avf rf Tryz.func130 l0 l1 h
def atH:=bi 35 [(9,([60],[2,4,5,6,11])),(22,([109],[2,4,5,6,11]))]
def abH a d P e h R f g:=∀_:Rg,ah (gt g 0) (ab 0 a d λi=>ab 2 a P λj=>ao 2 a j e λk=>ab 1 a k λl=>ao 2 a i l λm=>ab 0 a m λn=>bf n h λo=>aE R a [o]) (bf f (iv 20) λp=>ah p (aO .neq e h λb=>aT b 3 a d λq=>fm b e λr=>az b (ao 3 a q r) λs=>aT b 0 a s λt=>az b (bf t (iv 0)) λu=>aD b u (bv I) λv=>aE R a [v]) (bf f (iv 21) λw=>ah w (aO .neq e h λc=>aT c 3 a d λx=>fm c e λy=>az c (ao 3 a x y) λz=>aT c 0 a z λA=>az c (bf A (iv 5)) λB=>aD c B (bv I) λC=>aE R a [C]) (bf f (iv 22) λD=>ah D (ab 2 a d λE=>ao 1 a E e λF=>aM a F λG=>cf G λH=>aE R a [H]) (bf f (iv 23) λK=>ah K (ab 2 a d λM=>ao 1 a M e λN=>aM a N λO=>aE R a [O]) (aE R a [(bv U)])))))
def abJ d(a:cG):=bf d (iv 16) λb=>ah b (a [b]) (bf d (iv 18) λc=>ah c (a [c]) (bf d (iv 19) λe=>a [e]))
def abI a b e d R c E n:=∀_:Rg,ah (gt n 0) (ab 0 a b λo=>ao 2 a o e λp=>ab 0 a p λq=>bf q d λr=>aE R a [r]) (bf c (iv 9) λs=>ah s (ab 0 a b λt=>ao 2 a t e λu=>ab 1 a u λv=>fV zl a [v,d] λw=>aE R a [w]) (bf c (iv 12) λx=>ah x (ab 1 a b λy=>bf y (iv (-1)) λz=>aE R a [z]) (bf c (iv 13) λA=>ah A (ab 1 a b λB=>bf B d λC=>aE R a [C]) (bf c (iv 14) λD=>ah D (ab 3 a b λf=>ao 3 a f d λg=>ab 2 a g λh=>cf h λi=>aE R a [i]) (bf c (iv 15) λj=>ah j (ab 3 a b λk=>ao 3 a k d λl=>ab 2 a l λm=>aE R a [m]) (jR 22 (abH a b E e d R c) (abJ c)))))))
def abK d(b:cG):=bf d (iv 7) λa=>ah a (b [a]) (bf d (iv 11) λc=>b [c])
def abG G d g f e a R:=bf f (iv 6) λH=>ah H (ab 0 a d λK=>ao 2 a K e λM=>ab 0 a M λh=>bf h (iv (-1)) λi=>aE R a [i]) (bf f (iv 10) λj=>ah j (ab 0 a d λk=>ao 2 a k e λl=>ab 0 a l λm=>bf m (iv (-1)) λc=>aT c 0 a d λn=>fm c e λo=>az c (ao 2 a n o) λp=>aT c 1 a p λq=>az c (aJ a q) λr=>az c (bf r (iv 0)) λs=>aD c s (bv I) λt=>aE R a [t]) (bf f (iv 8) λu=>ah u (ab 0 a d λv=>ao 2 a v e λw=>ab 0 a w λx=>bf x (iv (-1)) λb=>aT b 0 a d λy=>fm b e λz=>az b (ao 2 a y z) λA=>aT b 1 a A λB=>fm b g λC=>az b (fV zl a [B,C]) λD=>az b (cf D) λE=>aD b E (bv I) λF=>aE R a [F]) (jR 9 (abI a d e g R f G) (abK f))))
def aK9{b:List AV}{c:List AV}{d:AV}{e:AV}{f:AV}{R:d7}(l0:L b=6)(l1:L c=4)(h:H2 31 6 5 b 36 4 6 c λg i j=>abG g i d e f j R):Ct 182 [.a b, .a c,d,e,f] R:=z2 atH rf Tryz.func182 l0 l1 h
def avn:=bi 38 [(4,([17],[1,3,15,16])),(17,([6,54],[1,3,15,16,17,52,53])),(30,([89],[3,87,88]))]
def Ka p o y R j(z:aG)(m:bu) A(k:aG)(i:bu) b a:=∀_:Rg,aU (gt b 1) p λq=>ah q (ao 1 a o (gt b 1) λr=>aM a r λd=>aO .leq d (gt b 0) λc=>ic c (.f 81 [] [y]) λs=>ic c d λt=>gE (gP I c) (λl=>cF s [t] a 64 λu n=>l u n) a λv e=>aC c (cf v) λw=>aD c (bv U) w λx=>ah x (aE R e [(bv I)]) (aV (gt b 1) (iv 1) λg=>k [d,g] e/\i [d,g] e<i b a)) (aV (gt j 0) (iv 1) λh=>z [h] a/\m [h] a<m j A)
def akV c h R j G H K e:=ab 0 e c λm=>aO .neq m (iv (-1)) λd=>fm d (.f 81 [] [h]) λn=>aT d 0 e c λo=>gE (gP U d) (λk=>cF n [o] e 29 λp l=>k p l) e λq a=>az d (cf q) λr=>aD d r (bv I) λs=>ah s (aE R a [(bv I)]) (ab 1 a c λt=>aJ a t λu=>aO .gtr u (iv 0) λb=>az b (aB 0 a h) λv=>aT b 1 a v λw=>fm b (gt j 0) λx=>az b (ao 2 a w x) λy=>aT b 1 a y λz=>az b (cf z) λA=>fm b A λg=>bn g 0 a c λB=>aC g (aO .neq B (iv (-1))) λC=>az b (aD g (bv U) C) λD=>aD b D (bv I) λE=>ah E (aE R a [(bv I)]) (ab 1 a c λi=>aJ a i λF=>lV [(iv (-1)),(iv 0)] a (Ka F i h R j G H K)))
def akW h s b R(i:aG)(e:bu) k c:=ab 2 c h λa=>fm a (.f 81 [] [s]) λm=>fm a (gt b 0) λn=>gE (gP U a) (λj=>cF m [n] c 99 λo l=>j o l) c λp d=>az a (cf p) λq=>aD a q (bv I) λr=>ah r (aE R d [(bv I)]) (aV (gt b 0) (iv 1) λg=>i [g] d/\e [g] d<e b k)
def Kb h g l R d e b a:=∀_:Rg,aU (gt b 0) h λi=>ah i (ao 3 a g (gt b 0) λj=>aw 3 a j λk=>eV (bs 105 aNB a 10) λc f=>sV (aK 3 f c k) (akW c l b R d e a)) (aE R a [(bv U)])
def akX F E d R C D g c:=∀_:Rg,aU (gt g 0) F λz=>ah z (ao 2 c E (gt g 0) λA=>aw 2 c A λB=>eV (bs 131 aO9 c 5) λh y=>sV (aK 2 y h B) (akV h d R g C D c)) (aB 7 c d λk=>aB 0 c k λl=>ab 1 c l λm=>aO .neq m (iv (-1)) λa=>fm a (.f 81 [] [d]) λn=>az a (aB 7 c d) λo=>az a (aB 0 c o) λp=>aT a 1 c p λq=>gE (gP U a) (λi=>cF n [q] c 81 λr j=>i r j) c λs b=>az a (cf s) λt=>aD a t (bv I) λu=>ah u (aE R b [(bv I)]) (aB 7 b d λv=>aB 0 b v λw=>ab 3 b w λe=>aJ b e λx=>lV [(iv 0)] b (Kb x e d R)))
def akU b a R:=aB 7 a b λt3=>aB 0 a t3 λt4=>ab 0 a t4 λc=>aJ a c λd=>lV [(iv 0)] a (akX d c b R)
def aMS{b:List AV}{R:d7}(l0:L b=15)(h:H1 43 15 1 b λc d=>akU c d R):Ct 39 [.a b] R:=z1 avn rf Tryz.func39 l0 h
def aD7{t:TypeId}{Y:ae}{d:Nat}{K:be}(a:d<L Y)(c:∀Y',Fr Y Y' [d]->box Y' (d,(aZ Y d).lB+1)=V ⟨t,0,U,U,[[]]⟩->K (.g 0 (d,(aZ Y d).lB+1) 0 0) Y'):eV (oS t Y d) K:=by have b:oS t Y d=V (.g 0 (d,(aZ Y d).lB+1) 0 0,put Y d ⟨t,0,U,U,[[]]⟩):=(by simp[oS,y7,a,lA]);rw[b];exact c _ ⟨D3,λk f=>yk (λe=>f (by simp[e]))⟩ (zQ a rfl)
abbrev yG(l:List ByteArray):List (Value×Value):=l.map λn=>(.string n, .bool U)
def av7{a b:ByteArray}(h:a≠b):(a==b)=I:=by obtain⟨a⟩:=a;obtain⟨b⟩:=b;have:a≠b:=λe=>h (by rw[e]);show(a==b)=I;simpa using this
def KU{s:ByteArray}:∀{l:List ByteArray} {i:Nat},s∉l->lg ⟨I,[], .bool I⟩ (.string s) (yG l) i=V J
 |[],_,_=>rfl
 |x::l,i,h=>by
  have a:(s==x)=I:=av7 (by simp at h;exact h.1)
  simp only[yG,ji,lg,pO,a]
  exact KU (λb=>h (zu _ b))
def aDr{Y:ae}{b:Id}{t:TypeId}{s:ByteArray}{l:List ByteArray}{o n:Nat}(a:box Y b=V ⟨t,0,U,U,[(yG l).map ent]⟩)(h:s∉l):oP ⟨I,[], .bool I⟩ Y (.g 0 b o n) (st s) I=V (bv I):=by simp only[oP,ww,a,qd,ul,y6,vg,KG,qR,KU h,eE,aB9]
def aEb{Y:ae}{b:Id}{t:TypeId}{s:ByteArray}{l:List ByteArray}{o n:Nat}{K:ae->Prop}(a:box Y b=V ⟨t,0,U,U,[(yG l).map ent]⟩)(h:s∉l)(c:∀Y',Fr Y Y' [b.1]->box Y' b=V ⟨t,0,U,U,[(yG (l++[s])).map ent]⟩->K Y'):sV (muA ⟨I,[], .bool I⟩ Y (.g 0 b o n) (st s) (bv U)) K:=by simp only[muA,ww,a,ul,y6,vg,KG,qR,KU h];refine c _ ⟨uC,λk d=>wy (λe=>d (by simp[e]))⟩ ?_;rw[lO a];simp
def aBJ{Y:ae}{ds:List Nat}{e:TypeId}{a:AV}{l:List ByteArray}{k:Nat}{K:d7}(f:Gr Y ds e 1 a (l.map cs))(b:k<L l):(rV (cz 1 Y a (iv k)) λt=>rV (kb J Y t) K)=K (st (gd l k)):=by rcases f with⟨c,_⟩|⟨d,v,rfl,_,g⟩;simp at c;subst c;simp at b;simp[cz,g,b,rV,kb,iE,aN,bT b]
def avR{l:List ByteArray}{s:ByteArray}(h:¬0<=tX l s):s∉l:=by intro b;apply h;have:(l.findIdx? λx=>Q (x=s)).isSome=U:=(by rw[RM,tL];exact⟨s,b,by simp⟩);obtain⟨i,a⟩:=zz.1 this;rw[tX,a];simp
def wB(w:br)(vs:List ByteArray):List ByteArray:=vs++w.ak.map (·.name)++w.bC.map (·.name)++w.bU++w.ay
def NJ(w:br)(vs:List ByteArray)(hp:(∀j,j<L (wB w vs)->yn (wB w vs) j=I)/\L (wB w vs)<=100):Ct 77 [.a w.c,sl cs vs] (·=bv U):=by refine aJZ rfl λs2 P Z h0=>?_;obtain⟨hN,R⟩:=hp;have am:L vs+L w.ak+L w.bC+L w.bU+L w.ay<=100:=(by simp only[wB,P8,bJ] at R;omega);simp only[aYH,↓uL];refine fP (aa:=[]) (ds:=[15,27,40,45,49]) (new:=vs.map cs) Gr.nil rfl (by decide) (by decide) (by rw[P];decide) (by simp) oX (by simp;omega) λa0 W g0 B=>?_;have H:box W (2,1)=_:=B.bt Z;simp only[SQ,u0,u1,H,rk,aj,dc,cT,↓uL];refine iu (λa i=>[a,iv i]) 1 [15,27,40,45,49] [15,27,40,45,49,7] 9 1 (L w.ak) (λk=>(vs++(w.ak.take k).map (·.name)).map cs) (λ_=>True) trivial (by simpa using g0) λk a1 E N _ g1 p=>?_;have K:box E (2,1)=_:=p.bt H;have l1:L E=4096:=(by rw[p.1,B.1,P]);simp only[SU,aI,u0,u1,K,rk,aj,dc,ix,bh,au,ck,cT,↓uL];refine⟨λf=>⟨bA f,?_⟩,λf=>?_⟩;refine eF rfl rfl (by decide) (by rw[l1];decide) λr e b2=>?_;simp only[aYJ,u0,u1,b2,rk,aj,iz,au,↓uL];refine fP (g1.fr e (by decide)) rfl (by decide) (by decide) (by rw[e.1,l1];decide) oX (by simp) (by simp;omega) λX s y b=>?_;simp only[aYI,au,ck,cS,aY,↓uL];refine C0 (mk:=λa i=>[a,iv i]) (λ_ _=>rfl) (aL f) (by omega) trivial ?_ (p.trans ((e.mono (by decide)).trans (b.mono (by decide))));rw[Ez (aL f)];exact y;obtain rfl:k=L w.ak:=bP N (bw f);rw[gV] at g1;refine iu (λa i=>[a,iv i]) 1 [15,27,40,45,49] [15,27,40,45,49,9] 9 1 (L w.bC) (λk=>(vs++w.ak.map (·.name)++(w.bC.take k).map (·.name)).map cs) (λ_=>True) trivial (by simpa using g1) λk a2 r O _ x e=>?_;have M:box r (2,1)=_:=e.bt K;have l:L r=4096:=(by rw[e.1,l1]);simp only[SR,aI,u0,u1,M,rk,aj,dc,ix,bh,au,ck,↓uL];refine⟨λg=>⟨bA g,?_⟩,λg=>?_⟩;refine eF rfl rfl (by decide) (by rw[l];decide) λs b b3=>?_;simp only[aYK,u0,u1,b3,rk,aj,iz,au,↓uL];refine fP (x.fr b (by decide)) rfl (by decide) (by decide) (by rw[b.1,l];decide) oX (by simp) (by simp;omega) λF t z q=>?_;simp only[SL,au,ck,cS,aY,↓uL];refine C0 (mk:=λa i=>[a,iv i]) (λ_ _=>rfl) (aL g) (by omega) trivial ?_ (e.trans ((b.mono (by decide)).trans (q.mono (by decide))));rw[Ez (aL g)];exact z;obtain rfl:k=L w.bC:=bP O (bw g);rw[gV] at x;refine fP (new:=w.bU.map cs) x rfl (by decide) (by decide) (by rw[l];decide) oX oX (by simp;omega) λX s y b=>?_;have c3:box s (2,1)=_:=b.bt M;simp only[SP,u0,u1,c3,rk,aj,↓uL];refine fP (new:=w.ay.map cs) y rfl (by decide) (by decide) (by rw[b.1,l];decide) (by rw[<-dg];exact oX) oX (by simp;omega) λF t z q=>?_;have S:L t=4096:=(by rw[q.1,b.1,l]);refine aD7 (by rw[S];decide) λu C b5=>?_;have m:=z.fr C (by decide);rw[<-dg,<-dg] at m;change Gr u _ 9 1 F ((wB w vs).map cs) at m;have an:L u=4096:=(by rw[C.1,S]);generalize wB w vs=n at*;generalize(aZ t 50).lB+1=v at*;simp only[SO,aDk m,aY,bJ,↓uL];refine yV (L n) (λk _ Y'=>box Y' (50,v)=V ⟨223,0,U,U,[(yG (n.take k)).map ent]⟩/\Fr u Y' [50]) ⟨by simpa using b5,Fr.refl _ _⟩ ?_;rintro k _ Y6 hk ⟨G,D⟩;have g6:=m.fr D (by decide);simp only[SS,aI,au,u0,u1,↓uL];refine⟨λh=>?_,λh=>trivial⟩;have d:=aL h;have A:=hN k d;simp only[yn,cP,fK,o8] at A;have o:=avR A.2;rw[aBJ g6 d];simp+contextual only[u0,u1,ar,rW,A.1,aDr G o,mn,↓uL];refine⟨λh=>(nomatch h),?_⟩;intro _;refine aEb G o λY7 T b7=>?_;simp only[SN,au,u0,u1,↓uL];refine yU d ⟨?_,D.trans T⟩;rw[iJ d,<-bT d];exact b7
def EX:FT:=gz NJ
def axX{w vs Lw K}:=gX EX NJ w vs Lw K (j:=by simp+contextual only[ij,j9])
def PY(w:br)(s:bW)(d:fN w s=U/\L w.bC<=2):Ct 36 [.a w.c, .a s.c] (·=bv U):=by refine aMP rfl rfl λs0 l e f k=>?_;have b:=d.1;simp only[fN,bN,lS] at b;obtain⟨g,h,i,j⟩:=b;simp+contextual only[akI,u0,u1,e,f,rk,ix,cT,aj,dc,ar,rW,g,h,i,j,d.2,y6,mn,↓uL];simp
def Gp:FT:=gz PY
def azK{w s Lw K}:=gX Gp PY w s Lw K (j:=by simp+contextual only[ij,j9])
def PT(w:br)(s:bW)(d:fN w s=U/\L w.bC<=2):Ct 130 [.a w.c, .a s.c] (·=bv U):=by refine aMK rfl rfl λs0 l e f k=>?_;have b:=d.1;simp only[fN,bN,lS] at b;obtain⟨g,h,i,j⟩:=b;simp+contextual only[akt,u0,u1,e,f,rk,ix,cT,aj,dc,ar,rW,g,h,i,j,d.2,y6,mn,↓uL];simp
def Gk:FT:=gz PT
def azF{w s Lw K}:=gX Gk PT w s Lw K (j:=by simp+contextual only[ij,j9])
def QO(w:br)(s:aW)(t a bb:Int):Bool:=
 bif Q (a=6) then Q ((gd s.ak bb.toNat).pw= -1)
 else bif Q (a=10) then Q ((gd s.ak bb.toNat).pw= -1)&&Q (L (gd s.ak bb.toNat).bk=0)
 else bif Q (a=8) then Q ((gd s.ak bb.toNat).pw= -1)&&!Q (t∈(gd s.ak bb.toNat).bk)
 else bif Q (a=7)||Q (a=11) then Q ((gd s.ak bb.toNat).pw=t)
 else bif Q (a=9) then Q (t∈(gd s.ak bb.toNat).bk)
 else bif Q (a=12) then Q (s.tx= -1)
 else bif Q (a=13) then Q (s.tx=t)
 else bif Q (a=14) then !(gd s.ay t.toNat).atomic
 else bif Q (a=15) then(gd s.ay t.toNat).atomic
 else bif Q (a=16)||(Q (a=18)||Q (a=19)) then Q ((gd s.ak (gd w.bC bb.toNat).eg.toNat).pw=t)
 else bif Q (a=20) then Q (bb≠t)&&Q ((gd s.ay bb.toNat).cQ=0)
 else bif Q (a=21) then Q (bb≠t)&&Q ((gd s.ay bb.toNat).cQ=5)
 else bif Q (a=22) then !(gd s.done bb.toNat)
 else bif Q (a=23) then gd s.done bb.toNat
 else U
def axG{w:br}{s:aW}{t a bb:Int}:lc w s t a bb=bif Q (a=1) then Q ((gd s.ay t.toNat).cQ=1)
 else bif Q (a=17) then Q ((gd s.ay t.toNat).cQ=4)&&(Q ((gd s.ay t.toNat).cond=bb)&&Q ((gd s.ak (gd w.bC bb.toNat).eg.toNat).pw= -1))
 else bif Q ((gd s.ay t.toNat).cQ≠2) then I else QO w s t a bb:=rfl
structure KF(w:br)(s:aW)(kind bb:Int):Prop where
 mI:aF (L w.bC) bb->aF (L s.ak) (gd w.bC bb.toNat).eg
 lk:6<=kind->kind<=11->aF (L s.ak) bb
 cd:16<=kind->kind<=19->aF (L w.bC) bb
 th:20<=kind->kind<=21->aF (L s.ay) bb
 dn:22<=kind->kind<=23->aF (L s.done) bb
def D0{w:br}{s:aW}{c bb:Int}(j:lh w s=U)(d:named w c bb=U):KF w s c bb:=by obtain⟨f,e,g,i⟩:=iY j;exact⟨λh=>by rw[e];exact f _ (ii h),λa b=>by rw[e];exact mJ d a b,λa b=>oT d a b,λa b=>by rw[i];exact Eb d a b,λa b=>by rw[g];exact oU d a b⟩
def Oy(w:br)(s:aW)(t b bb:Int)(A:lh w s=U/\named w b bb=U/\aF (L s.ay) t/\(∀l∈s.ak,L l.bk<100000)):Ct 182 [.a w.c, .a s.c,iv t,iv b,iv bb] (·=bv (QO w s t b bb)):=by refine aK9 rfl rfl λM K r u H=>?_;obtain⟨y,z,k,m⟩:=A;obtain⟨F,d,v,q,j⟩:=D0 y z;have B:Q (b=6)=U->aF (L s.ak) bb:=λe=>(by simp at e;exact d (by omega) (by omega));have n:Q (b=10)=U->aF (L s.ak) bb:=λe=>(by simp at e;exact d (by omega) (by omega));have D:Q (b=8)=U->aF (L s.ak) bb:=λe=>(by simp at e;exact d (by omega) (by omega));have E:Q (b=9)=U->aF (L s.ak) bb:=λe=>(by simp at e;exact d (by omega) (by omega));have C:(Q (b=7)||Q (b=11))=U->aF (L s.ak) bb:=λe=>(by simp at e;exact d (by omega) (by omega));have f:(Q (b=16)||(Q (b=18)||Q (b=19)))=U->aF (L w.bC) bb:=λe=>(by simp at e;exact v (by omega) (by omega));have o:Q (b=20)=U->aF (L s.ay) bb:=λe=>(by simp at e;exact q (by omega) (by omega));have p:Q (b=21)=U->aF (L s.ay) bb:=λe=>(by simp at e;exact q (by omega) (by omega));have g:Q (b=22)=U->aF (L s.done) bb:=λe=>(by simp at e;exact j (by omega) (by omega));have i:Q (b=23)=U->aF (L s.done) bb:=λe=>(by simp at e;exact j (by omega) (by omega));have G:aF (L s.ak) bb->L (gd s.ak bb.toNat).bk<4611686018427387904:=λh=>(by have:=m _ (ii h);omega);have x:(L (gd s.ak bb.toNat).bk:Int)=0↔L (gd s.ak bb.toNat).bk=0:=(by omega);simp only[abG,↓uL];simp+contextual (maxSteps:=3000000) only[f8,abJ,abH,abK,abI,sw,aI,au,↓iC,↓iB,↓iS,u0,u1,rW,ar,r,u,rk,ix,cT,aj,↓uL];simp+contextual (maxSteps:=3000000) only[QO,aly,aIc,F,B,C,D,E,n,f,o,p,g,i,G,x,k,mn,vm,vb,y6,Bool.true_or,lG,wY,kz,Bool.true_eq_false,eE,Ca];done
def Fu:FT:=zb Oy
def ayv{w s t kind bb Lw K}:=KQ Fu Oy w s t kind bb Lw K (j:=by simp+contextual only[ij,j9])
structure nK(x:jY):Prop where
 wo:kB x.w
 ss:x.ss=(aH (L x.w.ac)).map λk=>(cY x.w k).bm
def nK.at{x:jY}(h:nK x){k:Nat}(b:k<L x.w.ac):gd x.ss k=(cY x.w k).bm/\k<L x.ss:=by have a:k<L x.ss:=(by rw[h.ss];simpa using b);refine⟨?_,a⟩;rw[bT a];simp[h.ss]
def qI{n:Nat}{i:Int}(h:aF n i):i.toNat<n:=by have:=h.1;have:=h.2;omega
def nK.ix{x:jY}(h:nK x){i:Int}(a:aF (L x.w.ac) i):aF (L x.ss) i/\gd x.ss i.toNat=(cY x.w i.toNat).bm:=by have b:=h.at (qI a);refine⟨⟨a.1,?_⟩,b.1⟩;have:=b.2;have:=a.1;omega
def nK.kf{x:jY}(h:nK x){i j:Int}(b:aF (L x.w.ac) i)(c:aF (L x.w.ac) j):KF x.w.aQ (cY x.w j.toNat).bm (gd x.w.ac i.toNat).kind (gd x.w.ac i.toNat).bb:=by have a:=(h.wo.st _ (qI c)).2;simp only[fN,bN] at a;exact D0 a.1 (h.wo.named (qI b)).1
def slE{l:List aP}{i j:Int}{Y:ae}{K:d7}:rV (fo 7 Y (sl aP.c l) (V (iv i)) (V (iv j)) J) K=((0<=i/\i<=j/\j<=L l)/\K (sl aP.c ((l.take j.toNat).drop i.toNat))):=by simp only[fo,lM,sl];by_cases a:0<=i;by_cases d:0<=j;simp only[a,d,vg,qY,sD,mi,bJ,mn];by_cases b:i<=j/\j<=L l;have e:i.toNat<=j.toNat/\j.toNat<=L l:=(by omega);rw[bX ⟨e.1,e.2,by simp[aP.c]⟩];simp only[vg,rV,b,y6,mn,kM];have:((l.map aP.c).drop i.toNat).take (j.toNat-i.toNat)=((l.take j.toNat).drop i.toNat).map aP.c:=(by rw[GK,GL,List.drop_take]);rw[this];rw[cj (λh=>b (by have:=h.1;have:=h.2.1;omega))];simp[rV,b];simp only[a,d,vg,aB9];simp[rV];omega;simp[a,rV]
def Dq{b:Bool}{A:(be)->Prop}{Y:ae}{K:be}(a:b=U->A K)(c:b=I->K (.t []) Y):gF b A Y K:=by(cases b);exact c rfl;exact a rfl
def Bc{a:AV}{b:Bool}:mL (bv I) a (bv b)=V (bv b):=rfl
def Dc{Y:ae}{d:Nat}{K:be}{b:Id}{w:am}{t:Int}(g:box Y b=V ⟨43,15,U,U,[w.c]⟩)(i:L Y=4096)(e:K (bv (nO w t)) Y):cF (.f 81 [] [.p b 0 0]) [iv t] Y d K:=by simp only[cF,rn];rw[cj (show¬GG.nw 81=U by decide),bX (show GG.imp 81=U by decide)];refine(aS2 rfl (aMT i ?_) e:cB 81 [iv t, .p b 0 0] Y d K);simp+contextual only[aV0,u0,u1,g,rk,ix,cT,aj,dc,fe,aoz,↓uL];refine⟨λh=>?_,?_,Fx.refl _ _⟩;intro a;exact⟨by simpa using h,by simpa using a⟩;simp[nO,dh,BI]
def Qa(w:am)(hp:ny w=U/\L w.init.bm.ak=L w.aQ.ak/\L w.aQ.ak<=4/\L w.init.bm.ay<=4/\(∀l∈w.init.bm.ak,L l.bk<=100)):Ct 39 [.a w.c] (·=bv U):=by refine aMS rfl λs2 hl F h0=>?_;obtain⟨G,K,af,ag,M⟩:=hp;simp only[ny,bN,lS,eH] at G;obtain⟨X,z,Z⟩:=G;simp+contextual only[akU,u0,u1,F,rk,aj,dc,cT,↓uL];refine pQ (L w.init.bm.ak) [5] (λk=>True) trivial λk Y hk hc D=>?_;have m:box Y (1,1)=V ⟨43,15,U,U,[w.c]⟩:=D.bt F;have f:L Y=4096:=(by rw[D.1,hl]);simp+contextual only[akX,u0,u1,m,ix,rk,bh,au,aI,aj,dc,cT,↓uL];refine⟨λh=>⟨bA h,?_⟩,λh=>?_⟩;refine eF rfl rfl (by decide) (by rw[f];decide) λv B C=>?_;have y:box v (1,1)=V ⟨43,15,U,U,[w.c]⟩:=B.bt m;have q:L v=4096:=(by rw[B.1,f]);have H:=X k (aL h);obtain⟨d,N⟩:=H;simp only[AM,cP] at d;simp+contextual only[akV,u0,u1,C,rk,aj,au,↓uL];have ah:L (gd w.init.bm.ak k).bk<=100:=M _ (dB (aL h));have oO:lV [iv (-1),iv 0] v (Ka (iv (L (gd w.init.bm.ak k).bk:Int)) (sl ci (gd w.init.bm.ak k).bk) (.p (1,1) 0 0) (λx=>x=bv U) [iv k] (fI s2 [5] (L w.init.bm.ak) λk=>True) (fM (L w.init.bm.ak)) Y):=(by refine jD (α:=Int) (λa i=>[iv a,iv i]) 1 (L (gd w.init.bm.ak k).bk) (λi a Y'=>(a=if i=0 then-1 else gd (gd w.init.bm.ak k).bk (i-1))/\Y'=v) (s0:= -1) ⟨by simp,rfl⟩ ?_;rintro i _ _ hi ⟨rfl,rfl⟩;simp+contextual only[Ka,aI,u0,u1,ix,rk,bh,au,ck,↓uL];refine⟨λe=>⟨bA e,?_⟩,λe=>?_⟩;obtain⟨E,r2⟩:=N i (aL e);have o:Q (gd (gd w.init.bm.ak k).bk i<=if i=0 then-1 else gd (gd w.init.bm.ak k).bk (i-1))=I:=(by simp only[nO,bN] at E;have:=(dX.1 E.1).1;rw[o8];split;omega;have:=r2 (by omega);omega);refine Dq (λb=>Dc y q ?_) (λb=>by rw[o] at b;cases b);simp+contextual only[u0,u1,au,ck,o,E,fh,kN,jA,qE,kz,eE,Ca,O9,mn,↓uL];refine dR (mk:=λa i=>[iv a,iv i]) (p:=1) (s:=if i=0 then-1 else gd (gd w.init.bm.ak k).bk (i-1)) (s':=gd (gd w.init.bm.ak k).bk i) (λ_ _=>rfl) (aL e) (by omega) ?_;exact⟨by simp,rfl⟩;exact oL (aL h) (by omega) trivial (D.trans B));have A:Q (0<(L (gd w.init.bm.ak k).bk:Int))=U->aF (L w.aQ.ak) (k:Int):=λ_=>(by rw[<-K];exact bA h);have g:=d.2;refine Dq (λb=>Dc y q ?_) (λb=>?_);simp+contextual only[u0,u1,C,y,rk,ix,aj,au,cT,b,↓uL];rw[b] at d g;refine⟨λj=>?_,λ_=>⟨A,λj=>?_,λ_=>oO⟩⟩;rw[j] at d;exact nl d.1 (by simp);rw[bh] at j;rw[j] at g;cases g;simp+contextual only[u0,u1,C,y,rk,ix,aj,au,cT,b,jN,Bc,↓uL];rw[b] at d g;simp only[kz] at g;refine⟨λh=>(nomatch h),λ_=>⟨A,λj=>?_,λ_=>oO⟩⟩;rw[bh] at j;rw[j] at g;cases g;have t:lV [iv 0] Y (Kb (iv (L w.init.bm.ay:Int)) (sl bF.c w.init.bm.ay) (.p (1,1) 0 0) λx=>x=bv U):=(by refine pQ (L w.init.bm.ay) [10] (λk=>True) trivial λi P hi _ n=>?_;have T:box P (1,1)=V ⟨43,15,U,U,[w.c]⟩:=n.bt m;simp+contextual only[Kb,aI,u0,u1,ix,rk,bh,au,↓uL];refine⟨λe=>⟨bA e,?_⟩,λ_=>trivial⟩;refine eF rfl rfl (by decide) (by rw[n.1,f];decide) λR u S=>?_;have W:box R (1,1)=V ⟨43,15,U,U,[w.c]⟩:=u.bt T;have O:=Z i (aL e);simp only[pX,bN,eH] at O;have r:=O.1;simp+contextual only[akW,u0,u1,S,rk,aj,au,↓uL];refine Dq (λb=>Dc W (by rw[u.1,n.1,f]) ?_) (λb=>?_);rw[b] at r;simp only[iw,fK] at r;simp+contextual only[u0,u1,b,r,fh,eE,Ca,O9,mn,↓uL];exact oL (aL e) (by omega) trivial (n.trans u);simp+contextual only[u0,u1,b,jN,Bc,eE,Ca,O9,mn,↓uL];exact oL (aL e) (by omega) trivial (n.trans u));simp only[yS] at z;refine Dq (λb=>Dc m f ?_) (λb=>?_);rw[b] at z;simp only[iw,fK] at z;simp+contextual only[u0,u1,m,rk,aj,dc,cT,b,z,fh,eE,Ca,O9,mn,↓uL];exact t;simp+contextual only[u0,u1,m,rk,aj,dc,cT,b,jN,Bc,eE,Ca,O9,mn,↓uL];exact t
def Gt:FT:=mT Qa
def azN{w Lw K}:=oK Gt Qa w Lw K (j:=by simp+contextual only[ij,j9])
def apk:dO:=(77,EX)::(36,Gp)::(130,Gk)::(182,Fu)::(39,Gt)::apj
def Rd:eJ apk:=it (aCb NJ) (it (aCb PY) (it (aCb PT) (it (Rt Oy) (it (pg Qa) (rf)))))
def aBm:=ai @axX<|ai @azK<|ai @azF<|ai @ayv<|ai @azN<|@rW
def asu:=bi 2 []
def Sv a s0 R:=aO .neq a a λt1=>aE R s0 [t1]
def aJV{a:AV}{R:d7}(h:H0 λs0=>Sv a s0 R):Ct 259 [a] R:=z0 asu Rd Tryz.func259 h
def atx:=bi 11 [(1,([0,2],[])),(4,([0,2],[])),(7,([0,2],[]))]
def aaC R s0 a:=∀_:Rg,rV (sO (V .u8) (gt a 0)) λt4=>rV (sxA (sv [0,1,2,2,3,3,3,3,4,4,4,4,4,4,4,4,5,5,5,5,5,5,5,5,5,5,5,5,5,5,5,5,6,6,6,6,6,6,6,6,6,6,6,6,6,6,6,6,6,6,6,6,6,6,6,6,6,6,6,6,6,6,6,6,7,7,7,7,7,7,7,7,7,7,7,7,7,7,7,7,7,7,7,7,7,7,7,7,7,7,7,7,7,7,7,7,7,7,7,7,7,7,7,7,7,7,7,7,7,7,7,7,7,7,7,7,7,7,7,7,7,7,7,7,7,7,7,7,8,8,8,8,8,8,8,8,8,8,8,8,8,8,8,8,8,8,8,8,8,8,8,8,8,8,8,8,8,8,8,8,8,8,8,8,8,8,8,8,8,8,8,8,8,8,8,8,8,8,8,8,8,8,8,8,8,8,8,8,8,8,8,8,8,8,8,8,8,8,8,8,8,8,8,8,8,8,8,8,8,8,8,8,8,8,8,8,8,8,8,8,8,8,8,8,8,8,8,8,8,8,8,8,8,8,8,8,8,8,8,8,8,8,8,8,8,8,8,8,8,8,8,8,8,8,8,8]) t4) λb=>rV (sO (V .i64) b) λc=>aV (gt a 1) c λd=>aE R s0 [d]
def aaF a(b:cG):=aO .geq (gt a 0) (.s (.int .u64 256)) λd=>ah d (aO .shr (gt a 0) (.s (.int .u64 8)) λe=>aV (gt a 1) (iv 8) λc=>b [e,c]) (b [(gt a 0),(gt a 1)])
def aaB R s0 a:=∀_:Rg,jR 7 (aaC R s0) (aaF a)
def aaE a(b:cG):=aO .geq (gt a 0) (.s (.int .u64 65536)) λc=>ah c (aO .shr (gt a 0) (.s (.int .u64 16)) λd=>aV (gt a 1) (iv 16) λe=>b [d,e]) (b [(gt a 0),(gt a 1)])
def aaA R s0 a:=∀_:Rg,jR 4 (aaB R s0) (aaE a)
def aaD a(b:cG):=aO .geq a (.s (.int .u64 4294967296)) λc=>ah c (aO .shr a (.s (.int .u64 32)) λd=>b [d,(iv 32)]) (b [a,(iv 0)])
def aaz a s0 R:=jR 1 (aaA R s0) (aaD a)
def aKY{a:AV}{R:d7}(h:H0 λs0=>aaz a s0 R):Ct 247 [a] R:=z0 atx Rd Tryz.func247 h
def NF(x:Int):Ct 259 [iv x] (·=bv I):=by refine aJV λs0 b a=>?_;simp only[Sv,u0,u1,aNQ,bdU,aNE,↓uL]
def BO:FT:=lH NF
def axT{x Lw K}:=np BO NF x Lw K
def avZ{a b:Int}:wl .geq 0 [] (.s (.int .u64 a)) (.s (.int .u64 b))=V (bv (Q (b<=a))):=rfl
def Oo(n:Int)(g:0<=n/\n<=12):Ct 247 [.s (.int .u64 n)] (λr=>∃k:Int,r=iv k):=by refine aKY λs0 f e=>?_;obtain⟨m,rfl⟩:∃m:Nat,n=m:=⟨n.toNat,by omega⟩;have d:m<=12:=(by omega);have a:Q (4294967296<=(m:Int))=I:=(by simp;omega);have b:Q (65536<=(m:Int))=I:=(by simp;omega);have c:Q (256<=(m:Int))=I:=(by simp;omega);simp+contextual only[aaC,aaF,aaB,aaE,aaA,aaD,aaz,f8,u0,avZ,au,ck,a,b,c,aI,↓iB,eE,Ca,O9,mn,↓uL];match m,d with|0,_=>exact⟨rfl,_,rfl⟩|1,_=>exact⟨rfl,_,rfl⟩|2,_=>exact⟨rfl,_,rfl⟩|3,_=>exact⟨rfl,_,rfl⟩|4,_=>exact⟨rfl,_,rfl⟩|5,_=>exact⟨rfl,_,rfl⟩|6,_=>exact⟨rfl,_,rfl⟩|7,_=>exact⟨rfl,_,rfl⟩|8,_=>exact⟨rfl,_,rfl⟩|9,_=>exact⟨rfl,_,rfl⟩|10,_=>exact⟨rfl,_,rfl⟩|11,_=>exact⟨rfl,_,rfl⟩|12,_=>exact⟨rfl,_,rfl⟩
def Fo:FT:=om Oo
def ayo{n Lw K}:=qz Fo Oo n Lw K
def apm:dO:=(259,BO)::(247,Fo)::apk
def Re:eJ apm:=it (nH NF) (it (rj Oo) (Rd))
def La:=ai @axT<|ai @ayo<|@aBm
def ast:=bi 2 []
def Su b c s0 R:=fV BO s0 [b] λt1=>fm t1 c λt3=>az t1 (fV BO s0 [t3]) λh=>az t1 (cf h) λi=>aD t1 i (bv I) λa=>ic a b λd=>ic a c λe=>aC a (aU d e) λf=>aD a (bv U) f λg=>aE R s0 [g]
def aJU{a:AV}{b:AV}{R:d7}(h:H0 λs0=>Su a b s0 R):Ct 243 [a,b] R:=z0 ast Re Tryz.func243 h
def atw:=bi 4 []
def aay a s0 R:=ah (bv I) (rV (sO (V .u32) a) λt1=>fV (cX 246) s0 [t1] λb=>aE R s0 [b]) (fV Fo s0 [a] λt3=>aE R s0 [t3])
def aKX{a:AV}{R:d7}(h:H0 λs0=>aay a s0 R):Ct 221 [a] R:=z0 atw Re Tryz.func221 h
def NE(x y:Int):Ct 243 [iv x,iv y] (·=bv (Q (x<y))):=by refine aJU λs0 b a=>?_;simp+contextual only[Su,u0,u1,ar,La,kN,kM,lG,jN,jA,qE,Bc,↓uL]
def BN:FT:=lI NE
def axS{x y Lw K}:=nq BN NE x y Lw K
def Om(n:Int)(a:0<=n/\n<=12):Ct 221 [.s (.int .u64 n)] (λr=>∃k:Int,r=iv k):=by refine aKX λs0 c b=>?_;simp+contextual only[aay,u0,u1,ar,La,eE,Ca,O9,mn,↓uL];refine⟨a,?_⟩;rintro r ⟨k,rfl⟩;exact⟨.inl rfl,rfl,k,rfl⟩
def Fm:FT:=om Om
def ayn{n Lw K}:=qz Fm Om n Lw K
def apn:dO:=(243,BN)::(221,Fm)::apm
def wR:eJ apn:=it (nI NE) (it (rj Om) (Re))
def ut:=ai @axS<|ai @ayn<|@La
def au5:=bi 23 [(6,([3],[0])),(14,([3,5],[0,4])),(17,([3],[0,4,5]))]
def arT a(f:aG)(c:bu) g b d:=∀_:Rg,aV (gt a 1) (iv 1) λe=>f [(gt b 0),e] d/\c [(gt b 0),e] d<c a g
def arU a c b p(d:aG):=ao 1 a c (gt b 1) λf=>aM a f λg=>aO .sub (gt b 1) (iv 1) λh=>ao 1 a c h λi=>aM a i λj=>aO .neq g j λk=>ah k (ao 1 a c (gt b 1) λl=>aM a l λm=>ao 1 a p (gt b 0) λn=>sV (aK 1 a n m) λe=>aV (gt b 0) (iv 1) λo=>d [o] e) (d [(gt b 0)] a)
def arS d b R a:=rV (fo 1 a d J (V (gt b 0)) J) λc=>fe R a [c]
def arV c d R e f a b:=∀_:Rg,aJ b c λg=>aU (gt a 1) g λh=>ah h (jV 17 (arT a e f b) (arU b c a d)) (rV (fo 1 b d (V (gt a 0)) J J) λi=>sV (pA (.int .i64 0) b i) (arS d a R))
def aj0 c R(j:aG)(e:bu) b a:=∀_:Rg,aJ a c λk=>aU (gt b 0) k λl=>ah l (ao 1 a c (gt b 0) λm=>aM a m λn=>aO .sub (gt b 0) (iv 1) λo=>ao 1 a c o λf=>aM a f λg=>bf n g λh=>ah h (rV (fo 1 a c (V (gt b 0)) J J) λi=>lV [(gt b 0),(iv 1)] a (arV i c R)) (aV (gt b 0) (iv 1) λd=>j [d] a/\e [d] a<e b a)) (fe R a [c])
def JN a s0 R:=aJ s0 a λt1=>aU t1 (iv 2) λb=>ah b (fe R s0 [a]) (lV [(iv 1)] s0 (aj0 a R))
def aJN{a:AV}{s0:ae}{R:be}(h:JN a s0 R):EB 185 [a] s0 R:=zB au5 wR Tryz.func185 h
def aMy{a:AV}{s0:ae}{R:be}(b:L s0=4096)(h:JN a s0 R):EB 185 [a] s0 R:=by refine aJN ?_;exact h
def avb:=bi 10 [(1,([6],[0,1,2])),(6,([7],[0,1,2,6]))]
def aj8 a b g h j l i f m k(n:aG)(e:bu) o c:=dH [km,km,km,km,(lb U [(gt a 0),(iv 1)] []),km,km,(lb U [(gt a 0),(iv 1)] []),(lb U [b,g] []),(bo h),km,km,(lb U [b,(gt a 0)] []),(bo j),(lb U [b,(gt a 0)] []),(lb I [l,i] []),(lb U [b,f] []),(lb I [m,k] [])] [(2,15),(3,15),(4,15)] (aO .sub (gt a 0) (iv 1) λd=>n [d] c/\e [d] c<e a o)
def aj9 e b c k f g i j h l m n a:=ao 1 a e b λd=>sV (aK 1 a d c) (aj8 k e f g i j h b d c l m n)
def CS A d k(y:aG)(l:bu) C z B b a:=∀_:Rg,aO .gtr (gt b 0) A λc=>fm c d λD=>fm c (gt b 0) λm=>az c (ao 1 a D m) λn=>az c (aM a n) λo=>fm c d λp=>fm c (gt b 0) λq=>az c (aO .sub q (iv 1)) λr=>az c (ao 1 a p r) λs=>az c (aM a s) λt=>az c (fV BN a [o,t]) λu=>aD c u (bv I) λv=>ah v (aO .sub (gt b 0) (iv 1) λw=>aO .sub (gt b 0) (iv 1) λe=>ao 1 a d e λf=>aM a f λg=>ao 1 a d (gt b 0) λh=>aM a h λx=>ao 1 a d (gt b 0) λi=>sV (aK 1 a i g) (aj9 d w x b e f h i g z B a)) (aV (gt k 0) (iv 1) λj=>y [j] a/\l [j] a<l k C)
def aka f e d R c g a b:=∀_:Rg,aU (gt a 0) f λt4=>ah t4 (lV [(gt a 0)] b (CS e d a c g b)) (fe R b [])
def JT b a c s0 R:=aV a (iv 1) λt1=>lV [t1] s0 (aka c a b R)
def aJR{a b c:AV}{s0:ae}{R:be}(h:JT a b c s0 R):EB 237 [a,b,c] s0 R:=zB avb wR Tryz.func237 h
def aME{a:AV}{b:AV}{c:AV}{s0:ae}{R:be}(d:L s0=4096)(h:JT a b c s0 R):EB 237 [a,b,c] s0 R:=by refine aJR ?_;exact h
def au8:=bi 11 [(3,([8],[0,1,7]))]
def aj6 t1 g h R(f:aG)(d:bu) a b:=∀_:Rg,aU (gt a 0) t1 λt4=>ah t4 (ao 1 b g (gt a 0) λi=>aM b i λj=>cF h [j] b 16 λk c=>ah k (fe R c [(gt a 0)]) (aV (gt a 0) (iv 1) λe=>f [e] c/\d [e] c<d a b)) (fe R b [(iv (-1))])
def JQ a b s0 R:=aJ s0 a λt1=>lV [(iv 0)] s0 (aj6 t1 a b R)
def aJP{a b:AV}{s0:ae}{R:be}(h:JQ a b s0 R):EB 222 [a,b] s0 R:=zB au8 wR Tryz.func222 h
def aMB{a:AV}{b:AV}{s0:ae}{R:be}(c:L s0=4096)(h:JQ a b s0 R):EB 222 [a,b] s0 R:=by refine aJP ?_;exact h
def atA:=bi 2 []
def Ij a b s0 R:=aM s0 b λt1=>bf a t1 λc=>fe R s0 [c]
def aJo{a b:AV}{s0:ae}{R:be}(h:Ij a b s0 R):EB 187 [a,b] s0 R:=zB atA wR Tryz.func187 h
def aK2{a:AV}{b:AV}{s0:ae}{R:be}(c:L s0=4096)(h:Ij a b s0 R):EB 187 [a,b] s0 R:=by refine aJo ?_;exact h
def atF:=bi 13 [(4,([7,13],[1,2,3,11,12])),(7,([7],[1,2,3,11,12,13])),(10,([],[7]))]
def Iv c(f:aG)(e:bu) g d a:=∀_:Rg,aV (gt c 1) (iv 1) λb=>f [(gt d 0),b] a/\e [(gt d 0),b] a<e c g
def abC e o d p(f:aG) b:=aw 3 b e λg=>fV BV b [g,o] λa=>fm a (gt d 0) λh=>az a (aU h (iv 0)) λi=>fm a i λc=>ic c (gt d 1) λj=>ic c p λk=>aC c (bf j k) λl=>az a (aD c (bv U) l) λm=>aD a m (bv I) λn=>ah n (f [(gt d 1)] b) (f [(gt d 0)] b)
def abE c t4 b h i g:=ao 3 c t4 (gt b 1) λe=>aw 3 c e λf=>eV (bs 105 aNB c 9) λa d=>sV (aK 3 d a f) (abC a h b i g)
def Iu R b(c:eQ) a:=∀_:Rg,fe R a [(gt b 0)]
def abD c a e(b:aG):=aO .geq (gt c 0) (iv 0) λf=>ah f (ab 3 a e λg=>ao 3 a g (gt c 0) λh=>aB 0 a h λi=>sV (aK 1 a i (iv 4)) λd=>b [] d) (b [] a)
def abF h t4 e f R c d g a b:=∀_:Rg,aU (gt a 1) h λi=>ah i (jV 7 (Iv a d g b) (abE b t4 a e f)) (jV 10 (Iu R a) (abD a b c))
def Ir a c d b R:=ab 3 b a λt4=>aJ b t4 λe=>lV [(iv (-1)),(iv 0)] b (abF e t4 c d R a)
def aJq{a b c:AV}{s0:ae}{R:be}(h:eV (qm 36 4 s0 3 a) λd e=>Ir d b c e R):EB 188 [a,b,c] s0 R:=zB atF wR Tryz.func188 h
def aK7{d:List AV}{e:AV}{f:AV}{s0:ae}{R:be}(j:L s0=4096)(l0:L d=4)(h:∀(b:ae) (c:Nat),Kp s0 b->(∀k,k≠3->aZ b k=aZ s0 k)->(∀x,box s0 (3,c)≠V x)->box b (3,c)=V ⟨36,4,U,U,[d]⟩->Ir (.p (3,c) 0 0) e f b R):EB 188 [.a d,e,f] s0 R:=by refine aJq ?_;refine iN rfl l0 (by decide) (by decide) j λb c m g0 n g=>?_;exact h b c m (λk i=>g0 k i) (λx l=>n x ((Kp.refl _).keep _ _ l)) g
def atG:=bi 12 [(4,([5,11],[1,2,9,10])),(7,([5],[1,2,9,10,11]))]
def It c(f:aG)(e:bu) g d a:=∀_:Rg,aV (gt c 1) (iv 1) λb=>f [(gt d 0),b] a/\e [(gt d 0),b] a<e c g
def abz c m f b(d:aG) a:=aw 3 a c λg=>fV BV a [g,m] λh=>ah h (ab 3 a f λi=>ao 3 a i (gt b 1) λj=>aB 0 a j λk=>sV (aK 1 a k (iv 4)) λe=>aV (gt b 0) (iv 1) λl=>d [l] e) (d [(gt b 0)] a)
def abA c t4 b i e h:=ao 3 c t4 (gt b 1) λf=>aw 3 c f λg=>eV (bs 105 aNB c 7) λa d=>sV (aK 3 d a g) (abz a i e b h)
def abB g t4 e c R d f a b:=∀_:Rg,aU (gt a 1) g λh=>ah h (jV 7 (It a d f b) (abA b t4 a e c)) (fe R b [(gt a 0)])
def Is a c b R:=ab 3 b a λt4=>aJ b t4 λd=>lV [(iv 0),(iv 0)] b (abB d t4 c a R)
def aJr{a b:AV}{s0:ae}{R:be}(h:eV (qm 36 4 s0 2 a) λc d=>Is c b d R):EB 189 [a,b] s0 R:=zB atG wR Tryz.func189 h
def aK8{d:List AV}{e:AV}{s0:ae}{R:be}(i:L s0=4096)(l0:L d=4)(h:∀(b:ae) (c:Nat),Kp s0 b->(∀k,k≠2->aZ b k=aZ s0 k)->(∀x,box s0 (2,c)≠V x)->box b (2,c)=V ⟨36,4,U,U,[d]⟩->Is (.p (2,c) 0 0) e b R):EB 189 [.a d,e] s0 R:=by refine aJr ?_;refine iN rfl l0 (by decide) (by decide) i λb c l g0 m f=>?_;exact h b c l (λk g=>g0 k g) (λx j=>m x ((Kp.refl _).keep _ _ j)) f
def axp(n c:Nat)(w:World)(R:Ending->World->Prop)(a:R (.returned (.slice J 0 0)) w):Calls aS 98 #[.slice J n c] w R:=by have b:=λ(W:World)=>run_eql_slice_nil (P:=aS) W 38 3 J n c (by kernel_rfl);go_enter So,arJ;go_wp2;exact a
def axt(A:Addr)(n c:Nat)(w:World)(R:Ending->World->Prop)(b:(nU CI).wp aS (bodyPost aS CI R) {tmps:=#[.slice (V A) n c,undef, .slice J 0 0, .slice (V A) n c, .bool I,undef,undef,undef],defers:=[]} w):Calls aS 98 #[.slice (V A) n c] w R:=by have d:=λ(W:World)=>run_eql_slice_nil (P:=aS) W 38 3 (V A) n c (by kernel_rfl);go_enter So,arJ;generalize a:(BM 3 _ I).seq ET=T;go_wp2;subst a;exact b
def aCM{aa:List (List AV)}(j:∀r∈aa,L r=1)(t:L aa<1000000):∃r a,bc a 3 1 r aa/\cZ aS GG 98 [.l aa I I] eK r a/\(aa=[]->r= .l [] U U):=by have h:=DX (fn:=98) (f:=CI) (an:=[J,J]) So rfl rfl (λn c w R h=>axp n c w R h) (λA n c w R h=>axt A n c w R h) (by kernel_rfl) (by kernel_rfl) (aa:=aa) (R:=λr a=>bc a 3 1 r aa/\(aa=[]->r= .l [] U U/\a=eK)) (aND (show iV aS GG [] [J,J] (nU CI) 0 (tO aS CI λr a=>bc a 3 1 r aa/\(aa=[]->r= .l [] U U/\a=eK)) (gt (xE (.l aa I I))) eK=(eV (aX bH 0 eK []) λo k=>eV (j5 3 fB 8 k 7 o (.l aa I I)) λt4 m=>fe (λr a=>bc a 3 1 r aa/\(aa=[]->r= .l [] U U/\a=eK)) m [t4]) by kernel_rfl) ?_) (λr a h=>h.2);obtain⟨r,a,d,i⟩:=h;exact⟨r,a,d.1,i,λe=>(d.2 e).1⟩;simp only[nS,bQ];by_cases b:aa=[];subst b;simp only[j5,gL,vw,vg,eV,fe,aoz];exact⟨bc.nil,λ_=>⟨trivial,trivial⟩⟩;refine gD (e:=3) (new:=aa) bc.nil rfl (by decide) (by rw[show L eK=4096 from oA ..];decide) (by simp) j (by simp only[vw];omega) λq Y' g p s _=>?_;simp only[fe,aoz];exact⟨g,λh=>nl h b⟩
def Kr{Y:ae}{d:Nat}{K:be}{aa:List (List AV)}{x:AV}(q:dG Y x= .l aa I I)(p:∀r∈aa,L r=1)(o:L aa<1000000)(i:aa.all (λr=>r.all gY)=U)(c:d<L Y)(e:∀a Y',bc Y' 3 1 a aa->Fx Y Y' []->(∀k∈aA a,bK Y k/\k.1=d)->K a Y'):cN 98 [x] Y d K:=by obtain⟨r,j,g,h,_⟩:=aCM p o;have f:[x].map (dG Y)=[.l aa I I]:=(by simp[q]);refine .inl ⟨by rw[f];rfl,by simp[y7,c],r,j,by rw[f];exact h,?_⟩;rcases g with⟨m,rfl⟩|⟨b,rfl,n⟩;exact .inl ⟨rfl,e _ _ (.inl ⟨m,rfl⟩) (Fx.refl _ _) (by simp[aA])⟩;refine .inr ⟨b,_,_,rfl,n,?_,e _ _ (.inr ⟨lA Y d,rfl,iy c⟩) (kH c) (by simp[aA,lA,bK])⟩;simpa[qA] using i
def axo(n c:Nat)(w:World)(R:Ending->World->Prop)(a:R (.returned (.slice J 0 0)) w):Calls aS 218 #[.slice J n c] w R:=by have b:=λ(W:World)=>run_eql_slice_nil (P:=aS) W 33 4 J n c (by kernel_rfl);go_enter Tryz.func218,Tryz.ntmps218;go_wp2;exact a
def axs(A:Addr)(n c:Nat)(w:World)(R:Ending->World->Prop)(b:(nU Tryz.f218).wp aS (bodyPost aS Tryz.f218 R) {tmps:=#[.slice (V A) n c,undef, .slice J 0 0, .slice (V A) n c, .bool I,undef,undef,undef],defers:=[]} w):Calls aS 218 #[.slice (V A) n c] w R:=by have d:=λ(W:World)=>run_eql_slice_nil (P:=aS) W 33 4 (V A) n c (by kernel_rfl);go_enter Tryz.func218,Tryz.ntmps218;generalize a:(BM 3 _ I).seq ET=T;go_wp2;subst a;exact b
def aCL{aa:List (List AV)}(j:∀r∈aa,L r=1)(t:L aa<1000000):∃r a,bc a 4 1 r aa/\cZ aS GG 218 [.l aa I I] eK r a/\(aa=[]->r= .l [] U U):=by have h:=DX (fn:=218) (f:=Tryz.f218) (an:=[J,J]) Tryz.func218 rfl rfl (λn c w R h=>axo n c w R h) (λA n c w R h=>axs A n c w R h) (by kernel_rfl) (by kernel_rfl) (aa:=aa) (R:=λr a=>bc a 4 1 r aa/\(aa=[]->r= .l [] U U/\a=eK)) (aND (show iV aS GG [] [J,J] (nU Tryz.f218) 0 (tO aS Tryz.f218 λr a=>bc a 4 1 r aa/\(aa=[]->r= .l [] U U/\a=eK)) (gt (xE (.l aa I I))) eK=(eV (aX BD 0 eK []) λo k=>eV (j5 4 BE 1 k 7 o (.l aa I I)) λt4 m=>fe (λr a=>bc a 4 1 r aa/\(aa=[]->r= .l [] U U/\a=eK)) m [t4]) by kernel_rfl) ?_) (λr a h=>h.2);obtain⟨r,a,d,i⟩:=h;exact⟨r,a,d.1,i,λe=>(d.2 e).1⟩;simp only[nS,bQ];by_cases b:aa=[];subst b;simp only[j5,gL,vw,vg,eV,fe,aoz];exact⟨bc.nil,λ_=>⟨trivial,trivial⟩⟩;refine gD (e:=4) (new:=aa) bc.nil rfl (by decide) (by rw[show L eK=4096 from oA ..];decide) (by simp) j (by simp only[vw];omega) λq Y' g p s _=>?_;simp only[fe,aoz];exact⟨g,λh=>nl h b⟩
def aw2{Y:ae}{d:Nat}{K:be}{aa:List (List AV)}{x:AV}(q:dG Y x= .l aa I I)(p:∀r∈aa,L r=1)(o:L aa<1000000)(i:aa.all (λr=>r.all gY)=U)(c:d<L Y)(e:∀a Y',bc Y' 4 1 a aa->Fx Y Y' []->(∀k∈aA a,bK Y k/\k.1=d)->K a Y'):cN 218 [x] Y d K:=by obtain⟨r,j,g,h,_⟩:=aCL p o;have f:[x].map (dG Y)=[.l aa I I]:=(by simp[q]);refine .inl ⟨by rw[f];rfl,by simp[y7,c],r,j,by rw[f];exact h,?_⟩;rcases g with⟨m,rfl⟩|⟨b,rfl,n⟩;exact .inl ⟨rfl,e _ _ (.inl ⟨m,rfl⟩) (Fx.refl _ _) (by simp[aA])⟩;refine .inr ⟨b,_,_,rfl,n,?_,e _ _ (.inr ⟨lA Y d,rfl,iy c⟩) (kH c) (by simp[aA,lA,bK])⟩;simpa[qA] using i
def axn(n c:Nat)(w:World)(R:Ending->World->Prop)(a:R (.returned (.slice J 0 0)) w):Calls aS 219 #[.slice J n c] w R:=by have b:=λ(W:World)=>run_eql_slice_nil (P:=aS) W 34 105 J n c (by kernel_rfl);go_enter Tryz.func219,Tryz.ntmps219;go_wp2;exact a
def axr(A:Addr)(n c:Nat)(w:World)(R:Ending->World->Prop)(b:(nU Tryz.f219).wp aS (bodyPost aS Tryz.f219 R) {tmps:=#[.slice (V A) n c,undef, .slice J 0 0, .slice (V A) n c, .bool I,undef,undef,undef],defers:=[]} w):Calls aS 219 #[.slice (V A) n c] w R:=by have d:=λ(W:World)=>run_eql_slice_nil (P:=aS) W 34 105 (V A) n c (by kernel_rfl);go_enter Tryz.func219,Tryz.ntmps219;generalize a:(BM 3 _ I).seq ET=T;go_wp2;subst a;exact b
def aCK{aa:List (List AV)}(j:∀r∈aa,L r=3)(t:L aa<1000000):∃r a,bc a 105 3 r aa/\cZ aS GG 219 [.l aa I I] eK r a/\(aa=[]->r= .l [] U U):=by have h:=DX (fn:=219) (f:=Tryz.f219) (an:=[J,J]) Tryz.func219 rfl rfl (λn c w R h=>axn n c w R h) (λA n c w R h=>axr A n c w R h) (by kernel_rfl) (by kernel_rfl) (aa:=aa) (R:=λr a=>bc a 105 3 r aa/\(aa=[]->r= .l [] U U/\a=eK)) (aND (show iV aS GG [] [J,J] (nU Tryz.f219) 0 (tO aS Tryz.f219 λr a=>bc a 105 3 r aa/\(aa=[]->r= .l [] U U/\a=eK)) (gt (xE (.l aa I I))) eK=(eV (aX aTI 0 eK []) λo k=>eV (j5 105 aNB 24 k 7 o (.l aa I I)) λt4 m=>fe (λr a=>bc a 105 3 r aa/\(aa=[]->r= .l [] U U/\a=eK)) m [t4]) by kernel_rfl) ?_) (λr a h=>h.2);obtain⟨r,a,d,i⟩:=h;exact⟨r,a,d.1,i,λe=>(d.2 e).1⟩;simp only[nS,bQ];by_cases b:aa=[];subst b;simp only[j5,gL,vw,vg,eV,fe,aoz];exact⟨bc.nil,λ_=>⟨trivial,trivial⟩⟩;refine gD (e:=105) (new:=aa) bc.nil rfl (by decide) (by rw[show L eK=4096 from oA ..];decide) (by simp) j (by simp only[vw];omega) λq Y' g p s _=>?_;simp only[fe,aoz];exact⟨g,λh=>nl h b⟩
def aw1{Y:ae}{d:Nat}{K:be}{aa:List (List AV)}{x:AV}(q:dG Y x= .l aa I I)(p:∀r∈aa,L r=3)(o:L aa<1000000)(i:aa.all (λr=>r.all gY)=U)(c:d<L Y)(e:∀a Y',bc Y' 105 3 a aa->Fx Y Y' []->(∀k∈aA a,bK Y k/\k.1=d)->K a Y'):cN 219 [x] Y d K:=by obtain⟨r,j,g,h,_⟩:=aCK p o;have f:[x].map (dG Y)=[.l aa I I]:=(by simp[q]);refine .inl ⟨by rw[f];rfl,by simp[y7,c],r,j,by rw[f];exact h,?_⟩;rcases g with⟨m,rfl⟩|⟨b,rfl,n⟩;exact .inl ⟨rfl,e _ _ (.inl ⟨m,rfl⟩) (Fx.refl _ _) (by simp[aA])⟩;refine .inr ⟨b,_,_,rfl,n,?_,e _ _ (.inr ⟨lA Y d,rfl,iy c⟩) (kH c) (by simp[aA,lA,bK])⟩;simpa[qA] using i
def axq(n c:Nat)(w:World)(R:Ending->World->Prop)(a:R (.returned (.slice J 0 0)) w):Calls aS 136 #[.slice J n c] w R:=by have b:=λ(W:World)=>run_eql_slice_nil (P:=aS) W 37 2 J n c (by kernel_rfl);go_enter Tryz.func136,Tryz.ntmps136;go_wp2;exact a
def axu(A:Addr)(n c:Nat)(w:World)(R:Ending->World->Prop)(b:(nU Tryz.f136).wp aS (bodyPost aS Tryz.f136 R) {tmps:=#[.slice (V A) n c,undef, .slice J 0 0, .slice (V A) n c, .bool I,undef,undef,undef],defers:=[]} w):Calls aS 136 #[.slice (V A) n c] w R:=by have d:=λ(W:World)=>run_eql_slice_nil (P:=aS) W 37 2 (V A) n c (by kernel_rfl);go_enter Tryz.func136,Tryz.ntmps136;generalize a:(BM 3 _ I).seq ET=T;go_wp2;subst a;exact b
def aCN{aa:List (List AV)}(j:∀r∈aa,L r=1)(t:L aa<1000000):∃r a,bc a 2 1 r aa/\cZ aS GG 136 [.l aa I I] eK r a/\(aa=[]->r= .l [] U U):=by have h:=DX (fn:=136) (f:=Tryz.f136) (an:=[J,J]) Tryz.func136 rfl rfl (λn c w R h=>axq n c w R h) (λA n c w R h=>axu A n c w R h) (by kernel_rfl) (by kernel_rfl) (aa:=aa) (R:=λr a=>bc a 2 1 r aa/\(aa=[]->r= .l [] U U/\a=eK)) (aND (show iV aS GG [] [J,J] (nU Tryz.f136) 0 (tO aS Tryz.f136 λr a=>bc a 2 1 r aa/\(aa=[]->r= .l [] U U/\a=eK)) (gt (xE (.l aa I I))) eK=(eV (aX yW 0 eK []) λo k=>eV (j5 2 EN 8 k 7 o (.l aa I I)) λt4 m=>fe (λr a=>bc a 2 1 r aa/\(aa=[]->r= .l [] U U/\a=eK)) m [t4]) by kernel_rfl) ?_) (λr a h=>h.2);obtain⟨r,a,d,i⟩:=h;exact⟨r,a,d.1,i,λe=>(d.2 e).1⟩;simp only[nS,bQ];by_cases b:aa=[];subst b;simp only[j5,gL,vw,vg,eV,fe,aoz];exact⟨bc.nil,λ_=>⟨trivial,trivial⟩⟩;refine gD (e:=2) (new:=aa) bc.nil rfl (by decide) (by rw[show L eK=4096 from oA ..];decide) (by simp) j (by simp only[vw];omega) λq Y' g p s _=>?_;simp only[fe,aoz];exact⟨g,λh=>nl h b⟩
def alG{Y:ae}{d:Nat}{K:be}{aa:List (List AV)}{x:AV}(q:dG Y x= .l aa I I)(p:∀r∈aa,L r=1)(o:L aa<1000000)(i:aa.all (λr=>r.all gY)=U)(c:d<L Y)(e:∀a Y',bc Y' 2 1 a aa->Fx Y Y' []->(∀k∈aA a,bK Y k/\k.1=d)->K a Y'):cN 136 [x] Y d K:=by obtain⟨r,j,g,h,_⟩:=aCN p o;have f:[x].map (dG Y)=[.l aa I I]:=(by simp[q]);refine .inl ⟨by rw[f];rfl,by simp[y7,c],r,j,by rw[f];exact h,?_⟩;rcases g with⟨m,rfl⟩|⟨b,rfl,n⟩;exact .inl ⟨rfl,e _ _ (.inl ⟨m,rfl⟩) (Fx.refl _ _) (by simp[aA])⟩;refine .inr ⟨b,_,_,rfl,n,?_,e _ _ (.inr ⟨lA Y d,rfl,iy c⟩) (kH c) (by simp[aA,lA,bK])⟩;simpa[qA] using i
def jC(l:List Int):Prop:=∀i,i+1<L l->gd l i<gd l (i+1)
def AD{l:List Int}(h:jC l):∀{i j:Nat},i<j->j<L l->gd l i<gd l j:=by intro i j f d;induction j with|zero=>omega|succ j e=>have c:=h j d;rcases jj i j with a|a;have:=e a (by omega);omega;obtain rfl:i=j:=(by omega);exact c
section
variable{Y:ae}{b:Id}{l:List Int}{n:Nat}{K:d7}
def mx{e:TypeId}{i:Int}{o v:Bool}{aa:List (List AV)}(d:box Y b=V ⟨e,1,o,v,aa⟩)(h:aF n i):rV (cz 1 Y (.m b n) (iv i)) K=K (.p b i.toNat 0):=by have a:0<=i:=h.1;have c:i.toNat<n:=(by have:=h.1;have:=h.2;omega);simp[cz,a,d,c,rV]
def ml{e:TypeId}{o v:Bool}{k:Nat}(c:box Y b=V ⟨e,1,o,v,l.map ci⟩)(a:k<L l):kb J Y (.p b k 0)=V (iv (gd l k)):=by simp[kb,iE,c,a,aN,bT a]
end
def aIh{l:List Int}{k:Nat}{x:Int}:(l.map ci).set k ((ci (gd l k)).set 0 (iv x))=(l.set k x).map ci:=by rw[vB];rfl
def Qo{Y:ae}{b:Id}{l:List Int}{k:Nat}{x:Int}{K:ae->Prop}(d:box Y b=V ⟨3,1,U,I,l.map ci⟩)(a:k<L l)(c:∀Y',Fx Y Y' [b]->box Y' b=V ⟨3,1,U,I,(l.set k x).map ci⟩->K Y'):sV (aK 1 Y (.p b k 0) (iv x)) K:=by have e:(l.map ci)[k]?=V (ci (gd l k)):=(by rw[ve,eC a,bT a];rfl);refine wL d e (by simp) λY' F h=>c Y' F ?_;rw[h,aIh]
def Dt{a b:List Int}{k:Nat}(h:k<L a):gd (a++b) k=gd a k:=by rw[bT h,bT (by simp;omega),List.getElem_append_left h]
def aBD{a:List Int}{j k:Nat}(h:k<j)(c:k<L a):gd (a.take j) k=gd a k:=by rw[bT (by simp;omega),bT c,GI]
def aBB{a d:List Int}{t:Int}:gd (a++t::d) (L a)=t:=by rw[bT (by simp)];simp
def aIA{r:List Int}{t:Int}{j:Nat}(f:0<j)(g:j<=L r):((r.take j++t::r.drop j).set j (gd r (j-1))).set (j-1) t=r.take (j-1)++t::r.drop (j-1):=by obtain⟨i,rfl⟩:∃i,j=i+1:=⟨j-1,by omega⟩;have a:i<L r:=(by omega);have c:r.take (i+1)=r.take i++[gd r i]:=(by rw[iJ a,bT a]);have d:r.drop i=gd r i::r.drop (i+1):=(by rw[List.drop_eq_getElem_cons a,bT a]);have e:L (r.take i)=i:=(by simp;omega);simp only[Nat.add_sub_cancel];rw[c,d,cC];rw[CD _ _ (by omega),CD _ _ (by omega)];simp[e]
def aCw{Y:ae}{b:Id}{r:List Int}{t:Int}(x:jC r)(ht:t∉r)(hn:L r<12)(X:box Y b=V ⟨3,1,U,I,(r++[t]).map ci⟩)(hl:L Y=4096):∃D q,(D= .t []/\box q b=V ⟨3,1,U,I,(fk r t).map ci⟩/\Fx Y q [b])/\cZ aS GG 237 [.m b (L r+1),iv 0,iv ((L r+1:Nat):Int)] Y D q:=by refine aME hl ?_;simp only[JT,cS,aY,↓uL];rw[show dq.wrap (0+1)=((1:Nat):Int) from rfl];refine AI (α:=Unit) (λ_ i=>[iv i]) 0 (L r+1) 1 (by omega) (λi _ Y'=>1<=i/\box Y' b=V ⟨3,1,U,I,(if i<L r+1 then r++[t] else fk r t).map ci⟩/\Fx Y Y' [b]) (s0:=()) ⟨by omega,?_,Fx.refl _ _⟩ ?_;split;exact X;have:r=[]:=List.length_eq_zero_iff.1 (by omega);subst this;exact X;rintro i _ q hi ⟨am,c,E⟩;simp only[aka,aI,au,u0,u1,↓uL];refine⟨λh=>?_,λh=>?_⟩;have C:=aL h;rw[bX C] at c;have p:∀{k:Nat},k<L r+1->k<L (r++[t]):=λh=>(by simp;omega);have P:∀u,box u b=V ⟨3,1,U,I,(if i+1<L r+1 then r++[t] else fk r t).map ci⟩->Fx Y u [b]->yI (λ(_:Unit) i=>[iv i]) (L r+1) (λi _ Y'=>1<=i/\box Y' b=V ⟨3,1,U,I,(if i<L r+1 then r++[t] else fk r t).map ci⟩/\Fx Y Y' [b]) [iv (dq.wrap ((i:Int)+1))] u/\gM 0 (L r+1) [iv (dq.wrap ((i:Int)+1))] u<gM 0 (L r+1) [iv i] q:=λu Z F=>yU C ⟨by omega,Z,F⟩;have ac:Q ((0:Int)<(i:Int))=U:=(by simp;omega);have R:∀j:Nat,0<j->j<100->dq.wrap ((j:Int)-1)=((j-1:Nat):Int):=λj H W=>(by rw[eM (by omega) (by omega)];omega);rcases jj i (L r) with y|y;refine⟨λvs Y'=>vs=[iv i]/\Y'=q,λ_ _=>0,⟨rfl,rfl⟩,?_⟩;rintro vs Y' ⟨rfl,rfl⟩;have af:Q (gd (r++[t]) i<gd (r++[t]) (i-1))=I:=(by rw[Dt y,Dt (by omega)];have:=AD x (show i-1<i by omega) y;simp;omega);simp only[CS,aI,au,u0,u1,ac,jA,qE,R i (by omega) (by omega),mx c (dJ (show i<L r+1 by omega)),mx c (dJ (show i-1<L r+1 by omega)),bh,ml c (p (show i<L r+1 by omega)),ml c (p (show i-1<L r+1 by omega)),ar,ut,af,uO,aly,eE,Ca,O9,mn,AL,↓uL];exact P _ (by rw[bX (by omega)];exact c) E;obtain rfl:i=L r:=(by omega);refine⟨λvs Y'=>∃j:Nat,j<=L r/\vs=[iv j]/\box Y' b=V ⟨3,1,U,I,(r.take j++t::r.drop j).map ci⟩/\(∀k,j<=k->k<L r->t<gd r k)/\Fx Y Y' [b],λvs _=>match gt vs 0 with| .s (.int _ i)=>i.toNat|_=>0,⟨L r,dA _,rfl,by simpa using c,by omega,E⟩,?_⟩;rintro vs Y' ⟨j,hj,rfl,v,f,G⟩;have g:L (r.take j++t::r.drop j)=L r+1:=(by simp;omega);have B:(∀k,k<j->gd r k<t)->box Y' b=V ⟨3,1,U,I,(if L r+1<L r+1 then r++[t] else fk r t).map ci⟩:=λM=>(by rw[cj (by omega),v];congr 3;rw[QJ r t j hj M (λA=>by have:=f j (dA _) A;omega),cj];rintro⟨A,he⟩;have:=f j (dA _) A;omega);rcases oD j with rfl|z;simp only[CS,aI,au,u0,u1,Int.lt_irrefl,Int.ofNat_eq_natCast,Int.natCast_zero,aNE,jN,Bc,eE,Ca,O9,mn,↓uL];exact P _ (B (by omega)) G;have N:Q ((0:Int)<(j:Int))=U:=(by simp;omega);have aa:gd (r.take j++t::r.drop j) j=t:=(by have:=aBB (a:=r.take j) (d:=r.drop j) (t:=t);rwa [show L (r.take j)=j by simp;omega] at this);have ab:gd (r.take j++t::r.drop j) (j-1)=gd r (j-1):=(by rw[Dt (by simp;omega),aBD (by omega) (by omega)]);simp only[CS,aI,au,u0,u1,N,jA,qE,R j z (by omega),mx v (dJ (show j<L r+1 by omega)),mx v (dJ (show j-1<L r+1 by omega)),bh,ml v (show j<_ by rw[g];omega),ml v (show j-1<_ by rw[g];omega),ar,ut,aa,ab,uO,aly,O9,mn,AL,↓uL];refine⟨λo=>?_,λo=>?_⟩;have O:=nt o;refine Qo v (by rw[g];omega) λu F S=>?_;simp only[aj9,mx S (dJ (show j-1<L r+1 by omega)),bh,↓uL];refine Qo S (by simp;omega) λY3 F3 T=>?_;simp only[aj8,↓uL];refine dT rfl ?_;simp only[au,u0,u1,R j z (by omega),↓uL];rw[aIA z hj] at T;refine⟨⟨j-1,by omega,rfl,T,λk H W=>?_,(G.trans (F.trans F3)).mono (by simp)⟩,by omega⟩;rcases jj k j with w|w;obtain rfl:k=j-1:=(by omega);exact O;exact f k w W;have an:=aNG o;refine P _ (B λk A=>?_) G;have H:gd r (j-1)<t:=(by have:gd r (j-1)≠t:=λe=>ht (e▸dB (by omega));omega);rcases jj k (j-1) with w|w;have:=AD x w (by omega);omega;obtain rfl:k=j-1:=(by omega);exact H;have:i=L r+1:=bP hi (bw h);subst this;rw[cj (by omega)] at c;simp only[fe,aoz];exact⟨trivial,c,E⟩
def aCq{Y:ae}{b:Id}{l:List Int}(f:jC l)(c:box Y b=V ⟨3,1,U,I,l.map ci⟩)(o:L Y=4096)(s:L l<1000):∃e g,(e= .m b (L l)/\g=Y)/\cZ aS GG 185 [.m b (L l)] Y e g:=by refine aMy o ?_;have d:fS Y (.m b (L l))=V (iv (L l)):=(by simp[fS,c]);simp only[JN,d,u0,u1,↓uL];refine⟨λh=>by simp[fe,aoz],λh=>?_⟩;rw[show(1:Int)=((1:Nat):Int) from rfl];refine AI (α:=Unit) (λ_ i=>[iv i]) 0 (L l) 1 (by simp at h;omega) (λi _ Y'=>1<=i/\Y'=Y) (s0:=()) ⟨by omega,rfl⟩ ?_;rintro i _ Y' r ⟨q,rfl⟩;simp only[aj0,aI,au,d,u0,u1,↓uL];refine⟨λj=>?_,λj=>by simp[fe,aoz]⟩;have a:=aL j;have p:dq.wrap ((i:Int)-1)=((i-1:Nat):Int):=(by rw[eM (by omega) (by omega)];omega);have k:Q (gd l i=gd l (i-1))=I:=(by have:=AD f (show i-1<i by omega) a;simp;omega);simp only[mx c (dJ a),bh,ml c a,u0,u1,p,mx c (dJ (show i-1<L l by omega)),ml c (show i-1<L l by omega),k,eE,Ca,O9,mn,↓uL];exact yU a ⟨by omega,rfl⟩
def alB{Y:ae}{d:Nat}{K:be}{b:Id}{t x:Int}{e:TypeId}(c:box Y b=V ⟨e,1,U,U,[[iv t]]⟩)(g:L Y=4096)(a:K (bv (Q (x=t))) Y):cF (.f 187 [] [.p b 0 0]) [iv x] Y d K:=by simp only[cF,rn];rw[cj (show¬GG.nw 187=U by decide),bX (show GG.imp 187=U by decide)];refine(aS2 rfl (aK2 g ?_) a:cB 187 [iv x, .p b 0 0] Y d K);simp only[Ij,u0,u1,c,iF,fe,aoz,ip,↓uL];exact⟨trivial,Fx.refl _ _⟩
def aCv{Y:ae}{b c:Id}{l:List Int}{t:Int}{e:TypeId}(i:box Y b=V ⟨3,1,U,I,l.map ci⟩)(u:box Y c=V ⟨e,1,U,U,[[iv t]]⟩)(r:L Y=4096)(x:L l<1000):∃g q,(g=iv (oW l t)/\Fx Y q [])/\cZ aS GG 222 [.m b (L l), .f 187 [] [.p c 0 0]] Y g q:=by refine aMB r ?_;have s:fS Y (.m b (L l))=V (iv (L l)):=(by simp[fS,i]);simp only[JQ,s,u0,u1,↓uL];refine yV (L l) (λk _ Y'=>Y'=Y/\∀j,j<k->gd l j≠t) ⟨rfl,by simp⟩ ?_;rintro k _ Y' w ⟨rfl,d⟩;simp only[aj6,aI,au,u0,u1,↓uL];refine⟨λh=>?_,λh=>?_⟩;have a:=aL h;simp only[mx i (dJ a),bh,ml i a,aY,↓uL];refine alB u r ?_;simp only[u0,u1,↓uL];refine⟨λo=>?_,λo=>yU a ⟨rfl,jf d (aNG o)⟩⟩;simp only[fe,aoz];rw[anR a d (nt o)];exact⟨rfl,Fx.refl _ _⟩;simp only[fe,aoz];rw[anS λj v=>d j (C3 v (bw h))];exact⟨rfl,Fx.refl _ _⟩
def gH(s:aW)(bb lD:Int)(k:Nat):Int:=if eh s bb k=[] then-1 else if lD∈eh s bb k then lD else gd (eh s bb k) 0
def AN{s:aW}{bb x:Int}{k:Nat}:x∈eh s bb k↔∃i:Nat,i<k/\pe s bb i=U/\x=i:=by simp only[eh,dN,jW,fq];constructor;rintro⟨i,⟨a,c⟩,d⟩;exact⟨i,a,c,d.symm⟩;rintro⟨i,a,c,d⟩;exact⟨i,⟨a,c⟩,d.symm⟩
def Li{s:aW}{bb:Int}{k:Nat}(h:eh s bb k≠[]):0<=gd (eh s bb k) 0/\gd (eh s bb k) 0<k:=by have:=dB (l:=eh s bb k) (k:=0) (aqS.2 h);obtain⟨i,a,_,c⟩:=AN.1 this;omega
def axd{s:aW}{bb lD:Int}{k:Nat}(h:0<=gH s bb lD k):gH s bb lD k<k/\eh s bb k≠[]:=by unfold gH at h⊢;split at h;omega;rename_i a;rw[cj a];refine⟨?_,a⟩;split;rename_i c;obtain⟨i,d,_,e⟩:=AN.1 c;omega;exact(Li a).2
def axe{s:aW}{bb lD:Int}{k:Nat}:gH s bb lD (k+1)=if(pe s bb k&&(Q (gH s bb lD k<0)||Q ((k:Int)=lD)))=U then(k:Int) else gH s bb lD k:=by have d:=vc s bb k;cases g:pe s bb k with|false=>rw[g] at d;simp only[eE,aB9,cL] at d;simp[gH,d]|true=>rw[g,bX rfl] at d;simp only[iw];by_cases c:eh s bb k=[];have m:gH s bb lD k= -1:=(by rw[gH,bX c]);rw[m,bX (by simp),gH,d,c];simp only[dW,List.cons_ne_nil,aB9,cE];split;rename_i a;exact a;rfl;have j:¬gH s bb lD k<0:=(by rw[gH,cj c];split;rename_i a;obtain⟨i,_,_,p⟩:=AN.1 a;omega;have:=(Li c).1;omega);rw[show Q (gH s bb lD k<0)=I by simpa using j,lG];rw[gH,d,cj (by simp)];by_cases e:(k:Int)=lD;rw[bX (show Q ((k:Int)=lD)=U by simpa using e),bX (show lD∈eh s bb k++[(k:Int)] by simp[e])];exact e.symm;rw[cj (show¬Q ((k:Int)=lD)=U by simpa using e),gH,cj c];have f:lD∈eh s bb k++[(k:Int)]↔lD∈eh s bb k:=(by rw[dF,cE];exact⟨λh=>h.elim id λh=>nl h.symm e, .inl⟩);have o:gd (eh s bb k++[(k:Int)]) 0=gd (eh s bb k) 0:=Dt (aqS.2 c);by_cases a:lD∈eh s bb k;rw[bX (f.2 a),bX a];rw[cj (λh=>a (f.1 h)),cj a,o]
def giT{Y:ae}{a:AV}{l:List bF}{k:Nat}{K:d7}(f:bc Y 105 3 a (l.map bF.c))(d:k<L l):(rV (cz 3 Y a (iv k)) λt=>rV (kb (V 3) Y t) K)=K (.a (gd l k).c):=by rcases f with⟨e,_⟩|⟨b,rfl,g⟩;simp at e;subst e;simp at d;simp[cz,g,d,rV,kb,iE,aN,bT d,bF.c]
def DB{Y:ae}{a:AV}{l:List bF}{i:Int}{j:Nat}{x:Value}{K:AV->be}(t:bc Y 105 3 a (l.map bF.c))(f:aF (L l) i)(v:j<3)(o:bF)(y:(gd l i.toNat).c.set j (.s x)=o.c)(u:∀b Y',aA a=[b]->Fx Y Y' (aA a)->bc Y' 105 3 a ((l.set i.toNat o).map bF.c)->K (.p b i.toNat 0) (.p b i.toNat j) Y'):rV (cz 3 Y a (iv i)) λp=>rV (iQ j Y p) λq=>sV (aK 1 Y q (.s x)) (K p q):=by have d:i.toNat<L l:=(by have:=f.1;have:=f.2;omega);rcases t with⟨h,_⟩|⟨b,rfl,e⟩;simp at h;subst h;simp at d;have k:cz 3 Y (.m b (L (l.map bF.c))) (iv i)=V (.p b i.toNat 0):=(by simp[cz,f.1,e,d]);rw[k];simp only[rV,rR,e,df,aj];have w:(l.map bF.c)[i.toNat]?=V (gd l i.toNat).c:=(by rw[ve,eC d,bT d];rfl);refine wL e w (by simpa[bF.c] using v) λY' r g=>u b Y' rfl r ?_;rw[y] at g;refine .inr ⟨b,by simp,?_⟩;rw[g,vB]
def aCD(s:aW)(bb lD:Int){x1 x2 j:AV}{Y:ae}(E:L Y=4096)(hn:L s.ay<1000)(X:bc Y 105 3 j (s.ay.map bF.c)):∃r d,(r=iv (gH s bb lD (L s.ay))/\bc d 105 3 j ((if 0<=gH s bb lD (L s.ay) then s.ay.set (gH s bb lD (L s.ay)).toNat {gd s.ay (gH s bb lD (L s.ay)).toNat with cQ:=4} else s.ay).map bF.c)/\Fx Y d (aA j))/\cZ aS GG 188 [.a [x1,iv s.tx,x2,j],iv bb,iv lD] Y r d:=by refine aK7 E rfl λw v3 K2 ad nf A=>?_;have z:=K2.fx [];have C:=X.fx z (by simp);have G:L w=4096:=K2.len.trans E;simp only[Ir,u0,u1,A,aj,iF,nM,ip,lnI C,bJ,↓uL];refine jD (α:=Int) (λa i=>[iv a,iv i]) 1 (L s.ay) (λk a Y'=>a=gH s bb lD k/\Fx w Y' []) (s0:= -1) ⟨by simp[gH,eh],Fx.refl _ _⟩ ?_;rintro k _ d Z ⟨rfl,e⟩;have u:=C.fx e (by simp);have F:L d=4096:=e.len.trans G;have S:=e.kq A;simp only[abF,aI,au,ck,u0,u1,di,↓uL];refine⟨λh=>?_,λh=>?_⟩;have o:=aL h;simp only[abE,au,ck,giT u o,↓uL];refine so F λv9 Y2 O R T=>?_;refine cy (cs:=bF.c (gd s.ay k)) T rfl rfl (by decide) λq P B=>?_;have t:box q (9,v9)=V ⟨105,3,U,U,[bF.c (gd s.ay k)]⟩:=B;have x:Fx d q []:=O.tn P R.no;have M:∀a:Int,a=gH s bb lD (k+1)->Iv [iv (gH s bb lD k),iv k] (yI (λa i=>[iv a,iv i]) (L s.ay) λk a Y'=>a=gH s bb lD k/\Fx w Y' []) (gM 1 (L s.ay)) d [iv a] q:=(by rintro a rfl;simp only[Iv,aI,au,ck,u0,u1,↓uL];exact dR (mk:=λa i=>[iv a,iv i]) (p:=1) (s:=gH s bb lD k) (s':=gH s bb lD (k+1)) (λ_ _=>rfl) o (by omega) ⟨rfl,e.trans x⟩);have m:=axe (s:=s) (bb:=bb) (lD:=lD) (k:=k);have H:(Q ((gd s.ay k).cQ=3)&&Q ((gd s.ay k).cond=bb))=pe s bb k:=rfl;simp+contextual only[abC,u0,u1,t,rk,ar,ut,aj,au,ck,H,↓uL];refine⟨λf=>M _ ?_,λf=>M _ ?_⟩;rw[m,bX f];rw[m,cj (by rw[f];simp)];obtain rfl:k=L s.ay:=bP Z (bw h);have y:Fx Y d []:=(z.trans e).mono (by simp);simp only[abD,au,ck,u0,u1,↓uL];refine⟨λv=>?_,λv=>?_⟩;have g:=nt v;have D:=(axd g).1;simp only[S,u0,u1,aj,iF,nM,ip,↓uL];refine DB u ⟨g,D⟩ (by decide) {gd s.ay (gH s bb lD (L s.ay)).toNat with cQ:=4} rfl λb Y' ac N W=>?_;simp only[Iu,aI,au,fe,aoz,↓uL];refine⟨trivial,?_,(y.trans N).mono (λb f=> .inl (by simpa using f))⟩;rw[bX g];exact W;simp only[Iu,aI,au,fe,aoz,↓uL];refine⟨trivial,?_,y.mono (by simp)⟩;rw[cj (aNG v)];exact u
abbrev mH(s:aW)(l:List Int):aW:=l.foldl (λs u=>ni s u {fA s u with cQ:=4}) s
def anr:∀(l:List Int) (s:aW),L (mH s l).ay=L s.ay
 |[],s=>rfl
 |u::l,s=>by
  show L (mH (ni s u _) l).ay=_
  rw[anr l];simp[ni]
def anq:∀(l:List Int) (s:aW) (k:Nat),(∀u∈l,u.toNat≠k)->gd (mH s l).ay k=gd s.ay k
 |[],s,k,_=>rfl
 |u::l,s,k,h=>by
  show gd (mH (ni s u _) l).ay k=_
  rw[anq l _ k λv c=>h v (by simp[c])]
  have a:=h u (by simp)
  simp only[ni,gd,eI,List.getElem?_set]
  rw[cj a]
def aD2(s:aW)(l:List Int)(u:Int):mH s (l++[u])=ni (mH s l) u {fA (mH s l) u with cQ:=4}:=by simp[mH]
def aCE(s:aW)(bb:Int){x1 x2 e:AV}{Y:ae}(M:L Y=4096)(hn:L s.ay<1000)(A:bc Y 105 3 e (s.ay.map bF.c)):∃r j,(r=iv (L (fO s bb))/\bc j 105 3 e ((mH s (fO s bb)).ay.map bF.c)/\Fx Y j (aA e))/\cZ aS GG 189 [.a [x1,iv s.tx,x2,e],iv bb] Y r j:=by refine aK8 M rfl λS v3 K2 ap nf t=>?_;have D:=K2.fx [];have y:=A.fx D (by simp);have O:L S=4096:=K2.len.trans M;have B:∀{T:ae} {l:List bF} {w:Id} {x:bY},bc T 105 3 e (l.map bF.c)->box T w=V x->x.var=U->w∉aA e:=λA P hx C=>(by rcases A with⟨_,rfl⟩|⟨b,rfl,d⟩;simp[aA] at C;simp only[aA,cE] at C;subst C;rw[d] at P;cases P;cases hx);simp only[Is,u0,u1,t,aj,iF,nM,ip,lnI y,bJ,↓uL];refine jD (α:=Int) (λa i=>[iv a,iv i]) 1 (L s.ay) (λk a Y'=>a=(L (eh s bb k):Int)/\bc Y' 105 3 e ((mH s (eh s bb k)).ay.map bF.c)/\Fx S Y' (aA e)) (s0:=0) ⟨by simp[eh],by simpa[eh] using y,Fx.refl _ _⟩ ?_;rintro k _ j hk ⟨rfl,z,o⟩;have N:L j=4096:=o.len.trans O;have b2:=o.keep _ _ (B y t rfl) t;have q:=anr (eh s bb k) s;have ao:=wU s bb k;simp only[abB,aI,au,ck,u0,u1,di,↓uL];refine⟨λh=>?_,λh=>?_⟩;have g:=aL h;have H:gd (mH s (eh s bb k)).ay k=gd s.ay k:=anq _ _ _ λu hu=>(by obtain⟨i,h1,_,h3⟩:=AN.1 hu;omega);simp only[abA,au,ck,giT z (by rw[q];exact g),H,↓uL];refine so N λv9 Y2 X N2 b9=>?_;refine cy (cs:=bF.c (gd s.ay k)) b9 rfl rfl (by decide) λE Z F=>?_;have v:box E (7,v9)=V ⟨105,3,U,U,[bF.c (gd s.ay k)]⟩:=F;have f:Fx j E []:=X.tn Z N2.no;have G:=z.fx f (by simp);have b3:=f.kq b2;have m:=vc s bb k;have R:(Q ((gd s.ay k).cQ=3)&&Q ((gd s.ay k).cond=bb))=pe s bb k:=rfl;simp+contextual only[abz,u0,u1,v,rk,ar,ut,aj,au,ck,R,↓uL];refine⟨λd=>?_,λd=>?_⟩;rw[d,bX rfl] at m;simp only[b3,u0,u1,aj,iF,nM,ip,↓uL];refine DB G (dJ (by rw[q];exact g)) (by decide) {fA (mH s (eh s bb k)) k with cQ:=4} rfl λb Y' an W g'=>?_;simp only[It,aI,au,ck,u0,u1,↓uL];refine dR (mk:=λa i=>[iv a,iv i]) (p:=1) (s:=(L (eh s bb k):Int)) (s':=dq.wrap ((L (eh s bb k):Int)+1)) (λ_ _=>rfl) g (by omega) ?_;refine⟨?_,?_,(o.trans (f.trans W)).mono (λb d=> .inl (by simpa using d))⟩;rw[m,fX (by omega)];simp;rw[m,aD2];exact g';rw[d] at m;simp only[eE,aB9,cL] at m;simp only[It,aI,au,ck,u0,u1,↓uL];refine dR (mk:=λa i=>[iv a,iv i]) (p:=1) (s:=(L (eh s bb k):Int)) (s':=(L (eh s bb k):Int)) (λ_ _=>rfl) g (by omega) ?_;rw[m];exact⟨rfl,G,(o.trans f).mono (λb d=> .inl (by simpa using d))⟩;obtain rfl:k=L s.ay:=bP hk (bw h);simp only[fe,aoz];exact⟨rfl,z,(D.trans o).mono (λb d=> .inl (by simpa using d))⟩
def apl:dO:=apn
def yR:eJ apl:=wR
def aBn:=@ut
def atE:=bi 13 [(4,([13],[1,2,3,11,12]))]
def abo b i k l j m p a o n(g:aG)(c:bu) h d:=dH [km,km,(bo b),(bo i),(bo b),(bo k),(lb I [(.f 98 [] []),l] [24]),(lb U [j,m] []),(lb U [p,(gt a 0)] []),(lb I [o,n] [])] [(0,6),(1,6),(2,6),(3,6)] (aV (gt a 0) (iv 1) λe=>g [e] d/\c [e] d<c a h)
def abq c n a g k l m h i j d b:=rV (bM aO9 O7 [(0,c),(1,d)]) λe=>ao 2 b n (gt a 0) λf=>sV (aK 2 b f e) (abo g k l m c d n a f e h i j)
def abr b k f g h i a:=aB 0 a b λc=>aM a c λj=>aB 1 a b λd=>aM a d λe=>cN 98 [e] a 24 (abq j k f b c d e g h i)
def abs c t3 R a:=aw 4 a c λd=>sV (aK 4 a t3 d) λb=>aw 4 b t3 λe=>fe R b [e]
def abt b t3 R c a:=aB 3 a b λd=>sV (aK 1 a d c) (abs b t3 R)
def abu b t3 R a:=ab 3 a b λc=>cN 219 [c] a 36 (abt b t3 R)
def abv b t3 R c a:=aB 2 a b λd=>sV (aK 1 a d c) (abu b t3 R)
def abw b t3 R a:=ab 2 a b λc=>cN 218 [c] a 32 (abv b t3 R)
def aby i h n d t3 R e f b a:=∀_:Rg,aU (gt b 0) i λj=>ah j (ao 2 a h (gt b 0) λk=>aw 2 a k λl=>eV (bs 131 aO9 a 5) λc g=>sV (aK 2 g c l) (abr c n b e f a)) (aB 0 a d λm=>sV (aK 1 a m n) (abw d t3 R))
def abx a t3 R e c:=ab 0 c a λb=>aJ c b λd=>lV [(iv 0)] c (aby d b e a t3 R)
def abp a R t3 b:=ab 0 b a λd=>aJ b d λc=>eV (qO 131 aTL 32 b 9 c c) (abx a t3 R)
def Iq a b R:=eV (bs 36 aNC b 2) (abp a R)
def aJp{a:AV}{s0:ae}{R:be}(h:eV (qm 36 4 s0 1 a) λb c=>Iq b c R):EB 183 [a] s0 R:=zB atE yR Tryz.func183 h
def aK6{d:List AV}{s0:ae}{R:be}(g:L s0=4096)(l0:L d=4)(h:∀(b:ae) (c:Nat),Kp s0 b->(∀k,k≠1->aZ b k=aZ s0 k)->(∀x,box s0 (1,c)≠V x)->box b (1,c)=V ⟨36,4,U,U,[d]⟩->Iq (.p (1,c) 0 0) b R):EB 183 [.a d] s0 R:=by refine aJp ?_;refine iN rfl l0 (by decide) (by decide) g λb c j g0 l e=>?_;exact h b c j (λk f=>g0 k f) (λx i=>l x ((Kp.refl _).keep _ _ i)) e
def avc:=bi 34 [(2,([1,2,3,8,9],[0])),(10,([3],[0,1,2,8,9,10])),(14,([11,12],[0,1,2,3,8,9,10])),(18,([],[0,1,2,3,8,9,10,11]))]
def arW g(h:aG) a f d c(m1:bu) i(j:AV) b:=aV g (iv 1) λe=>h [e,(gt a 1),(gt f 0),d,c] b/\m1 [e,(gt a 1),(gt f 0),d,c] b<m1 a i
def arX(g:aG) a c f e d(m1:bu) h(i:AV) b:=g [(gt a 0),c,(gt f 0),e,d] b/\m1 [(gt a 0),c,(gt f 0),e,d] b<m1 a h
def ar0 a g c f(n:aG) e(m1:bu) t3(E:eQ):=∀_:Rg,aO .gtr (gt a 0) (iv 0) λb=>fm b g λo=>fm b (gt a 0) λp=>az b (aO .sub p (iv 1)) λq=>az b (ao 1 c o q) λr=>az b (aM c r) λs=>fm b g λt=>fm b (gt f 0) λu=>az b (ao 1 c t u) λv=>az b (aM c v) λw=>az b (fV BN c [s,w]) λx=>az b (cf x) λy=>aD b y (bv I) λz=>ah z (fV (cX 244) c [g,(gt a 0),(gt a 1),(gt f 0)] λh=>n [h,(gt a 1),(gt e 0),(gt a 3),(gt a 4)] c/\m1 [h,(gt a 1),(gt e 0),(gt a 3),(gt a 4)] c<m1 a c) (fV (cX 245) c [g,(gt a 0),(gt a 1),(gt f 0)] λi=>rV (eO 0 i) λd=>rV (eO 1 i) λj=>aO .sub d (gt a 0) λk=>aO .sub (gt a 1) d λl=>aO .quo t3 (iv 8) λm=>aU k l λA=>ah A (aO .geq k m λB=>cB 220 [g,(gt a 0),d,(gt e 0)] c 121 (arW d n a e B j m1 c)) (aO .geq l m λC=>aV d (iv 1) λD=>cB 220 [g,D,(gt a 1),(gt e 0)] c 132 (arX n a d e C j m1 c)))
def ar3 a d e k R(c:cG):=fm (gt a 3) (gt a 4) λf=>aD (gt a 3) f (bv I) λb=>fm b (gt d 1) λg=>az b (bf g (iv 1)) λh=>aD b h (bv I) λi=>ah i (fV (cX 242) e [k,(gt a 0),(gt a 1)] λj=>ah j (fe R e []) (c [])) (c [])
def arZ b c d f e m1 t3 R a:=∀_:Rg,jR 18 (ar0 b c d a f e m1 t3) (ar3 b a d c R)
def ar2 d j i a c(b:cG):=bf d (iv 2) λe=>ah e (fV (cX 241) j [i,(gt a 0),(gt a 1)] λk=>aO .sub (gt a 1) (iv 1) λf=>aO .sub c (gt a 0) λg=>aO .sub f g λh=>b [h,(iv 1)]) (b [c,d])
def arY d c a h m1 t3 R g:=∀_:Rg,fV (cX 240) d [c,(gt a 0),(gt a 1)] λb=>rV (eO 0 b) λe=>rV (eO 1 b) λf=>jR 14 (arZ a c d h g m1 t3 R) (ar2 f d c a e)
def a8D a f e(b:cG):=cf (gt a 3) λc=>ah c (fV (cX 239) f [e,(gt a 0),(gt a 1)] λg=>aO .sub (gt a 2) (iv 1) λd=>b [d]) (b [(gt a 2)])
def akb c R d m1 a b:=∀_:Rg,aO .sub (gt a 1) (gt a 0) λt3=>aO .leq t3 (iv 12) λt4=>ah t4 (cB 237 [c,(gt a 0),(gt a 1)] b 27 λg e=>fe R e []) (bf (gt a 2) (iv 0) λf=>ah f (fV (cX 238) b [c,(gt a 0),(gt a 1)] λh=>fe R b []) (jR 10 (arY b c a d m1 t3 R) (a8D a b c)))
def JU a b c d s0 R:=lV [b,c,d,(bv U),(bv U)] s0 (akb a R)
def aJS{a b c d:AV}{s0:ae}{R:be}(h:JU a b c d s0 R):EB 220 [a,b,c,d] s0 R:=zB avc yR Tryz.func220 h
def aMF{a:AV}{b:AV}{c:AV}{d:AV}{s0:ae}{R:be}(e:L s0=4096)(h:JU a b c d s0 R):EB 220 [a,b,c,d] s0 R:=by refine aJS ?_;exact h
def ava:=bi 1 []
def JS a s0 R:=aJ s0 a λt1=>rV (sO (V .u64) t1) λc=>fV Fm s0 [c] λt3=>cB 220 [a,(iv 0),t1,t3] s0 10 λt4 b=>fe R b []
def aJQ{a:AV}{s0:ae}{R:be}(h:JS a s0 R):EB 184 [a] s0 R:=zB ava yR Tryz.func184 h
def aMD{a:AV}{s0:ae}{R:be}(b:L s0=4096)(h:JS a s0 R):EB 184 [a] s0 R:=by refine aJQ ?_;exact h
def au7:=bi 16 [(7,([5,6],[0,1])),(10,([5],[0,1,6]))]
def JP c(f:aG)(e:bu) g d a:=∀_:Rg,aV (gt c 1) (iv 1) λb=>f [(gt d 0),b] a/\e [(gt d 0),b] a<e c g
def aj4 d f a m(e:aG):=ao 1 d f (gt a 1) λh=>aM d h λc=>cF m [c] d 28 λi b=>cf i λj=>ah j (ao 1 b f (gt a 0) λk=>sV (aK 1 b k c) λg=>aV (gt a 0) (iv 1) λl=>e [l] g) (e [(gt a 0)] b)
def aj2 d c R a:=rV (fo 1 a d J (V (gt c 0)) J) λb=>fe R a [b]
def aj5 c f R e g a b:=∀_:Rg,aJ b c λh=>aU (gt a 1) h λi=>ah i (jV 10 (JP a e g b) (aj4 b c a f)) (rV (fo 1 b c (V (gt a 0)) J J) λd=>sV (pA (.int .i64 0) b d) (aj2 c a R))
def aj3 R a c t1 b:=bf t1 (iv (-1)) λt3=>ah t3 (fe R b [a]) (aV t1 (iv 1) λt4=>lV [t1,t4] b (aj5 a c R))
def JO a b s0 R:=cB 222 [a,b] s0 10 (aj3 R a b)
def aJO{a b:AV}{s0:ae}{R:be}(h:JO a b s0 R):EB 186 [a,b] s0 R:=zB au7 yR Tryz.func186 h
def aMA{a:AV}{b:AV}{s0:ae}{R:be}(c:L s0=4096)(h:JO a b s0 R):EB 186 [a,b] s0 R:=by refine aJO ?_;exact h
def atB:=bi 12 []
def aa7 h d R i f g K a:=bf h (iv 1) λt=>ah t (ab 0 a d λu=>bf u (iv 1) λv=>aE R a [v]) (bf h (iv 17) λw=>ah w (ab 0 a d λx=>bf x (iv 4) λe=>aT e 1 a d λy=>fm e i λz=>az e (bf y z) λA=>aD e A (bv I) λc=>aT c 0 a f λB=>aT c 2 a g λC=>fm c i λD=>az c (ao 2 a C D) λE=>aT c 1 a E λF=>az c (ao 2 a B F) λG=>aT c 0 a G λH=>az c (bf H (iv (-1))) λj=>aD c j (bv I) λk=>aE R a [k]) (ab 0 a d λl=>bf l (iv 2) λb=>az b (aw 6 a g) λm=>az b (aw 4 a f) λn=>fm b K λo=>fm b h λp=>fm b i λq=>az b (fV Fu a [m,n,o,p,q]) λr=>aD b r (bv I) λs=>aE R a [s]))
def In c e g h i a R:=aw 6 a c λy=>aw 4 a e λz=>fV zf a [y,z] λA=>cf A λd=>ic d g λk=>bn d 4 a c λl=>aC d (aJ a l) λm=>aC d (fV ry a [k,m]) λn=>aC d (cf n) λo=>aD d (bv U) o λb=>aC b (aw 6 a c) λp=>ic b h λq=>ic b i λr=>aC b (fV Ft a [p,q,r]) λs=>aC b (cf s) λt=>aD b (bv U) t λu=>ah u (aE R a [(bv I)]) (ab 3 a e λv=>ao 3 a v g λw=>aw 3 a w λx=>eV (bs 105 aNB a 11) λf j=>sV (aK 3 j f x) (aa7 h f R i e c g))
def aK3{b:List AV}{c:List AV}{d:AV}{e:AV}{f:AV}{R:d7}(l0:L b=6)(l1:L c=4)(h:H2 31 6 5 b 36 4 6 c λg i j=>In g i d e f j R):Ct 131 [.a b, .a c,d,e,f] R:=z2 atB yR Tryz.func131 l0 l1 h
def aCG{Y:ae}{b:Id}{r:List Int}{t:Int}{d:Int}(e:jC r)(l:t∉r)(k:L r<12)(j:box Y b=V ⟨3,1,U,I,(r++[t]).map ci⟩)(g:L Y=4096):∃a c,(a= .t []/\box c b=V ⟨3,1,U,I,(fk r t).map ci⟩/\Fx Y c [b])/\cZ aS GG 220 [.m b (L r+1),iv 0,iv ((L r+1:Nat):Int),iv d] Y a c:=by refine aMF g ?_;simp only[JU,↓uL];refine⟨λvs Y'=>vs=[iv 0,iv ((L r+1:Nat):Int),iv d,bv U,bv U]/\Y'=Y,λ_ _=>0,⟨rfl,rfl⟩,?_⟩;rintro vs Y' ⟨rfl,rfl⟩;have h:Q (((L r+1:Nat):Int)<=12)=U:=(by simp;omega);simp only[akb,aI,au,ck,u0,u1,Int.sub_zero,eM (x:=((L r+1:Nat):Int)) (by omega) (by omega),h,↓iC,↓uL];refine jH rfl (aCw e l k j g) ?_;rintro a c ⟨rfl,i,f⟩;exact⟨f.len,by simp only[fe,aoz];exact⟨trivial,i,f⟩⟩
def aCO{Y:ae}{b:Id}{r:List Int}{t:Int}(d:jC r)(n:t∉r)(l:L r<12)(f:box Y b=V ⟨3,1,U,I,(r++[t]).map ci⟩)(h:L Y=4096):∃a c,(a= .t []/\box c b=V ⟨3,1,U,I,(fk r t).map ci⟩/\Fx Y c [b])/\cZ aS GG 184 [.m b (L r+1)] Y a c:=by refine aMD h ?_;have i:fS Y (.m b (L r+1))=V (iv ((L r+1:Nat):Int)):=(by simp[fS,f]);have g:sO (V .u64) (iv ((L r+1:Nat):Int))=V (.s (.int .u64 ((L r+1:Nat):Int))):=(by show V (AV.s (.int .u64 (IntKind.u64.wrap _)))=_;congr 3;rw[IntKind.wrap_u64];omega);simp only[JS,i,aY,g,ar,ut,jM,↓uL];refine⟨by omega,?_⟩;rintro k ⟨o,rfl⟩;refine⟨.inl rfl,?_⟩;refine jH rfl (aCG d n l f h) ?_;rintro a c ⟨rfl,j,e⟩;exact⟨e.len,by simp only[fe,aoz];exact⟨trivial,j,e⟩⟩
def apJ{l:List Int}{t:Int}{j:Nat}(h:j<L l):fJ (l.take (j+1)) t=fJ (l.take j) t++if gd l j≠t then[gd l j] else[]:=by rw[fJ,iJ h,me,bT h];congr 1;by_cases a:l[j]=t<;>simp[a]
def aE6{l:List Int}{t:Int}(h:t∈l):∃i:Nat,oW l t=i/\i<L l/\gd l i=t/\∀j,j<i->gd l j≠t:=by have g:(l.findIdx? λx=>Q (x=t)).isSome=U:=(by rw[RM,tL];exact⟨t,h,by simp⟩);obtain⟨i,b⟩:=zz.1 g;have c:=RL.1 b;obtain⟨a,d,e⟩:=c;refine⟨i,by rw[oW,b],a,by rw[bT a];simpa using d,λj f=>?_⟩;have:=e j f;rw[bT (by omega)];simpa using this
def aCs{Y:ae}{b c:Id}{l:List Int}{t:Int}{e:TypeId}(hm:t∈l)(G:box Y b=V ⟨3,1,U,I,l.map ci⟩)(B:box Y c=V ⟨e,1,U,U,[[iv t]]⟩)(M:L Y=4096)(hn:L l<1000):∃E n,(E= .m b (L (fJ l t))/\box n b=V ⟨3,1,U,I,(fJ l t++er (L l-L (fJ l t)) 0).map ci⟩/\Fx Y n [b])/\cZ aS GG 186 [.m b (L l), .f 187 [] [.p c 0 0]] Y E n:=by refine aMA M ?_;have P:c≠b:=(by rintro rfl;rw[G] at B;cases B);simp only[JO,↓uL];refine aS2 rfl (aCv G B M hn) ?_;obtain⟨v,hp,X,W,H⟩:=aE6 hm;rw[hp];have ac:Q ((v:Int)= -1)=I:=(by simp);simp only[aj3,u0,u1,ac,eE,Ca,O9,mn,↓uL];rw[fX (by omega)];have D:fJ (l.take (v+1)) t=l.take v:=(by rw[apJ X,cj (by simp[W]),cL,fJ,List.filter_eq_self];intro x hx;obtain⟨j,K,rfl⟩:=ou hx;have Z:j<v:=(by simp at K;omega);have:=H j Z;rw[bT (by omega)] at this;simpa using this);refine AI (α:=Nat) (λa i=>[iv (a:Int),iv i]) 1 (L l) (v+1) (by omega) (λj a Y'=>∃d:List Int,a=L (fJ (l.take j) t)/\a<j/\L d=L l/\d.take a=fJ (l.take j) t/\d.drop j=l.drop j/\box Y' b=V ⟨3,1,U,I,d.map ci⟩/\Fx Y Y' [b]) (s0:=v) ⟨l,?_,by omega,rfl,?_,rfl,G,Fx.refl _ _⟩ ?_;rw[D];simp;omega;rw[D];rintro j a n K ⟨d,A,ap,S,y,u,o,w⟩;have aa:L n=4096:=w.len.trans M;have c1:=w.keep _ _ (by simpa using P) B;have ab:fS n (.m b (L l))=V (iv (L l)):=(by simp[fS,o]);simp only[aj5,aI,au,ck,ab,u0,u1,↓uL];refine⟨λh=>?_,λh=>?_⟩;have q:=aL h;have T:gd d j=gd l j:=(by have O:(d.drop j)[0]?=(l.drop j)[0]?:=(by rw[u]);rw[mf,mf,kP,eC (by omega),eC q] at O;rw[bT (by omega),bT q];simpa using O);have r:=apJ (t:=t) q;simp only[di,aj4,au,ck,mx o (dJ q),bh,ml o (show j<L d by omega),aY,T,↓uL];refine alB c1 aa ?_;simp only[u0,u1,↓uL];refine⟨λN=>?_,λN=>?_⟩;have z:gd l j≠t:=(by simpa using N);rw[bX z] at r;simp only[mx o (dJ (show a<L l by omega)),bh];refine Qo o (by omega) λY2 F2 b2=>?_;simp only[JP,aI,au,ck,u0,u1,↓uL];rw[fX (k:=a) (by omega)];refine dR (mk:=λ(a:Nat) i=>[iv (a:Int),iv i]) (p:=1) (s:=a) (s':=a+1) (λ_ _=>rfl) q (by omega) ?_;refine⟨d.set a (gd l j),by rw[r];simp[A],by omega,by simp[S],?_,?_,b2,(w.trans F2).mono (by simp)⟩;rw[r,<-y,iJ (by simp;omega),List.take_set_of_le (dA _)];simp;rw[List.drop_set_of_lt (by omega)];have:d.drop (j+1)=(d.drop j).drop 1:=(by rw[zo]);rw[this,u,zo];have z:gd l j=t:=(by simpa using N);rw[cj (by simp[z]),cL] at r;simp only[JP,aI,au,ck,u0,u1,↓uL];refine dR (mk:=λ(a:Nat) i=>[iv (a:Int),iv i]) (p:=1) (s:=a) (s':=a) (λ_ _=>rfl) q (by omega) ?_;refine⟨d,by rw[r];exact A,by omega,S,by rw[r];exact y,?_,o,w⟩;have:d.drop (j+1)=(d.drop j).drop 1:=(by rw[zo]);rw[this,u,zo];obtain rfl:j=L l:=bP K (bw h);rw[gV] at A y;have af:fo 1 n (.m b (L l)) (V (iv (a:Int))) J J=V (.g 2 b a (L l-a)):=(by simp only[fo,lM];rw[bX (by omega)];simp only[qY,o,qd,bh,mi,sD];rw[cj (by simp),bX ⟨trivial,by omega,by omega,trivial⟩,cj (by omega)]);simp only[af,aY,↓uL];have R:pA (.int .i64 0) n (.g 2 b a (L l-a))=V (wr n b ⟨3,1,U,I,(d.take a++er (L l-a) 0++d.drop (L l)).map ci⟩):=(by simp only[pA,o];rw[bX ⟨trivial,by omega⟩];congr 3;rw[show a+(L l-a)=L l by omega];simp[GL,GK]);simp only[R,aoq,aj2,au,↓uL];have F:=lO (x':=⟨3,1,U,I,(d.take a++er (L l-a) 0++d.drop (L l)).map ci⟩) o;have ad:fo 1 (wr n b ⟨3,1,U,I,(d.take a++er (L l-a) 0++d.drop (L l)).map ci⟩) (.m b (L l)) J (V (iv (a:Int))) J=V (.m b a):=(by simp only[fo,lM];rw[bX (by omega)];simp only[qY,F,qd,bh,mi];rw[bX ⟨trivial,trivial,by omega⟩]);simp only[ad,aY,fe,aoz,↓uL];have C:d.drop (L l)=[]:=(by rw[u];simp);rw[C,cL,y] at F;subst A;rw[show d.take (L (fJ l t))++er (L l-L (fJ l t)) 0++d.drop (L l)=fJ l t++er (L l-L (fJ l t)) 0 by rw[C,cL,y]];exact⟨rfl,F,(w.trans (wc o)).mono (by simp)⟩
def anf{Y a:ae}{b:Id}{x:bY}(d:Fx Y a [b])(h:box a b=V x):LoC b x Y a:=⟨d.len,d.lB,λc y e f=>d.keep c y (by simpa using e) f,h⟩
def awP{Y:ae}{d:Nat}{K:be}{b:Id}{l:List Int}(e:jC l)(a:box Y b=V ⟨3,1,U,I,l.map ci⟩)(k:L Y=4096)(n:L l<1000)(j:∀Y',Fx Y Y' [b]->box Y' b=V ⟨3,1,U,I,l.map ci⟩->K (.m b (L l)) Y'):cN 185 [.m b (L l)] Y d K:=by refine .inr (.inl ⟨.m b (L l),b,_,⟨3,1,U,I,l.map ci⟩,L l,rfl,a,⟨by simp[qA,gY],rfl,rfl,rfl,rfl,rfl⟩, .inr ⟨_,rfl⟩,λi g f=>?_,j _ (wc a) (lO a)⟩);have c:box i b=V ⟨3,1,U,I,l.map ci⟩:=(by rw[<-a];exact(nQ (f _ (by simp[pP,dC,dK]))).symm);obtain⟨r,o,⟨rfl,rfl⟩,h⟩:=aCq e c (g.trans k) n;exact⟨_,h,anf (Fx.refl _ _) c⟩
def awR{Y:ae}{d:Nat}{K:be}{b c:Id}{l:List Int}{t:Int}{e:TypeId}(w:t∈l)(a:box Y b=V ⟨3,1,U,I,l.map ci⟩)(u:box Y c=V ⟨e,1,U,U,[[iv t]]⟩)(v:L Y=4096)(x:L l<1000)(s:∀Y',Fx Y Y' [b]->box Y' b=V ⟨3,1,U,I,(fJ l t++er (L l-L (fJ l t)) 0).map ci⟩->K (.m b (L (fJ l t))) Y'):cN 186 [.m b (L l), .f 187 [] [.p c 0 0]] Y d K:=by have y:L (fJ l t)<=L l:=fZ _ _;refine .inr (.inl ⟨.m b (L (fJ l t)),b,_,⟨3,1,U,I,(fJ l t++er (L l-L (fJ l t)) 0).map ci⟩,L l,rfl,a,⟨by simp[qA,gY],rfl,rfl,rfl,rfl,by simp;omega⟩, .inr ⟨_,rfl⟩,λi n g=>?_,s _ (wc a) (lO a)⟩);have j:box i b=V ⟨3,1,U,I,l.map ci⟩:=(by rw[<-a];exact(nQ (g _ (by simp[pP,dC,dK]))).symm);have k:box i c=V ⟨e,1,U,U,[[iv t]]⟩:=(by rw[<-u];exact(nQ (g _ (by simp[pP,dC,dK]))).symm);obtain⟨r,z,⟨rfl,o,q⟩,h⟩:=aCs w j k (n.trans v) x;exact⟨_,h,anf q o⟩
def Ny{x:Int}{l:List Int}:jC (x::l)↔(∀y∈l.head?,x<y)/\jC l:=by constructor;intro h;refine⟨λy b=>?_,λi a=>by have:=h (i+1) (by simp;omega);simpa[gd] using this⟩;(cases l with|nil=>simp at b|cons z l=>simp only[List.head?_cons,Option.mem_def,bE] at b;subst b;have:=h 0 (by simp);simpa[gd] using this);rintro⟨c,d⟩ i a;cases i with|zero=>(cases l with|nil=>simp at a|cons z l=>have:=c z (by simp);simpa[gd] using this)|succ i=>have:=d i (by simp at a;omega);simpa[gd] using this
def aE9{l:List Int}{t:Int}:∀y∈(fk l t).head?,y=t\/y∈l.head?:=by cases l with|nil=>simp[fk]|cons x l=>intro y a;simp only[fk] at a;split at a;simp at a;simp[a];split at a;simp at a;simp[a];simp at a;simp[a]
def Nz:∀{l:List Int} {t:Int},jC l->jC (fk l t)
 |[],t,_=>by intro i c;simp[fk] at c
 |x::l,t,h=>by
  have b:=Ny.1 h
  simp only[fk]
  split
  ·rename_i d
   refine Ny.2 ⟨λy a=>?_,Nz b.2⟩
   rcases aE9 y a with rfl|a
   ·exact d
   ·exact b.1 y a
  ·split
   ·exact h
   ·refine Ny.2 ⟨λy a=>?_,h⟩
    simp at a;omega
def an0:∀{l:List Int} {t:Int},(∀x∈l,x<t)->fk l t=l++[t]
 |[],t,_=>rfl
 |x::l,t,h=>by
  simp only[fk,bX (h x (by simp)),zn]
  rw[an0 λy a=>h y (by simp[a])]
def an3{l:List Int}(h:jC l):∀k,k<=L l->jh [] l k=l.take k
 |0,_=>rfl
 |k+1,f=>by
  have a:k<L l:=by omega
  have d:jh [] l (k+1)=fk (jh [] l k) (gd l k):=by
   simp only[jh]
   rw[iJ a,List.foldl_append,bT a]
   rfl
  rw[d,an3 h k (by omega),iJ a,<-bT a]
  refine an0 λx e=>?_
  obtain⟨j,c,rfl⟩:=ou e
  have b:j<k:=by simp at c;omega
  have:=AD h b a
  rw[GI,<-bT (by omega)]
  exact this
def Ro{l:List Int}{t:Int}(h:jC l):mP l [t]=fk l t:=by show jh (jh [] l (L l)) [t] 1=_;rw[an3 h _ (dA _),gV];rfl
def io(n:Nat)(f:Nat->List AV):List (List AV):=(aH n).map f
def aH0{n:Nat}{f:Nat->List AV}:L (io n f)=n:=by simp[io]
def uU{n:Nat}{f:Nat->List AV}{k:Nat}(h:k<n):(io n f)[k]?=V (f k):=by simp[io,h]
def yC{n:Nat}{f g:Nat->List AV}(h:∀i,i<n->f i=g i):io n f=io n g:=ja λi a=>h i (fq.1 a)
def Bl{n:Nat}{f:Nat->List AV}{k:Nat}{x:List AV}:(io n f).set k x=io n λi=>if i=k then x else f i:=by refine zp (by simp[io]) λj a b=>?_;rw[List.getElem_set];simp only[io,xi,RS];by_cases h:k=j;rw[bX h,bX h.symm];rw[cj h,cj (λe=>h e.symm)]
def Q0{n:Nat}{x:List AV}:er n x=io n λ_=>x:=by refine zp (by simp[io]) λj a b=>?_;simp[io]
def aH1{α:Type}[Inhabited α]{l:List α}{g:α->List AV}:(l.map g)=io (L l) λi=>g (gd l i):=by refine zp (by simp[io]) λj a b=>?_;simp only[io,xi,RS];rw[bT (by simpa using a)]
def qg(Y:ae)(e:TypeId)(z:Nat)(a:AV)(aa:List (List AV)):Prop:=(aa=[]/\a= .l [] U U)\/∃b c,a= .m b (L aa)/\box Y b=V ⟨e,z,U,I,c⟩/\c.take (L aa)=aa
def qg.fx{Y Y':ae}{ks:List Id}{e:TypeId}{z:Nat}{a:AV}{aa:List (List AV)}(i:qg Y e z a aa)(g:Fx Y Y' ks)(j:∀b∈aA a,b∉ks):qg Y' e z a aa:=by rcases i with h|⟨b,c,rfl,d,f⟩;exact .inl h;exact .inr ⟨b,c,rfl,g.keep b _ (j b (by simp[aA])) d,f⟩
def bc.x{Y:ae}{e:TypeId}{z:Nat}{a:AV}{aa:List (List AV)}(d:bc Y e z a aa):qg Y e z a aa:=by rcases d with h|⟨b,rfl,c⟩;exact .inl h;exact .inr ⟨b,aa,rfl,c,gV⟩
def qg.ids{Y:ae}{e:TypeId}{z:Nat}{a:AV}{aa:List (List AV)}(g:qg Y e z a aa):∀k∈aA a,∃c,box Y k=V ⟨e,z,U,I,c⟩:=by rcases g with⟨_,rfl⟩|⟨b,c,rfl,f,h⟩;simp[aA];intro k d;simp only[aA,cE] at d;subst d;exact⟨c,f⟩
def qg.ce{Y:ae}{e:TypeId}{z:Nat}{a:AV}{aa:List (List AV)}(c:qg Y e z a aa):eY a=V [a]:=by rcases c with⟨_,rfl⟩|⟨b,_,rfl,_⟩<;>rfl
def qg.fr{Y:ae}{e:TypeId}{a:AV}{l:List Int}(f:qg Y e 1 a (l.map ci)):rS Y a=sl ci l:=by rcases f with⟨h,rfl⟩|⟨b,g,rfl,c,d⟩;simp at h;subst h;rfl;simp only[rS,aOn,c,vg,gK];rw[d];rfl
def vC(Y:ae)(a:AV)(ls:List cg):Prop:=∃(b:Id) (f:Nat->AV),a= .m b (L ls)/\box Y b=V ⟨131,2,U,U,io (L ls) λi=>[iv (gd ls i).pw,f i]⟩/\(∀i,i<L ls->bc Y 3 1 (f i) ((gd ls i).bk.map ci))/\(∀i j,i<L ls->j<L ls->i≠j->∀k∈aA (f i),k∉aA (f j))/\∀i,i<L ls->∀k∈aA (f i),k.1=24
def sC(Y:ae)(a:AV)(ls:List cg):Prop:=∃(b:Id) (f:Nat->AV),a= .m b (L ls)/\box Y b=V ⟨131,2,U,U,io (L ls) λi=>[iv (gd ls i).pw,f i]⟩/\(∀i,i<L ls->qg Y 3 1 (f i) ((gd ls i).bk.map ci))/\∀i j,i<L ls->j<L ls->i≠j->∀k∈aA (f i),k∉aA (f j)
def Bp{Y:ae}{b:Id}{i j z y:Nat}{e:TypeId}{o:Bool}{aa:List (List AV)}{r cs:List AV}{x:AV}{K:ae->Prop}(a:box Y b=V ⟨e,z,o,U,aa⟩)(g:aa[i]?=V r)(k:eY x=V cs)(l:L cs=y)(f:j+y<=L r)(d:∀Y',Fx Y Y' [b]->box Y' b=V ⟨e,z,o,U,aa.set i (r.take j++cs++r.drop (j+y))⟩->K Y'):sV (aK y Y (.p b i j) x) K:=by have c:aK y Y (.p b i j) x=V (wr Y b ⟨e,z,o,U,aa.set i (r.take j++cs++r.drop (j+y))⟩):=(by subst l;simp only[aK,aBG,a,vg,pW,k,g];rw[bX ⟨trivial,f,λh=>by cases h⟩]);rw[c];exact d _ (wc a) (lO a)
def AP{e:TypeId}{zs:List AV}{by' d n:Nat}{Y:ae}{K:be}(k:0<L zs)(i:zs.all eN=U)(a:d<L Y)(j:n*(by'+1)<=1099511627776)(g:∀b Y',b.1=d->bK Y b->Fx Y Y' []->box Y' b=V ⟨e,L zs,U,uj zs,er n (mz zs)⟩->K (.m b n) Y'):eV (qO e zs by' Y d (iv n) (iv n)) K:=by have c:qO e zs by' Y d (iv n) (iv n)=V (.m (lA Y d) n,put Y d ⟨e,L zs,U,uj zs,er n (mz zs)⟩):=(by have f:(n:Int)*((by':Int)+1)<=((1099511627776:Nat):Int):=(by have h:=Int.ofNat_le.2 j;rw[Int.natCast_mul,Int.natCast_add] at h;exact h);simp only[qO];rw[bX ⟨by omega,Int.le_refl _,k,i,by simp[y7,a],f⟩];simp);rw[c];exact g _ _ rfl (qQ Y d) (kH a) (iy a)
def aqw(s:aW)(r:AV)(f Y:ae):Prop:=∃d e b,r= .a [d,iv s.tx,e,b]/\vC Y d s.ak/\bc Y 4 1 e (s.done.map cb)/\bc Y 105 3 b (s.ay.map bF.c)/\(∀k∈aA d++aA e++aA b,bK f k)/\∀k∈aA b,k.1≠7/\k.1≠8
def aCp(s:aW){Y:ae}(hl:L Y=4096)(hp:L s.ak<1000/\L s.done<1000/\L s.ay<1000/\∀l∈s.ak,L l.bk<1000):∃r Y1,(aqw s r Y Y1/\Fx Y Y1 [])/\cZ aS GG 183 [.a s.c] Y r Y1:=by refine aK6 hl rfl λs2 v K2 bS bn b1=>?_;have H:Fx Y s2 []:=K2.fx [];have aG:L s2=4096:=K2.len.trans hl;simp only[Iq,↓uL];refine so aG λS Y2 W N2 b2=>?_;have d1:=W.kq b1;have aJ:L Y2=4096:=W.len.trans aG;simp only[abp,u0,u1,d1,rk,aj,cT,↓uL];refine AP (by decide) (by decide) (by rw[aJ];decide) (by omega) λn Y3 bR NL F3 bd=>?_;have hL:box Y3 n=V ⟨131,2,U,U,io (L s.ak) λ_=>[iv 0, .l [] U U]⟩:=(by rw[bd,Q0];rfl);have e1:=F3.kq d1;simp only[abx,u0,u1,e1,rk,aj,cT,↓uL];refine yV (L s.ak) (λk _ Y'=>Fx Y2 Y' []/\∃f:Nat->AV,box Y' n=V ⟨131,2,U,U,io (L s.ak) λi=>if i<k then[iv (gd s.ak i).pw,f i] else[iv 0, .l [] U U]⟩/\(∀i,i<k->bc Y' 3 1 (f i) ((gd s.ak i).bk.map ci))/\(∀i j,i<k->j<k->i≠j->∀q∈aA (f i),q∉aA (f j))/\(∀i,i<k->∀q∈aA (f i),q≠n)/\∀i,i<k->∀q∈aA (f i),q.1=24) ⟨F3,λ_=> .u,by simpa using hL,by omega,by omega,by omega,by omega⟩ ?_;rintro k _ F hk ⟨N,f,ad,K,aC,aE,aD⟩;have af:L F=4096:=N.len.trans aJ;have g1:=N.kq d1;have g2:=N.kq b2;simp only[aby,aI,au,u0,u1,ix,rk,bh,g1,aj,↓uL];refine⟨λh=>⟨bA h,?_⟩,λh=>?_⟩;have M:=aL h;refine so af λv5 Y5 B N5 b5=>?_;refine cy (cs:=cg.c (gd s.ak k)) b5 rfl rfl (by decide) λY6 C Z=>?_;have a9:box Y6 (5,v5)=V ⟨131,2,U,U,[cg.c (gd s.ak k)]⟩:=Z;have A:Fx F Y6 []:=B.tn C N5.no;have bi:L Y6=4096:=A.len.trans af;simp only[abr,u0,u1,a9,rk,aj,↓uL];refine Kr (aa:=(gd s.ak k).bk.map ci) rfl fF (by have:=hp.2.2.2 _ (dB M);simp;omega) (by simp[gY]) (by rw[bi];decide) λO Y7 g7 D N7=>?_;have be:bM aO9 O7 [(0,iv (gd s.ak k).pw),(1,O)]=V (.a [iv (gd s.ak k).pw,O]):=(by simp[bM,gp,ms g7,zU]);have aF:=D.kq (A.kq ad);have bf:cz 2 Y7 (.m n (L s.ak)) (iv k)=V (.p n k 0):=(by simp[cz,aF,M]);simp only[abq,be,aY,bf,au,↓uL];refine Bp aF (uU M) (x:= .a [iv (gd s.ak k).pw,O]) rfl rfl (by rw[cj (Nat.lt_irrefl k)];decide) λY8 E b8=>?_;simp only[abo,↓uL];refine dT rfl ?_;simp only[au,u0,u1,↓uL];have ag:∀q∈aA O,q≠n:=λq b e=>(by have h:=(N7 q b).1;rw[e] at h;exact h.no _ (A.kq ad));have ah:∀i,i<k->∀q∈aA (f i),q∉aA O:=λi o q b al=>(by obtain⟨y,d⟩:=(K i o).x.ids q b;exact(N7 q al).1.no _ (A.kq d));have av:Fx F Y8 [n]:=(A.trans (D.trans E)).mono (by simp);refine yU M ⟨N.tn av NL.no,λi=>if i=k then O else f i,?_,?_,?_,?_,?_⟩;rw[b8,Bl];congr 2;refine yC λi o=>?_;by_cases g:i=k;subst g;simp;by_cases t:i<k;simp[g,t,show i<k+1 by omega];simp[g,t,show¬i<k+1 by omega];intro i o;by_cases g:i=k;subst g;simp only[vg];exact g7.fx E (λq b=>by simpa using ag q b);simp only[cj g];exact(K i (by omega)).fx av λq b=>(by simpa using aE i (by omega) q b);intro i j o hj bl q b;by_cases g:i=k;by_cases t:j=k;omega;simp only[bX g] at b;simp only[cj t];exactλal=>ah j (by omega) q al b;simp only[cj g] at b;by_cases t:j=k;simp only[bX t];exact ah i (by omega) q b;simp only[cj t];exact aC i j (by omega) (by omega) bl q b;intro i o q b;by_cases g:i=k;simp only[bX g] at b;exact ag q b;simp only[cj g] at b;exact aE i (by omega) q b;intro i o q b;by_cases g:i=k;simp only[bX g] at b;exact(N7 q b).2;simp only[cj g] at b;exact aD i (by omega) q b;obtain rfl:k=L s.ak:=bP hk (bw h);have aV:box F n=V ⟨131,2,U,U,io (L s.ak) λi=>[iv (gd s.ak i).pw,f i]⟩:=(by rw[ad];congr 2;exact yC λi o=>by rw[bX o]);have n1:n≠(1,v):=(NL.ne d1).symm;refine cy (cs:=[.m n (L s.ak)]) g1 rfl rfl (by simp[aW.c]) λY5 B b5=>?_;have az:box Y5 (1,v)=V ⟨36,4,U,U,[[.m n (L s.ak),iv s.tx,sl cb s.done,sl bF.c s.ay]]⟩:=b5;have aK:L Y5=4096:=B.len.trans af;simp only[abw,u0,u1,az,aj,iF,nM,ip,↓uL];refine aw2 (aa:=s.done.map cb) rfl (qW (f:=cb) λ_=>rfl) (by simp;omega) (by simp[gY]) (by rw[aK];decide) λG Y6 g6 C N6=>?_;have Z:=C.kq az;simp only[abv,u0,u1,Z,aj,↓uL];refine cy (cs:=[G]) Z (ms g6) rfl (by simp) λY7 D b7=>?_;have aB:box Y7 (1,v)=V ⟨36,4,U,U,[[.m n (L s.ak),iv s.tx,G,sl bF.c s.ay]]⟩:=b7;have bj:L Y7=4096:=D.len.trans (C.len.trans aK);simp only[abu,u0,u1,aB,aj,iF,nM,ip,↓uL];refine aw1 (aa:=s.ay.map bF.c) rfl (qW (f:=bF.c) λ_=>rfl) (by simp;omega) (by simp[gY,bF.c]) (by rw[bj];decide) λP Y8 g8 E N8=>?_;have b8:=E.kq aB;simp only[abt,u0,u1,b8,aj,↓uL];refine cy (cs:=[P]) b8 (ms g8) rfl (by simp) λY9 F9 b9=>?_;have ba:box Y9 (1,v)=V ⟨36,4,U,U,[[.m n (L s.ak),iv s.tx,G,P]]⟩:=b9;have ar:Fx F Y9 [(1,v)]:=(B.trans (C.trans (D.trans (E.trans F9)))).mono (by simp);have bT:(2,S)≠(1,v):=(by simp);have g9:=ar.kq g2;simp only[abs,u0,u1,ba,aj,uS,↓uL];refine cy (cs:=[.m n (L s.ak),iv s.tx,G,P]) g9 rfl rfl (by decide) λax T a7=>?_;have aQ:box ax (2,S)=V ⟨36,4,U,U,[[.m n (L s.ak),iv s.tx,G,P]]⟩:=a7;simp only[u0,u1,aQ,aj,uS,fe,aoz,↓uL];have aw:Fx Y F []:=(H.trans (W.trans N)).mono (by simp);have X:Fx F ax [(1,v),(2,S)]:=(ar.trans T).mono (by simp);have R:∀{q:Id} {e:TypeId} {z:Nat} {y:List (List AV)} {τ:ae},box τ q=V ⟨e,z,U,I,y⟩->∀{w:Id} {x:bY},box τ w=V x->x.var=U->q≠w:=(by intro q e z y τ g w x t h3 e';subst e';rw[g] at t;cases t;cases h3);have k1:∀i,i<L s.ak->∀q∈aA (f i),q∉[(1,v),(2,S)]:=λi o q b=>(by obtain⟨y,d⟩:=(K i o).x.ids q b;simp only[eW,ql,C8,not_or];exact⟨R d g1 rfl,R d g2 rfl⟩);have i2:∀q∈aA G,q∉[(1,v)]/\q∉[(2,S)]:=λq b=>(by obtain⟨y,d⟩:=g6.x.ids q b;have ac:=C.kq (B.kq g2);exact⟨by simpa using R d Z rfl,by simpa using R d ac rfl⟩);have i3:∀q∈aA P,q∉[(1,v)]/\q∉[(2,S)]:=λq b=>(by obtain⟨y,d⟩:=g8.x.ids q b;have ac:=E.kq (D.kq (C.kq (B.kq g2)));exact⟨by simpa using R d b8 rfl,by simpa using R d ac rfl⟩);refine⟨⟨_,G,P,rfl,⟨n,f,rfl,?_,λi o=>(K i o).fx X (k1 i o),aC,aD⟩,?_,?_,?_,λk hk=>by have:=(N8 k hk).2;omega⟩,?_⟩;refine X.keep _ _ ?_ aV;simp only[eW,ql,C8,not_or];exact⟨n1,(NL.ne b2).symm⟩;exact((g6.fx D λq b=>(i2 q b).1).fx E (by simp)).fx (F9.trans T) λq b=>(by have:=i2 q b;simp only[RZ,eW,ql,C8,cE,not_or] at this⊢;exact this);exact g8.fx (F9.trans T) λq b=>(by have:=i3 q b;simp only[RZ,eW,ql,C8,cE,not_or] at this⊢;exact this);intro q b;simp only[dF,aA,cE] at b;rcases b with(rfl|b)|b;exact NL.old (H.trans W);exact rC (gl (aw.lB _) (B.lB _)) (N6 q b).1;exact rC (gl (aw.lB _) (gl (B.lB _) (gl (C.lB _) (D.lB _)))) (N8 q b).1;refine((H.trans W).trans (N.trans X)).mono ?_;simp only[dW,eW,ql,C8];rintro q (rfl|rfl);exact .inr (bn);exact .inr λx hx=>N2.no _ (H.kq hx)
def Ov(w:br)(s:aW)(t e bb:Int)(C:jm w s t e bb=U/\L w.bC<=2/\(∀l∈s.ak,L l.bk<100000)):Ct 131 [.a w.c, .a s.c,iv t,iv e,iv bb] (·=bv U):=by refine aK3 rfl rfl λO B k m M=>?_;obtain⟨q,p,u⟩:=C;simp only[jm,bN] at q;obtain⟨h,r,j,b⟩:=q;obtain⟨G,H,K,A⟩:=iY h;have i:aF (L s.ay) t:=(by rw[A];exact dX.1 r);simp+contextual only[In,u0,u1,ut,ar,k,m,rk,ix,cT,aj,h,p,r,j,fh,kz,eE,Ca,O9,mn,y6,i,↓uL];refine eF rfl rfl (by decide) (by rw[B];decide) λY F v=>?_;have x:box Y (5,1)=_:=F.bt k;have y:box Y (6,1)=_:=F.bt m;rw[axG] at b;simp+contextual only[aa7,In,↓iC,↓iB,↓iS,u0,u1,ut,ar,v,x,y,rk,ix,cT,aj,↓uL];obtain⟨D,N,z,P,E⟩:=D0 h j;refine⟨λf=>?_,λf=>⟨λd=>?_,λd=>⟨λ_=>⟨h,j,i,u⟩,?_⟩⟩⟩;rw[f] at b;rw[<-b];rfl;rw[f,d] at b;have:=nt d;have o:=z (by omega) (by omega);exact⟨λ_ _=>o,λ_ _=>D o,by rw[<-b];rfl⟩;rw[f,d] at b;simp only[aIc] at b;rcases sq (Q ((gd s.ay t.toNat).cQ≠2)) with g|g;rw[g] at b;cases b;rw[g] at b;have n:=aNG g;simp only[aNQ,aNS] at n;simp only[aIc] at b;rw[b,aID n];rfl
def BU:FT:=zb Ov
def ays{w s t kind bb Lw K}:=KQ BU Ov w s t kind bb Lw K
def Rm:dO:=(131,BU)::apl
def ape:eJ Rm:=it (Rt Ov) (yR)
def aml:=ai @ays<|@aBn
def ak9:=bi 31 [(6,([15],[7,12])),(10,([42],[4,5,6,7,8,12,15,27])),(12,([51],[4,5,6,7,8,12,15,27]))]
def arN c R a:=aw 4 a c λb=>aE R a [b,(iv 0),(bv I)]
def aaU d R b a:=aw 4 a d λc=>aE R a [c,(gt b 0),(bv U)]
def aa3 c e R b a:=∀_:Rg,aw 4 a c λd=>sV (aK 4 a e d) (aaU e R b)
def aaV c e d g k i j h(a:aG) b:=dH [(bo c),(bo e),km,km,(lb I [(.f 185 [] []),d] [76]),(lb U [g,k] []),(bo i),(lb I [j,h] [])] [(0,4),(1,4),(2,4)] (a [(iv 0)] b)
def Im b g h j i f c a:=ao 2 a b g λd=>aB 1 a d λe=>sV (aK 1 a e c) (aaV h j i b g d e c f)
def aaW b c g e(h:AV) a:=aB 0 a b λd=>aM a d λf=>cN 185 [c] a 76 (Im f g b d c e)
def aaX b g h e i j a l k m d c f:=dH [(bo b),(bo g),km,(lb U [h,e] []),(bo i),(bo j),(bo a),(lb I [l] []),(lb I [k,m] [69]),km] [(0,7),(1,7),(2,7),(3,7),(4,7),(5,7)] (cB 184 [c] f 71 (aaW b c e d))
def aaY b g i j d k l a m h o p n(c:aG) e:=dH [(bo b),(bo g),km,(bo b),(bo i),km,(lb U [j,d] []),(bo k),(bo l),(bo a),(lb I [(.f 186 [] []),m,(.f 187 [] [a])] [91]),(lb U [h,d] []),(bo o),(lb I [p,n] [])] [(0,10),(1,10),(2,10)] (c [(iv 0)] e)
def aaZ c h i j k l m n a o g d b:=ao 2 b c h λe=>aB 1 b e λf=>sV (aK 1 b f d) (aaY i j k l h m n a o c e f d g)
def aa0 b d a g e f j k h i l m o(n:aG) c:=dH [(bo b),(bo d),(bo a),(bo b),(bo g),(bo a),km,(lb U [e,f] []),(bo j),(lb I [k,(iv 3)] []),(lb U [h,i] []),(bo l),(lb I [m,o] [])] [(3,9),(4,9),(5,9),(6,9)] (n [(iv 0)] c)
def aaO c d n o g b j h i k l m a:=ao 3 a c d λe=>aB 1 a e λf=>sV (aK 1 a f n) (aa0 o g b j h i k l c d e f n m)
def Ik c b m l a:=aB 3 a c λd=>aM a d λe=>aM a b λf=>aB 3 a c λg=>aM a g λj=>aM a b λk=>ao 3 a e f λh=>aB 0 a h λi=>sV (aK 1 a i (iv 3)) (aaO j k m c d b g e f h i l)
def aaP b d a g e f j k h i l m(n:aG) c:=dH [(bo b),(bo d),(bo a),(bo b),(bo g),(bo a),(lb U [e,f] []),(bo j),(lb I [k,(iv 2)] []),(lb U [h,i] []),(bo l),(lb I [m,(iv 0)] [])] [(3,8),(4,8),(5,8)] (n [(iv 0)] c)
def aaQ c d n g b j h i k l m a:=ao 3 a c d λe=>aB 1 a e λf=>sV (aK 1 a f (iv 0)) (aaP n g b j h i k l c d e f m)
def Il c b l a:=aB 3 a c λd=>aM a d λe=>aM a b λf=>aB 3 a c λg=>aM a g λj=>aM a b λk=>ao 3 a e f λh=>aB 0 a h λi=>sV (aK 1 a i (iv 2)) (aaQ j k c d b g e f h i l)
def aa2 a c g(d:aG) e b u a5 av:=∀_:Rg,ah (gt av 0) (ab 0 a c λaD=>ao 2 a aD g λaE=>aB 0 a aE λaF=>sV (aK 1 a aF (iv (-1))) λax=>d [(iv 0)] ax) (bf e (iv 8) λaI=>ah aI (aB 0 a c λh=>aM a h λi=>ao 2 a i g λj=>aB 1 a j λk=>aM a k λl=>aM a b λm=>eV (aX bH 1 a [(0,m)]) λn ay=>eV (j5 3 fB 8 ay 69 l n) (aaX c h i g j k b m l n d)) (bf e (iv 9) λaJ=>ah aJ (aB 0 a c λo=>aM a o λaL=>aB 0 a c λp=>aM a p λq=>ao 2 a q g λr=>aB 1 a r λs=>aM a s λt=>cN 186 [t,(.f 187 [] [b])] a 91 (aaZ aL g c o p q r s b t d)) (bf e (iv 12) λaN=>ah aN (aM a b λaO=>aB 1 a c λaP=>sV (aK 1 a aP aO) λaz=>d [(iv 0)] az) (bf e (iv 13) λaQ=>ah aQ (aB 1 a c λaR=>sV (aK 1 a aR (iv (-1))) λaA=>d [(iv 0)] aA) (bf e (iv 14) λaT=>ah aT (ab 3 a c λaU=>aM a b λaV=>ao 3 a aU aV λaW=>aB 2 a aW λaY=>sV (aK 1 a aY (bv U)) λaC=>d [(iv 0)] aC) (bf e (iv 15) λA=>ah A (ab 3 a c λB=>aM a b λC=>ao 3 a B C λD=>aB 2 a D λE=>sV (aK 1 a E (bv I)) λv=>d [(iv 0)] v) (bf e (iv 16) λF=>ah F (ab 0 a c λG=>ab 2 a u λH=>ao 2 a H g λK=>ab 1 a K λM=>ao 2 a G M λN=>aB 0 a N λO=>sV (aK 1 a O (iv (-1))) (Ik c b g d)) (bf e (iv 17) λP=>ah P (ab 0 a c λR=>ab 2 a u λS=>ao 2 a S g λT=>ab 1 a T λW=>aM a b λX=>ao 2 a R W λZ=>aB 0 a Z λaa=>sV (aK 1 a aa X) (Il c b d)) (bf e (iv 18) λac=>ah ac (aw 4 a c λad=>cB 188 [ad,g,a5] a 166 λae w=>d [ae] w) (bf e (iv 19) λaf=>ah af (aw 4 a c λag=>cB 189 [ag,g] a 171 λak x=>d [ak] x) (bf e (iv 20) λal=>ah al (ab 3 a c λam=>ao 3 a am g λan=>aB 0 a an λap=>sV (aK 1 a ap (iv 1)) λy=>d [(iv 0)] y) (bf e (iv 22) λaq=>ah aq (ab 2 a c λar=>ao 1 a ar g λau=>sV (aK 1 a au (bv U)) λz=>d [(iv 0)] z) (d [(iv 0)] a)))))))))))))
def aa5 d(b:cG):=bf d (iv 7) λa=>ah a (b [a]) (bf d (iv 11) λc=>b [c])
def aa1 b d a g(c:aG) f m n e:=∀_:Rg,ah (gt e 0) (ab 0 b d λi=>aM b a λj=>ao 2 b i g λk=>aB 0 b k λl=>sV (aK 1 b l j) λh=>c [(iv 0)] h) (jR 12 (aa2 b d g c f a m n) (aa5 f))
def aa4 d(b:cG):=bf d (iv 6) λa=>ah a (b [a]) (bf d (iv 10) λc=>b [c])
def aa6 e a d b s r t(c:aG):=bf e (iv 1) λh=>ah h (ab 3 a d λi=>aM a b λj=>ao 3 a i j λk=>aB 0 a k λl=>sV (aK 1 a l (iv 2)) λf=>c [(iv 0)] f) (bf e (iv 2) λm=>ah m (ab 3 a d λn=>aM a b λo=>ao 3 a n o λp=>aB 0 a p λq=>sV (aK 1 a q (iv 5)) λg=>c [(iv 0)] g) (jR 10 (aa1 a d b s c e r t) (aa4 e)))
def aaR b h R e a f d g c:=jV 6 (aa3 b h R) (aa6 e c b a f d g)
def aaS b i R f a g e h d c:=sV (aK 4 c b d) (aaR b i R f a g e h)
def aaT d c a f g R n e b:=aw 6 b d λo=>aw 4 b c λh=>aM b a λi=>fV BU b [o,h,i,f,g] λj=>cf j λk=>ah k (rV (bM aNC alz []) λl=>sV (aK 4 b e l) (arN e R)) (aw 4 b c λm=>cB 183 [m] b 26 (aaS c e R f a g d n))
def Ii c b a d e f g R:=eV (bs 36 aNC g 12) (aaT c b a d e R f)
def aK1{e:List AV}{f:List AV}{d:AV}{g:AV}{i:AV}{j:AV}{R:d7}(l0:L e=6)(l1:L f=4)(z:eY d=V [d])(h:∀b:ae,L b=4096->box b (6,1)=V ⟨31,6,U,U,[e]⟩->box b (7,1)=V ⟨36,4,U,U,[f]⟩->box b (8,1)=V ⟨3,1,U,U,[[d]]⟩->(∀k,k≠6->k≠7->k≠8->aZ b k=mO)->Ii (.p (6,1) 0 0) (.p (7,1) 0 0) (.p (8,1) 0 0) g i j b R):Fn aS GG 135 [.a e, .a f,d,g,i,j] R:=by refine uq ready ape Tryz.func135 (an:=ak9) (by kernel_rfl) (aND (show ZF aS GG Rm ak9 Tryz.f135 [.a e, .a f,d,g,i,j] R=(eV (qm 31 6 (ly Tryz.f135) 6 (.a e)) λq m=>eV (qm 36 4 m 7 (.a f)) λo n=>eV (qm 3 1 n 8 d) λc b=>Ii q o c g i j b R) by kernel_rfl) ?_);refine mY (N:=4096) rfl l0 (by decide) (by decide) uB (by rw[i8]) λm A r D g0=>?_;refine mY (N:=4096) rfl l1 (by decide) (by decide) A (by rw[g0 _ (by decide),i8]) λn B s u g1=>?_;refine mY (N:=4096) z rfl (by decide) (by decide) B (by rw[g1 _ (by decide),g0 _ (by decide),i8]) λb C t l v=>?_;exact h b C (by rw[l _ _ (by decide),u _ _ (by decide)];exact r) (by rw[l _ _ (by decide)];exact s) t (λk w x y=>by rw[v k y,g1 k x,g0 k w];exact i8 _ k)
def aCn{B:aG}{A:(aG)->Prop}(Q:aG)(b:∀a,(∀vs Y',Q vs Y'->a vs Y')->A a)(c:∀vs Y',Q vs Y'->B vs Y'):A B:=b B c
structure Sz(Y:ae)(s:aW)(a1 a2 a3:AV):Prop where
 bx:box Y (7,1)=V ⟨36,4,U,U,[[a1,iv s.tx,a2,a3]]⟩
 g1:sC Y a1 s.ak
 g2:bc Y 4 1 a2 (s.done.map cb)
 g3:bc Y 105 3 a3 (s.ay.map bF.c)
def bc.ids{Y:ae}{e:TypeId}{z:Nat}{a:AV}{aa:List (List AV)}(f:bc Y e z a aa):∀k∈aA a,box Y k=V ⟨e,z,U,I,aa⟩:=by rcases f with⟨_,rfl⟩|⟨b,rfl,d⟩;simp[aA];intro k c;simp only[aA,cE] at c;subst c;exact d
def vC.g{Y:ae}{a:AV}{ls:List cg}(h:vC Y a ls):sC Y a ls:=by obtain⟨b,f,c,d,e,j,_⟩:=h;exact⟨b,f,c,d,λi k=>(e i k).x,j⟩
def vC.fx{Y Y':ae}{ks:List Id}{a:AV}{ls:List cg}(p:vC Y a ls)(j:Fx Y Y' ks)(n:∀k∈ks,(∃x,box Y k=V x/\((x.var=U/\x.elem≠131)\/(x.var=I/\x.elem≠3)))\/∀x,box Y k≠V x):vC Y' a ls:=by obtain⟨b,f,rfl,g,l,o,r⟩:=p;refine⟨b,f,rfl,j.keep _ _ (λh=>?_) g,λi m=>(l i m).fx j λq t h=>?_,o,r⟩;rcases n b h with⟨x,d,c⟩|d;rw[g] at d;cases d;rcases c with⟨_,c⟩|⟨c,_⟩;exact c rfl;(cases c);exact d _ g;have e:=(l i m).ids q t;rcases n q h with⟨x,d,c⟩|d;rw[e] at d;cases d;rcases c with⟨c,_⟩|⟨_,c⟩;(cases c);exact c rfl;exact d _ e
def sC.fx{Y Y':ae}{ks:List Id}{a:AV}{ls:List cg}(p:sC Y a ls)(j:Fx Y Y' ks)(n:∀k∈ks,(∃x,box Y k=V x/\((x.var=U/\x.elem≠131)\/(x.var=I/\x.elem≠3)))\/∀x,box Y k≠V x):sC Y' a ls:=by obtain⟨b,f,rfl,g,l,o⟩:=p;refine⟨b,f,rfl,j.keep _ _ (λh=>?_) g,λi m=>(l i m).fx j λq r h=>?_,o⟩;rcases n b h with⟨x,d,c⟩|d;rw[g] at d;cases d;rcases c with⟨_,c⟩|⟨c,_⟩;exact c rfl;(cases c);exact d _ g;obtain⟨t,e⟩:=(l i m).ids q r;rcases n q h with⟨x,d,c⟩|d;rw[e] at d;cases d;rcases c with⟨c,_⟩|⟨_,c⟩;(cases c);exact c rfl;exact d _ e
def sC.fr{Y:ae}{a:AV}{ls:List cg}(m:sC Y a ls):dQ Y a= .l (ls.map cg.c) I U:=by obtain⟨b,f,rfl,n,j,q⟩:=m;have h:∀i,i<L ls->([iv (gd ls i).pw,f i].map (rS Y))=cg.c (gd ls i):=λi d=>(by simp only[ji,mU,(j i d).fr,cg.c];rfl);have o:(io (L ls) λi=>[iv (gd ls i).pw,f i]).map (·.map (rS Y))=ls.map cg.c:=(by rw[aH1 (l:=ls) (g:=cg.c)];simp only[io,vA];exact ja λi d=>h i (fq.1 d));have e:((io (L ls) λi=>[iv (gd ls i).pw,f i]).all λr=>r.all λc=>eN (rS Y c))=U:=(by rw[dV];intro r k;simp only[io,dN,fq] at k;obtain⟨i,d,rfl⟩:=k;simp only[Cs,aqG,(j i d).fr,ru];rfl);have p:(io (L ls) λi=>[iv (gd ls i).pw,f i]).take (L ls)=io (L ls) λi=>[iv (gd ls i).pw,f i]:=oB (by rw[aH0];exact dA _);simp only[dQ,n,p];rw[cj (by simp),bX e,o]
def bc.frD{Y:ae}{e:TypeId}{z:Nat}{a:AV}{aa:List (List AV)}(d:bc Y e z a aa):∃t o,dQ Y a= .l aa t o:=by rcases d with⟨rfl,rfl⟩|⟨b,rfl,c⟩;exact⟨_,_,rfl⟩;exact⟨I,U,by simp[dQ,c]⟩
section
variable{Y:ae}{s:aW}{a1 a2 a3:AV}
def Sz.fx{Y':ae}(S:Sz Y s a1 a2 a3)(a:Fx Y Y' []):Sz Y' s a1 a2 a3:=⟨a.kq S.bx,S.g1.fx a (by simp),S.g2.fx a (by simp),S.g3.fx a (by simp)⟩
def Sz.th{i:Int}{j:Nat}{x:Value}{K:AV->be}(S:Sz Y s a1 a2 a3)(n:aF (L s.ay) i)(o:j<3)(d:bF)(r:(gd s.ay i.toNat).c.set j (.s x)=d.c)(m:∀b Y',Fx Y Y' (aA a3)->Sz Y' (ni s i d) a1 a2 a3->aA a3=[b]->K (.p b i.toNat 0) (.p b i.toNat j) Y'):rV (cz 3 Y a3 (iv i)) λp=>rV (iQ j Y p) λq=>sV (aK 1 Y q (.s x)) (K p q):=by refine DB S.g3 n o d r λb Y' h a l=>m b Y' a ⟨?_,?_,?_,l⟩ h;refine a.keep _ _ (λf=>?_) S.bx;have:=S.g3.ids _ f;rw[S.bx] at this;cases this;exact S.g1.fx a λk e=> .inl ⟨_,S.g3.ids k e, .inr ⟨rfl,by simp⟩⟩;exact S.g2.fx a λk e f=>by have g:=S.g2.ids _ e;rw[S.g3.ids _ f] at g;cases g
def Sz.lk{i:Int}{o:Int}{K:AV->be}(S:Sz Y s a1 a2 a3)(t:aF (L s.ak) i)(A:∀b Y',Fx Y Y' (aA a1)->Sz Y' (lC s i {cH s i with pw:=o}) a1 a2 a3->aA a1=[b]->K (.p b i.toNat 0) (.p b i.toNat 0) Y'):rV (cz 2 Y a1 (iv i)) λp=>rV (iQ 0 Y p) λq=>sV (aK 1 Y q (iv o)) (K p q):=by have n:i.toNat<L s.ak:=(by have:=t.1;have:=t.2;omega);obtain⟨b,f,rfl,c,u,z⟩:=S.g1;have v:cz 2 Y (.m b (L s.ak)) (iv i)=V (.p b i.toNat 0):=(by simp[cz,t.1,c,n]);rw[v];simp only[rV,rR,c,df,aj];refine Bp c (uU n) (x:=iv o) rfl rfl (by simp) λY' g y=>A b Y' g ⟨?_,?_,?_,?_⟩ rfl;refine g.keep _ _ (λa=>?_) S.bx;simp only[cE] at a;have:=S.bx;rw[a,c] at this;simp at this;refine⟨b,f,by simp[lC],?_,λk d=>?_,?_⟩;rw[y,Bl];simp only[lC,zq];congr 2;refine yC λk d=>?_;by_cases h:k=i.toNat;subst h;simp[gd,n];have:gd (s.ak.set i.toNat {cH s i with pw:=o}) k=gd s.ak k:=(by simp only[gd,eI];rw[oq (λe=>h e.symm)]);rw[cj h,this];have r:k<L s.ak:=(by simpa[lC] using d);have w:(gd (lC s i {cH s i with pw:=o}).ak k).bk=(gd s.ak k).bk:=(by by_cases h:k=i.toNat;subst h;simp[lC,cH,gd,n];simp only[lC,gd,eI];rw[oq (λe=>h e.symm)]);rw[w];refine(u k r).fx g λq B a=>?_;obtain⟨C,l⟩:=(u k r).ids q B;simp only[cE] at a;rw[a,c] at l;cases l;simpa[lC] using z;exact S.g2.fx g λk d a=>(by have j:=S.g2.ids _ d;simp only[cE] at a;rw[a,c] at j;cases j);exact S.g3.fx g λk d a=>by have j:=S.g3.ids _ d;simp only[cE] at a;rw[a,c] at j;cases j
def Sz.dn{i:Int}{v:Bool}{K:ae->Prop}(S:Sz Y s a1 a2 a3)(a:aF (L s.done) i)(l:∀Y',Fx Y Y' (aA a2)->Sz Y' {s with done:=s.done.set i.toNat v} a1 a2 a3->K Y'):rV (cz 1 Y a2 (iv i)) λp=>sV (aK 1 Y p (bv v)) K:=by have f:i.toNat<L s.done:=(by have:=a.1;have:=a.2;omega);refine ixI S.g2 (by simpa using a) λb g m=>?_;have n:(s.done.map cb)[i.toNat]?=V (cb (gd s.done i.toNat)):=(by rw[ve,eC f,bT f];rfl);refine wL m n (by simp) λY' h j=>?_;have F:Fx Y Y' (aA a2):=(by rw[g];exact h);refine l Y' F ⟨?_,?_,?_,?_⟩;refine F.keep _ _ (λd=>?_) S.bx;have:=S.g2.ids _ d;rw[S.bx] at this;cases this;exact S.g1.fx F λk c=> .inl ⟨_,S.g2.ids k c, .inr ⟨rfl,by simp⟩⟩;refine .inr ⟨b,by rw[g];simp,?_⟩;rw[j,show(cb (gd s.done i.toNat)).set 0 (.s (.bool v))=cb v from rfl,vB];exact S.g3.fx F λk c d=>by have e:=S.g3.ids _ c;rw[S.g2.ids _ d] at e;cases e
def Sz.tx{x:Int}{K:ae->Prop}(S:Sz Y s a1 a2 a3)(e:∀Y',Fx Y Y' [(7,1)]->Sz Y' {s with tx:=x} a1 a2 a3->K Y'):sV (aK 1 Y (.p (7,1) 0 1) (iv x)) K:=by refine cy (cs:=[iv x]) S.bx rfl rfl (by simp) λY' F d=>e Y' F ⟨d,?_,?_,?_⟩;exact S.g1.fx F λk a=>(by simp only[cE] at a;subst a;exact .inl ⟨_,S.bx, .inl ⟨rfl,by simp⟩⟩);exact S.g2.fx F λk a c=>(by simp only[cE] at c;have b:=S.g2.ids _ a;rw[c,S.bx] at b;cases b);exact S.g3.fx F λk a c=>by simp only[cE] at c;have b:=S.g3.ids _ a;rw[c,S.bx] at b;cases b
end
def sC.ids{Y:ae}{a:AV}{ls:List cg}(d:sC Y a ls):∀k∈aA a,∃aa,box Y k=V ⟨131,2,U,U,aa⟩:=by obtain⟨b,f,rfl,e,_⟩:=d;intro k c;simp only[aA,cE] at c;subst c;exact⟨_,e⟩
def Sz.no{Y:ae}{s:aW}{a1 a2 a3:AV}(S:Sz Y s a1 a2 a3){c:Id}{x:bY}(b:box Y c=V x)(d:x.var=U)(e:x.elem≠131):c∉aA a1/\c∉aA a2/\c∉aA a3:=by refine⟨λh=>?_,λh=>?_,λh=>?_⟩;obtain⟨aa,a⟩:=S.g1.ids _ h;rw[b] at a;cases a;exact e rfl;have a:=S.g2.ids _ h;rw[b] at a;cases a;cases d;have a:=S.g3.ids _ h;rw[b] at a;cases a;cases d
def Bk{a b c d:AV}:aN J ([a,b,c,d].drop 3)=V d:=rfl
def aHW{a b c d:AV}:aN J ([a,b,c,d].drop 2)=V c:=rfl
def QW{a b c d:AV}:aN J ([a,b,c,d].drop 0)=V a:=rfl
def Ou(w:br)(s:aW)(t C bb lD:Int)(hp:jm w s t C bb=U/\L w.bC<=2/\(∀l∈s.ak,L l.bk<12)/\(∀l∈s.ak,jC l.bk)/\L s.ak<1000/\L s.done<1000/\L s.ay<1000):Ct 135 [.a w.c, .a s.c,iv t,iv C,iv bb,iv lD] (λr=>∃f,r= .t [.a (eD (cU w s t C bb lD).1 f),iv (cU w s t C bb lD).2,bv U]):=by refine aK1 rfl rfl rfl λs6 hl b1 b2 b3 h0=>?_;obtain⟨he,c6,a6,dd,de,dh,bS⟩:=hp;have cg:=he;simp only[jm,bN] at cg;obtain⟨hf,hi,hn,aw⟩:=cg;obtain⟨f1,f2,f3,f4⟩:=iY hf;obtain⟨mI,lk,cd,th,dn⟩:=D0 hf hn;have ab:aF (L s.ay) t:=(by rw[f4];exact dX.1 hi);simp only[Ii,↓uL];refine mo hl λs8 F8 b8=>?_;have c1:box s8 (6,1)=_:=F8.bt b1;have c2:box s8 (7,1)=V ⟨36,4,U,U,[s.c]⟩:=F8.bt b2;have c3:box s8 (8,1)=V ⟨3,1,U,U,[[iv t]]⟩:=F8.bt b3;have ck:L s8=4096:=(by rw[F8.1,hl]);generalize(aZ s6 12).lB+1=an at*;have cw:jm w s t C bb=U/\L w.bC<=2/\∀l∈s.ak,L l.bk<100000:=⟨he,c6,λl hl=>by have:=a6 l hl;omega⟩;simp+contextual only[aaT,u0,u1,c1,c2,c3,rk,iF,ip,ar,aml,aj,fh,eE,Ca,O9,mn,↓uL];refine⟨cw,?_⟩;refine jH rfl (aCp s ck ⟨de,dh,bS,λl hl=>by have:=a6 l hl;omega⟩) ?_;rintro r Y1 ⟨⟨a1,a2,a3,rfl,g1,g2,g3,hN,cn⟩,F1⟩;refine⟨F1.len,?_⟩;have d1:=F1.kq c1;have d2:=F1.kq c2;have d3:=F1.kq c3;have d8:=F1.kq b8;simp only[aaS,↓uL];refine cy (cs:=[a1,iv s.tx,a2,a3]) d2 rfl rfl (by simp[aW.c]) λO F2 e2=>?_;have ce:vC O a1 s.ak:=g1.fx F2 λk N=>(by simp only[cE] at N;subst N;exact .inl ⟨_,d2, .inl ⟨rfl,by simp⟩⟩);have S:Sz O s a1 a2 a3:=(by refine⟨e2,g1.g.fx F2 λk N=>?_,g2.fx F2 λk N D=>?_,g3.fx F2 λk N D=>?_⟩;simp only[cE] at N;subst N;exact .inl ⟨_,d2, .inl ⟨rfl,by simp⟩⟩;simp only[cE] at D;have y:=g2.ids _ N;rw[D,d2] at y;cases y;simp only[cE] at D;have y:=g3.ids _ N;rw[D,d2] at y;cases y);have e1:box O (6,1)=_:=F2.kq d1;have e3:=F2.kq d3;have e8:box O (12,an)=V ⟨36,4,U,U,[aNC]⟩:=F2.kq d8;have ax:L O=4096:=F2.len.trans (F1.len.trans ck);simp only[aaR,di,↓uL];refine aCn (λvs Y'=>vs=[iv (cU w s t C bb lD).2]/\Sz Y' (cU w s t C bb lD).1 a1 a2 a3/\∃aa,box Y' (12,an)=V ⟨36,4,U,U,[aa]⟩/\L aa=4) (λo hJ=>?_) ?_;have E:∀(sv:aW×Int) Y',cU w s t C bb lD=sv->Sz Y' sv.1 a1 a2 a3->(∃aa,box Y' (12,an)=V ⟨36,4,U,U,[aa]⟩/\L aa=4)->o [iv sv.2] Y':=(by rintro sv Y' rfl y z;exact hJ _ _ ⟨rfl,y,z⟩);have Z:∃aa,box O (12,an)=V ⟨36,4,U,U,[aa]⟩/\L aa=4:=⟨_,e8,rfl⟩;have X:∀{Y Y':ae} {s':aW} {ks:List Id},Sz Y s' a1 a2 a3->(∃aa,box Y (12,an)=V ⟨36,4,U,U,[aa]⟩/\L aa=4)->Fx Y Y' ks->(ks=aA a1\/ks=aA a2\/ks=aA a3\/ks=[(7,1)])->(∃aa,box Y' (12,an)=V ⟨36,4,U,U,[aa]⟩/\L aa=4):=(by rintro Y Y' s' ks A ⟨aa,y,z⟩ F da;obtain⟨n1,n2,n3⟩:=A.no y rfl (by simp);refine⟨aa,F.keep _ _ ?_ y,z⟩;rcases da with rfl|rfl|rfl|rfl;exact n1;exact n2;exact n3;simp);simp+contextual only[aa6,u0,u1,S.bx,e3,aj,dc,Bk,iF,ip,↓uL];refine⟨λk1=>?_,λk1=>⟨λk2=>?_,λk2=>?_⟩⟩;have dj:=nt k1;exact S.th ab (by decide) {fA s t with cQ:=2} rfl λb Y' H A _=>E (_,0) Y' (by simp[cU,dj];rfl) A (X S Z H (by simp));have dk:=nt k2;exact S.th ab (by decide) {fA s t with cQ:=5} rfl λb Y' H A _=>E (_,0) Y' (by simp[cU,dk];rfl) A (X S Z H (by simp));simp only[f8,aa4,iM,aY,sw,↓uL];simp+contextual only[aa1,aI,au,u0,u1,S.bx,e3,aj,dc,Bk,QW,iF,ip,↓uL];refine⟨λk6=>?_,λk6=>?_⟩;simp only[fH,lS] at k6;exact S.lk (lk (by omega) (by omega)) λb Y' H A _=>E (_,0) Y' (by rcases k6 with rfl|rfl<;>simp[cU]<;>rfl) A (X S Z H (by simp));simp only[f8,aa5,iM,aY,sw,↓uL];simp+contextual only[aa2,aI,au,u0,u1,S.bx,e1,e3,aj,dc,Bk,QW,aHW,iF,ip,↓uL];refine⟨λk7=>?_,λk7=>?_⟩;simp only[fH,lS] at k7;exact S.lk (lk (by omega) (by omega)) λb Y' H A _=>E (_,0) Y' (by rcases k7 with rfl|rfl<;>simp[cU]<;>rfl) A (X S Z H (by simp));refine⟨λk8=>?_,λk8=>⟨λk9=>?_,λk9=>⟨λa7=>?_,λa7=>⟨λa8=>?_,λa8=>⟨λa9=>?_,λa9=>⟨λba=>?_,λba=>⟨λbd=>?_,λbd=>⟨λbe=>?_,λbe=>⟨λbf=>?_,λbf=>⟨λbg=>?_,λbg=>⟨λbi=>?_,λbi=>⟨λbj=>?_,λbj=>?_⟩⟩⟩⟩⟩⟩⟩⟩⟩⟩⟩⟩;have k:=nt k8;have ac:=lk (by omega) (by omega);have R:bb.toNat<L s.ak:=qI ac;obtain⟨P,f,rfl,T,hX,hD,hP⟩:=ce;have hc:=hX _ R;have a0:=dd _ (ii ac);have bR:=a6 _ (ii ac);have cm:t∉(gd s.ak bb.toNat).bk:=(by rw[lc] at aw;simp[k] at aw;exact aw.2.2);have bH:cz 2 O (.m P (L s.ak)) (iv bb)=V (.p P bb.toNat 0):=(by simp[cz,ac.1,T,R]);have bI:kb J O (.p P bb.toNat 1)=V (f bb.toNat):=(by simp only[kb,iE,T,qd,uU R,df];rfl);simp only[bH,aY,rR,T,df,aj,bI,iz,bQ,↓uL];refine gD (new:=[ci t]) hc rfl (by decide) (by rw[ax];decide) fF (by simp) (by simp;omega) λa' Y3 af M c9 db=>?_;have c0:(gd s.ak bb.toNat).bk.map ci++[ci t]=((gd s.ak bb.toNat).bk++[t]).map ci:=(by simp);rw[c0] at af;obtain⟨B,rfl,av⟩:∃B,a'= .m B (L (gd s.ak bb.toNat).bk+1)/\box Y3 B=V ⟨3,1,U,I,((gd s.ak bb.toNat).bk++[t]).map ci⟩:=(by rcases af with⟨y,_⟩|⟨B,y,z⟩;simp at y;exact⟨B,by rw[y];simp,z⟩);have bG:B.1≠7:=(by rcases db B (by simp[aA]) with h|h;have:=hP _ R _ h;omega;omega);have bD:B∈aA (f bb.toNat)\/bK O B:=c9 B (by simp[aA]);simp only[aaX,↓uL];refine dT (by simp[eL,okT,tok,lb,cD,dC,dK]) ?_;refine jH rfl (aCO a0 cm bR av (M.len.trans ax)) ?_;rintro r Y4 ⟨rfl,c5,F4⟩;refine⟨F4.len,?_⟩;have nv:∀{q:Id} {x:bY},box O q=V x->x.elem≠3\/x.var=U->q∉aA (f bb.toNat)/\q≠B:=λ{q x} v G=>(by have y:q∉aA (f bb.toNat):=λD=>(by rw[hc.ids _ D] at v;cases v;rcases G with G|G;exact G rfl;cases G);refine⟨y,?_⟩;rintro rfl;rcases bD with h|h;exact y h;exact h.no _ v);have cp:∀{q:Id} {x:bY},box O q=V x->x.elem≠3\/x.var=U->box Y4 q=V x:=λ{q x} v G=>(by obtain⟨n1,n2⟩:=nv v G;exact F4.keep _ _ (by simpa using n2) (M.keep _ _ n1 v));simp only[aaW,u0,u1,cp S.bx (.inl (by simp)),aj,QW,ip,iF,↓uL];have bO:L (fk (gd s.ak bb.toNat).bk t)=L (gd s.ak bb.toNat).bk+1:=(by have:=QK (gd s.ak bb.toNat).bk t;have h0:∀{l:List Int} {t:Int},t∉l->L (fk l t)=L l+1:=(by intro l;induction l with|nil=>intro t _;rfl|cons x l ih=>intro t ht;simp only[eW,not_or] at ht;simp only[fk];split;simp[ih ht.2];split;rename_i h;exact nl h.symm ht.1;simp);exact h0 cm);have cl:=awP (d:=76) (K:=Im (.m P (L s.ak)) (iv bb) (.p (7,1) 0 0) (.p (7,1) 0 0) (.m B (L (gd s.ak bb.toNat).bk+1)) o) (Nz a0) c5 (F4.len.trans (M.len.trans ax)) (by omega);rw[bO] at cl;refine cl λY5 F5 bA=>?_;have cq:∀{q:Id} {x:bY},box O q=V x->x.elem≠3\/x.var=U->box Y5 q=V x:=λ{q x} v G=>F5.keep _ _ (by simpa using(nv v G).2) (cp v G);have aC:=cq T (.inl (by simp));have cB:cz 2 Y5 (.m P (L s.ak)) (iv bb)=V (.p P bb.toNat 0):=(by simp[cz,ac.1,aC,R]);simp only[Im,cB,aY,rR,aC,df,aj,↓uL];refine Bp aC (uU R) (x:= .m B (L (gd s.ak bb.toNat).bk+1)) rfl rfl (by simp) λY6 F6 bB=>?_;simp only[aaV,↓uL];have nL:∀{q:Id} {x:bY},box O q=V x->x.elem≠131->q≠P:=λ{q x} v G e=>(by subst e;rw[T] at v;cases v;exact G rfl);have ad:∀{q:Id} {x:bY},box O q=V x->x.elem≠3\/x.var=U->x.elem≠131->box Y6 q=V x:=λ{q x} v G hL=>F6.keep _ _ (by simpa using nL v hL) (cq v G);have aU:B≠P:=(by rintro rfl;rw[aC] at bA;cases bA);have S6:Sz Y6 (lC s bb {cH s bb with bk:=mP (cH s bb).bk [t]}) (.m P (L s.ak)) a2 a3:=(by refine⟨ad S.bx (.inr rfl) (by simp),⟨P,λi=>if i=bb.toNat then .m B (L (gd s.ak bb.toNat).bk+1) else f i,by simp[lC],?_,λi hi=>?_,λi j hi hj aO q v=>?_⟩,?_,?_⟩;rw[bB,Bl];simp only[lC,zq];congr 2;refine yC λi hi=>?_;by_cases h:i=bb.toNat;subst h;simp[gd,R,cH];have:gd (s.ak.set bb.toNat {cH s bb with bk:=mP (cH s bb).bk [t]}) i=gd s.ak i:=(by simp only[gd,eI];rw[oq (λe=>h e.symm)]);rw[cj h,cj h,this];have W:i<L s.ak:=(by simpa[lC] using hi);by_cases h:i=bb.toNat;subst h;have:(gd (lC s bb {cH s bb with bk:=mP (cH s bb).bk [t]}).ak bb.toNat).bk=fk (gd s.ak bb.toNat).bk t:=(by rw[show gd (lC s bb {cH s bb with bk:=mP (cH s bb).bk [t]}).ak bb.toNat={cH s bb with bk:=mP (cH s bb).bk [t]} from by simp[lC,gd,R]];exact Ro a0);simp only[this,↓reduceIte];refine .inr ⟨B,(fk (gd s.ak bb.toNat).bk t).map ci,by rw[bJ,bO],F6.keep _ _ (by simpa using aU) bA,gV⟩;have:gd (lC s bb {cH s bb with bk:=mP (cH s bb).bk [t]}).ak i=gd s.ak i:=(by simp only[lC,gd,eI];rw[oq (λe=>h e.symm)]);simp only[this,cj h];have q0:∀q∈aA (f i),q∉aA (f bb.toNat)/\q≠B/\q≠P:=λq v=>(by have y:=hD i bb.toNat W R h q v;have z:=(hX i W).ids q v;refine⟨y,?_,λe=>by subst e;rw[T] at z;cases z⟩;rintro rfl;rcases bD with h3|h3;exact y h3;exact h3.no _ z);exact((((hX i W).fx M λq v=>(q0 q v).1).fx F4 λq v=>by simpa using(q0 q v).2.1).fx F5 λq v=>by simpa using(q0 q v).2.1).fx F6 (λq v=>by simpa using(q0 q v).2.2)|>.x;have W:i<L s.ak:=(by simpa[lC] using hi);have aN:j<L s.ak:=(by simpa[lC] using hj);have aL:∀m,m<L s.ak->m≠bb.toNat->B∉aA (f m):=λm D bM v=>(by rcases bD with h3|h3;exact hD m bb.toNat D R bM _ v h3;exact h3.no _ ((hX m D).ids _ v));by_cases y:i=bb.toNat;have z:j≠bb.toNat:=λe=>aO (y.trans e.symm);simp only[bX y,aA,cE] at v;subst v;simp only[cj z];exact aL j aN z;simp only[cj y] at v;by_cases z:j=bb.toNat;simp only[bX z,aA,cE];rintro rfl;exact aL i W y v;simp only[cj z];exact hD i j W aN aO q v;rcases S.g2 with h|⟨q,y,z⟩;exact .inl h;exact .inr ⟨q,y,ad z (.inl (by simp)) (by simp)⟩;rcases S.g3 with h|⟨q,y,z⟩;exact .inl h;exact .inr ⟨q,y,ad z (.inl (by simp)) (by simp)⟩);obtain⟨aa,r1,r2⟩:=Z;refine dT (by simp[eL,okT,tok,lb,cD,dC,dK,bG.symm]) (E (_,0) Y6 (by simp[cU,lC,k]) S6 ⟨aa,ad r1 (.inr rfl) (by simp),r2⟩);have k:=nt k9;have ac:=lk (by omega) (by omega);have R:bb.toNat<L s.ak:=qI ac;obtain⟨P,f,rfl,T,hX,hD,hP⟩:=ce;have hc:=hX _ R;have bR:=a6 _ (ii ac);have D:t∈(gd s.ak bb.toNat).bk:=(by rw[lc] at aw;simp[k] at aw;exact aw.2);obtain⟨B,ch,av⟩:∃B,f bb.toNat= .m B (L (gd s.ak bb.toNat).bk)/\box O B=V ⟨3,1,U,I,(gd s.ak bb.toNat).bk.map ci⟩:=(by rcases hc with⟨y,_⟩|⟨B,y,z⟩;simp at y;rw[y] at D;cases D;exact⟨B,by rw[y];simp,z⟩);have aM:aA (f bb.toNat)=[B]:=(by rw[ch];rfl);have bG:B.1≠7:=(by have:=hP _ R B (by rw[aM];simp);omega);have bH:cz 2 O (.m P (L s.ak)) (iv bb)=V (.p P bb.toNat 0):=(by simp[cz,ac.1,T,R]);have bI:kb J O (.p P bb.toNat 1)=V (f bb.toNat):=(by simp only[kb,iE,T,qd,uU R,df];rfl);simp only[bH,aY,rR,T,df,aj,bI,ch,↓uL];refine awR D av e3 ax (by omega) λY3 M c4=>?_;have nv:∀{q:Id} {x:bY},box O q=V x->x.elem≠3\/x.var=U->q≠B:=λ{q x} v G e=>(by subst e;rw[av] at v;cases v;rcases G with G|G;exact G rfl;cases G);have co:∀{q:Id} {x:bY},box O q=V x->x.elem≠3\/x.var=U->box Y3 q=V x:=λ{q x} v G=>M.keep _ _ (by simpa using nv v G) v;have aV:=co T (.inl (by simp));have cA:cz 2 Y3 (.m P (L s.ak)) (iv bb)=V (.p P bb.toNat 0):=(by simp[cz,ac.1,aV,R]);simp only[aaZ,cA,aY,rR,aV,df,aj,↓uL];refine Bp aV (uU R) (x:= .m B (L (fJ (gd s.ak bb.toNat).bk t))) rfl rfl (by simp) λY6 F6 bB=>?_;simp only[aaY,↓uL];have nL:∀{q:Id} {x:bY},box O q=V x->x.elem≠131->q≠P:=λ{q x} v G e=>(by subst e;rw[T] at v;cases v;exact G rfl);have ad:∀{q:Id} {x:bY},box O q=V x->x.elem≠3\/x.var=U->x.elem≠131->box Y6 q=V x:=λ{q x} v G hL=>F6.keep _ _ (by simpa using nL v hL) (co v G);have aU:B≠P:=(by rintro rfl;rw[T] at av;cases av);have S6:Sz Y6 (lC s bb {cH s bb with bk:=fJ (cH s bb).bk t}) (.m P (L s.ak)) a2 a3:=(by refine⟨ad S.bx (.inr rfl) (by simp),⟨P,λi=>if i=bb.toNat then .m B (L (fJ (gd s.ak bb.toNat).bk t)) else f i,by simp[lC],?_,λi hi=>?_,λi j hi hj aO q v=>?_⟩,?_,?_⟩;rw[bB,Bl];simp only[lC,zq];congr 2;refine yC λi hi=>?_;by_cases h:i=bb.toNat;subst h;simp[gd,R,cH];have:gd (s.ak.set bb.toNat {cH s bb with bk:=fJ (cH s bb).bk t}) i=gd s.ak i:=(by simp only[gd,eI];rw[oq (λe=>h e.symm)]);rw[cj h,cj h,this];have W:i<L s.ak:=(by simpa[lC] using hi);by_cases h:i=bb.toNat;subst h;have:(gd (lC s bb {cH s bb with bk:=fJ (cH s bb).bk t}).ak bb.toNat).bk=fJ (gd s.ak bb.toNat).bk t:=(by simp[lC,gd,R,cH]);simp only[this,↓reduceIte];refine .inr ⟨B,_,by rw[bJ],F6.keep _ _ (by simpa using aU) c4,?_⟩;rw[dg,bJ,List.take_append_of_le_length (by simp)];exact oB (by simp);have:gd (lC s bb {cH s bb with bk:=fJ (cH s bb).bk t}).ak i=gd s.ak i:=(by simp only[lC,gd,eI];rw[oq (λe=>h e.symm)]);simp only[this,cj h];have q0:∀q∈aA (f i),q≠B/\q≠P:=λq v=>(by have y:=hD i bb.toNat W R h q v;rw[aM] at y;have z:=(hX i W).ids q v;exact⟨by simpa using y,λe=>by subst e;rw[T] at z;cases z⟩);exact(((hX i W).fx M λq v=>by simpa using(q0 q v).1).fx F6 (λq v=>by simpa using(q0 q v).2)).x;have W:i<L s.ak:=(by simpa[lC] using hi);have aN:j<L s.ak:=(by simpa[lC] using hj);have aL:∀m,m<L s.ak->m≠bb.toNat->B∉aA (f m):=λm D bM v=>hD m bb.toNat D R bM _ v (by rw[aM];simp);by_cases y:i=bb.toNat;have z:j≠bb.toNat:=λe=>aO (y.trans e.symm);simp only[bX y,aA,cE] at v;subst v;simp only[cj z];exact aL j aN z;simp only[cj y] at v;by_cases z:j=bb.toNat;simp only[bX z,aA,cE];rintro rfl;exact aL i W y v;simp only[cj z];exact hD i j W aN aO q v;rcases S.g2 with h|⟨q,y,z⟩;exact .inl h;exact .inr ⟨q,y,ad z (.inl (by simp)) (by simp)⟩;rcases S.g3 with h|⟨q,y,z⟩;exact .inl h;exact .inr ⟨q,y,ad z (.inl (by simp)) (by simp)⟩);obtain⟨aa,r1,r2⟩:=Z;refine dT (by simp[eL,okT,tok,lb,cD,dC,pP,dK,bG.symm]) (E (_,0) Y6 (by simp[cU,lC,k]) S6 ⟨aa,ad r1 (.inr rfl) (by simp),r2⟩);have k:=nt a7;exact S.tx λY' H A=>E (_,0) Y' (by simp[cU,k]) A (X S Z H (by simp));have k:=nt a8;exact S.tx λY' H A=>E (_,0) Y' (by simp[cU,k]) A (X S Z H (by simp));have k:=nt a9;exact S.th ab (by decide) {fA s t with atomic:=U} rfl λb Y' H A _=>E (_,0) Y' (by simp[cU,k];rfl) A (X S Z H (by simp));have k:=nt ba;exact S.th ab (by decide) {fA s t with atomic:=I} rfl λb Y' H A _=>E (_,0) Y' (by simp[cU,k];rfl) A (X S Z H (by simp));have k:=nt bd;have al:=cd (by omega) (by omega);simp only[rk,ix,u0,u1,↓uL];refine⟨al,?_⟩;refine S.lk (K:=λ_ _ Y=>Ik (.p (7,1) 0 0) (.p (8,1) 0 0) (iv bb) o Y) (mI al) λb Y' H A aM=>?_;have n:=S.no e3 rfl (by simp);have bz:=H.keep _ _ n.1 e3;simp only[Ik,u0,u1,A.bx,bz,aj,Bk,iF,ip,↓uL];refine A.th (by simpa[lC] using ab) (by decide) {fA s t with cQ:=3} rfl λb3 Y3 M S3 aX=>?_;simp only[aaO,↓uL];refine S3.th (by simpa[lC,ni] using ab) (by decide) {fA s t with cQ:=3,cond:=bb} (by simp only[ni,lC];rw[Af ab];rfl) λb4 Y4 F4 S4 cx=>?_;simp only[aa0,↓uL];refine dT ?_ (E (_,0) Y4 ?_ S4 (X S3 (X A (X S Z H (by simp)) M (by simp)) F4 (by simp)));have:=cn b3 (by rw[aX];simp);simp[eL,okT,tok,lb,cD,dC,dK,this.1.symm,this.2.symm];simp[cU,k,ni,lC];have k:=nt be;have al:=cd (by omega) (by omega);simp only[rk,ix,u0,u1,↓uL];refine⟨al,?_⟩;refine S.lk (K:=λ_ _ Y=>Il (.p (7,1) 0 0) (.p (8,1) 0 0) o Y) (mI al) λb Y' H A aM=>?_;have n:=S.no e3 rfl (by simp);have bz:=H.keep _ _ n.1 e3;simp only[Il,u0,u1,A.bx,bz,aj,Bk,iF,ip,↓uL];refine A.th (by simpa[lC] using ab) (by decide) {fA s t with cQ:=2} rfl λb3 Y3 M S3 aX=>?_;simp only[aaQ,↓uL];refine S3.th (by simpa[lC,ni] using ab) (by decide) {fA s t with cQ:=2,cond:=0} (by simp only[ni,lC];rw[Af ab];rfl) λb4 Y4 F4 S4 cx=>?_;simp only[aaP,↓uL];refine dT ?_ (E (_,0) Y4 ?_ S4 (X S3 (X A (X S Z H (by simp)) M (by simp)) F4 (by simp)));have:=cn b3 (by rw[aX];simp);simp[eL,okT,tok,lb,cD,dC,dK,this.1.symm,this.2.symm];simp[cU,k,ni,lC];have k:=nt bf;simp only[uS,aY,↓uL];refine jH rfl (aCD s bb lD ax bS S.g3) ?_;rintro r Y3 ⟨rfl,af,M⟩;have cf:∀x:aW,x.ak=s.ak->x.tx=s.tx->x.done=s.done->bc Y3 105 3 a3 (x.ay.map bF.c)->Sz Y3 x a1 a2 a3:=λx q1 q2 q3 q4=>(by have n:=S.no S.bx rfl (by simp);refine⟨by rw[q2];exact M.keep _ _ n.2.2 S.bx,by rw[q1];exact S.g1.fx M λk N=> .inl ⟨_,S.g3.ids k N, .inr ⟨rfl,by simp⟩⟩,?_,q4⟩;rw[q3];exact S.g2.fx M λk N D=>by have y:=S.g2.ids _ N;rw[S.g3.ids _ D] at y;cases y);refine⟨M.len,?_⟩;by_cases hw:fO s bb=[];have hc:gH s bb lD (L s.ay)= -1:=(by rw[gH];exact bX hw);rw[hc] at af⊢;exact E (s,-1) Y3 (by simp[cU,k,hw]) (cf s rfl rfl rfl (by simpa using af)) (X S Z M (by simp));have hc:gH s bb lD (L s.ay)=tD s bb lD:=(by rw[gH];exact cj hw);have h0:0<=tD s bb lD:=(by rw[<-hc,gH,cj (show¬eh s bb (L s.ay)=[] from hw)];split;rename_i z;obtain⟨i,_,_,R⟩:=AN.1 z;omega;exact(Li hw).1);rw[hc,bX h0] at af;rw[hc];exact E (_,_) Y3 (by simp[cU,k,hw];exact⟨rfl,rfl⟩) (cf (ni s (tD s bb lD) {fA s (tD s bb lD) with cQ:=4}) rfl rfl rfl af) (X S Z M (by simp));have k:=nt bg;simp only[uS,aY,↓uL];refine jH rfl (aCE s bb ax bS S.g3) ?_;rintro r Y3 ⟨rfl,af,M⟩;have n:=S.no S.bx rfl (by simp);have D:∀(l:List Int) (s:aW),(mH s l).ak=s.ak/\(mH s l).tx=s.tx/\(mH s l).done=s.done:=(by intro l;induction l with|nil=>intro s;exact⟨rfl,rfl,rfl⟩|cons u l ih=>intro s;exact ih (ni s u _));obtain⟨q1,q2,q3⟩:=D (fO s bb) s;refine⟨M.len,?_⟩;refine E (mH s (fO s bb),L (fO s bb)) Y3 (by simp[cU,k]) ⟨?_,?_,?_,af⟩ (X S Z M (by simp));rw[q2];exact M.keep _ _ n.2.2 S.bx;rw[q1];exact S.g1.fx M λk N=> .inl ⟨_,S.g3.ids k N, .inr ⟨rfl,by simp⟩⟩;rw[q3];exact S.g2.fx M λk N D=>(by have y:=S.g2.ids _ N;rw[S.g3.ids _ D] at y;cases y);have k:=nt bi;exact S.th (th (by omega) (by omega)) (by decide) {fA s bb with cQ:=1} rfl λb Y' H A _=>E (_,0) Y' (by simp[cU,k];rfl) A (X S Z H (by simp));have k:=nt bj;exact S.dn (dn (by omega) (by omega)) λY' H A=>E (_,0) Y' (by simp[cU,k]) A (X S Z H (by simp));refine E (s,0) O ?_ S Z;simp only[cP,o8] at k1 k2 k6 k7 k8 k9 a7 a8 a9 ba bd be bf bg bi bj;simp[cU,k1,k2,k6,k7,k8,k9,a7,a8,a9,ba,bd,be,bf,bg,bi,bj];rintro vs Y' ⟨rfl,A,aa,r1,r2⟩;have dP:(7:Nat)≠12:=(by decide);simp only[aa3,aI,u0,u1,A.bx,aj,uS,↓uL];refine cy (cs:=[a1,iv (cU w s t C bb lD).1.tx,a2,a3]) r1 rfl rfl (by rw[r2];decide) λaq bp cS=>?_;have cT:box aq (12,an)=V ⟨36,4,U,U,[[a1,iv (cU w s t C bb lD).1.tx,a2,a3]]⟩:=(by rw[cS];simp[r2]);have n:=A.no r1 rfl (by simp);have y:=A.g1.fx bp λk N=>(by simp only[cE] at N;subst N;exact .inl ⟨_,r1, .inl ⟨rfl,by simp⟩⟩);have z:=A.g2.fx bp λk N D=>(by simp only[cE] at D;subst D;exact n.2.1 N);have h3:=A.g3.fx bp λk N D=>(by simp only[cE] at D;subst D;exact n.2.2 N);simp only[aaU,u0,u1,cT,aj,uS,au,↓uL];obtain⟨t2,o2,q2⟩:=z.frD;obtain⟨t3,o3,q3⟩:=h3.frD;have hr:jS aq [.a [a1,iv (cU w s t C bb lD).1.tx,a2,a3],iv (cU w s t C bb lD).2,bv U]= .t [.a (eD (cU w s t C bb lD).1 (I,U,t2,o2,t3,o3)),iv (cU w s t C bb lD).2,bv U]:=(by show AV.t [.a [dQ aq a1,dQ aq (iv (cU w s t C bb lD).1.tx),dQ aq a2,dQ aq a3],_,_]=_;rw[y.fr,q2,q3];rfl);unfold aE;rw[hr];exact⟨rfl,_,rfl⟩
def BT:FT:=BL Ou
def ayr{w s t kind bb lD Lw K}:=al4 BT Ou w s t kind bb lD Lw K
def aYa:dO:=(135,BT)::Rm
def Bv:eJ aYa:=it (apO Ou) (ape)
def rX:=ai @ayr<|@aml
def alc:=bi 21 [(8,([8],[3,4,5,6])),(15,([],[5,6,12]))]
def akg c f R a:=aw 7 a c λd=>sV (aK 7 a f d) λb=>aw 7 b f λe=>aE R b [e,(bv U)]
def akn b i k R(j:eQ) a:=∀_:Rg,ab 6 a b λc=>ab 0 a i λd=>ao 1 a c d λe=>aM a e λf=>aV f (iv 1) λg=>ao 1 a c d λh=>sV (aK 1 a h g) (akg b k R)
def ako a b d(c:aG):=ab 1 a b λe=>bf e (iv 4) λh=>ah h (ab 4 a d λi=>ab 2 a b λj=>ab 3 a b λk=>ao 1 a i j λl=>sV (aK 1 a l k) λf=>c [] f) (bf e (iv 22) λm=>ah m (ab 5 a d λn=>ab 2 a b λo=>ab 3 a b λp=>ao 1 a n o λq=>sV (aK 1 a q p) λg=>c [] g) (c [] a))
def akh b c h i k l n o g j m p a q d r R e:=dH [(bo b),(bo c),(bo h),(lb I [(.f 136 [] []),i] [98]),(bo c),(bo k),(lb I [(.f 136 [] []),l] [101]),(bo c),(bo n),(lb I [(.f 98 [] []),o] [104]),(lb U [g,j,m,p] []),(lb I [] [12]),(lb I [a,q] [])] [(0,3),(3,4),(3,5),(0,6),(3,7),(6,7),(3,8),(6,8),(0,9),(0,11),(1,11),(2,11),(3,11),(4,11),(5,11),(6,11),(7,11),(8,11),(9,11),(10,11)] (jV 15 (akn a d r R) (ako e d a))
def aki c d e a q j k l m n o p r R f h:=rV (bM BF anY [(0,c),(1,d),(2,e),(3,f)]) λg=>eV (bs 40 BF h 12) λb i=>sV (aK 7 i b g) (akh a q j k l m n o c d e f b g p r R)
def akj e f i b g h j k m n R l a:=aB 6 a e λc=>aM a c λd=>cN 98 [d] a 104 (aki f i l b e g h j k c d m n R)
def akk e f b g h j k R i a:=aB 5 a e λc=>aM a c λd=>cN 136 [d] a 101 (akj e f i b g h c d j k R)
def akl g l R b f m a:=cf g λh=>ah h (rV (bM BF anY []) λi=>sV (aK 7 a l i) λc=>aw 7 c l λj=>aE R c [j,(bv I)]) (aw 4 a b λk=>aB 4 a f λd=>aM a d λe=>cN 136 [e] a 98 (akk f k b d e m l R))
def JX b p f d r R e:=∀_:Rg,aw 6 b p λh=>aB 0 b f λi=>aw 4 b i λj=>ab 0 b d λk=>ab 1 b d λl=>ab 2 b d λm=>fV BT b [h,j,k,l,m,(gt e 0)] λc=>rV (eO 0 c) λn=>rV (eO 1 c) λq=>rV (eO 2 c) λo=>eV (bs 36 aNC b 9) λa g=>sV (aK 4 g a n) (akl o r R a f d)
def akp f b(a:cG):=ab 1 f b λc=>bf c (iv 18) λd=>ah d (ab 3 f b λe=>a [e]) (a [(iv (-1))])
def akm e f b R m a:=aw 6 a e λt9=>aw 7 a f λx=>fV Gk a [t9,x] λy=>cf y λj=>bn j 0 a b λz=>aC j (aU z (iv 0)) λA=>aD j (bv U) A λg=>bn g 0 a b λB=>bn g 4 a e λC=>aC g (aJ a C) λD=>aC g (aO .geq B D) λE=>aD g (bv U) E λk=>bn k 1 a b λF=>aC k (aU F (iv 1)) λG=>aD k (bv U) G λl=>bn l 1 a b λH=>aC l (aO .gtr H (iv 23)) λK=>aD l (bv U) K λM=>ah M (rV (bM BF anY []) λN=>sV (aK 7 a m N) λn=>aw 7 n m λO=>aE R n [O,(bv I)]) (aw 6 a e λP=>aB 0 a f λS=>aw 4 a S λT=>ab 0 a b λW=>ab 1 a b λX=>ab 2 a b λZ=>fV BU a [P,T,W,X,Z] λaa=>cf aa λh=>aC h (aw 6 a e) λac=>aC h (aw 7 a b) λad=>aC h (fV Gl a [ac,ad]) λae=>aC h (cf ae) λaf=>aD h (bv U) af λd=>aC d (aw 6 a e) λag=>aC d (aw 7 a f) λak=>aC d (aw 7 a b) λal=>aC d (fV Gj a [ag,ak,al]) λo=>aC d (cf o) λp=>aD d (bv U) p λc=>aC c (aw 7 a f) λq=>aC c (aw 7 a b) λr=>aC c (fV Gm a [q,r]) λs=>aC c (cf s) λt=>aD c (bv U) t λu=>ah u (rV (bM BF anY []) λv=>sV (aK 7 a m v) λi=>aw 7 i m λw=>aE R i [w,(bv I)]) (jR 8 (JX a e f b m R) (akp a b)))
def JW c b a d R:=eV (bs 40 BF d 6) (akm c b a R)
def aMI{c:List AV}{d:List AV}{e:List AV}{R:d7}(l0:L c=6)(l1:L d=7)(w:L e=7)(h:∀b:ae,L b=4096->box b (3,1)=V ⟨31,6,U,U,[c]⟩->box b (4,1)=V ⟨40,7,U,U,[d]⟩->box b (5,1)=V ⟨64,7,U,U,[e]⟩->(∀k,k≠3->k≠4->k≠5->aZ b k=mO)->JW (.p (3,1) 0 0) (.p (4,1) 0 0) (.p (5,1) 0 0) b R):Fn aS GG 82 [.a c, .a d, .a e] R:=by refine uq ready Bv Tryz.func82 (an:=alc) (by kernel_rfl) (aND (show ZF aS GG aYa alc Tryz.f82 [.a c, .a d, .a e] R=(eV (qm 31 6 (ly Tryz.f82) 3 (.a c)) λm i=>eV (qm 40 7 i 4 (.a d)) λl j=>eV (qm 64 7 j 5 (.a e)) λf b=>JW m l f b R) by kernel_rfl) ?_);refine mY (N:=4096) rfl l0 (by decide) (by decide) uB (by rw[i8]) λi x n A g0=>?_;refine mY (N:=4096) rfl l1 (by decide) (by decide) x (by rw[g0 _ (by decide),i8]) λj y o r g1=>?_;refine mY (N:=4096) rfl w (by decide) (by decide) y (by rw[g1 _ (by decide),g0 _ (by decide),i8]) λb z q g s=>?_;exact h b z (by rw[g _ _ (by decide),r _ _ (by decide)];exact n) (by rw[g _ _ (by decide)];exact o) q (λk t u v=>by rw[s k v,g1 k u,g0 k t];exact i8 _ k)
def asv:=bi 21 [(13,([62],[1,60,61]))]
def Sx l d R c(j:aG)(e:bu) k a:=aw 6 a l λf=>ab 1 a d λg=>fV EV a [f,g,(bv I)] λh=>cf h λi=>ah i (aE R a [(bv I)]) (aV (gt c 0) (iv 1) λb=>j [b] a/\e [b] a<e c k)
def SA m l d R j k b a:=∀_:Rg,aU (gt b 0) m λn=>ah n (ao 2 a l (gt b 0) λf=>aw 2 a f λg=>eV (bs 126 aPp a 6) λc e=>sV (aK 2 e c g) (Sx d c R b j k a)) (aw 6 a d λh=>fV EY a [h] λi=>aE R a [i])
def Sw b a R:=ab 0 a b λt4=>aJ a t4 λP=>aO .gtr P (iv 12) λh=>bn h 1 a b λk=>aC h (aJ a k) λl=>aC h (aO .gtr l (iv 4)) λm=>aD h (bv U) m λd=>bn d 2 a b λn=>aC d (aJ a n) λo=>aC d (aO .gtr o (iv 2)) λp=>aD d (bv U) p λe=>bn e 3 a b λq=>aC e (aJ a q) λr=>aC e (aO .gtr r (iv 2)) λs=>aD e (bv U) s λf=>bn f 5 a b λt=>aC f (aJ a t) λu=>aC f (aO .gtr u (iv 60)) λv=>aD f (bv U) v λw=>ah w (aE R a [(bv I)]) (ab 4 a b λx=>aJ a x λy=>aU y (iv 1) λg=>bn g 4 a b λz=>aC g (aJ a z) λA=>aC g (aO .gtr A (iv 4)) λB=>aD g (bv U) B λC=>ah C (aE R a [(bv I)]) (ab 0 a b λD=>fV EW a [D] λi=>rV (eO 0 i) λE=>rV (eO 1 i) λF=>cf F λc=>aC c (aw 6 a b) λG=>ic c E λH=>aC c (fV EX a [G,H]) λK=>aC c (cf K) λM=>aD c (bv U) M λN=>ah N (aE R a [(bv I)]) (ab 2 a b λj=>aJ a j λO=>lV [(iv 0)] a (SA O j b R))))
def aJW{b:List AV}{R:d7}(l0:L b=6)(h:H1 31 6 1 b λc d=>Sw c d R):Ct 35 [.a b] R:=z1 asv Bv Tryz.func35 l0 h
def NG(w:br)(E:mQ w=U):Ct 35 [.a w.c] (·=bv U):=by refine aJW rfl λR D g O=>?_;have y:=E;simp only[mQ,bN,eH] at y;obtain⟨f,d⟩:=y;obtain⟨l,b⟩:∃l,lY w=V l:=(by cases C:lY w with|none=>rw[C] at d;cases d|some l=>exact⟨l,rfl⟩);rw[b] at d;simp only[bN,lS] at d;obtain⟨u,v,x⟩:=d;have N:=anD b;have s:(jv w.cells (L w.cells) 0 []).isSome=U/\l=wB w (zV w.cells):=(by unfold lY at b;unfold zV;cases p:jv w.cells (L w.cells) 0 [] with|none=>rw[p] at b;cases b|some r=>rw[p] at b;simp only[df,bE] at b;exact⟨rfl,b.symm⟩);obtain⟨q,rfl⟩:=s;simp only[wJ,cP,o8] at f;obtain⟨⟨⟨⟨⟨⟨z1,z2⟩,F⟩,G⟩,H⟩,K⟩,M⟩:=f;simp+contextual only[Sw,u0,u1,g,rk,aj,z1,z2,F,G,H,K,M,aNE,kz,lG,eE,Ca,O9,mn,ar,rX,q,↓uL];refine⟨by omega,?_⟩;rintro r ⟨t,o,rfl⟩;refine⟨.inl rfl,?_⟩;simp+contextual only[oJ,pG,u0,u1,g,rk,aj,ar,rX,AL,fh,kz,lG,eE,Ca,O9,mn,↓uL];refine⟨⟨u,by omega⟩,?_⟩;refine pQ (L w.bC) [6] (λk=>True) trivial λk Y P _ i=>?_;have h:box Y (1,1)=_:=i.bt g;simp+contextual only[SA,u0,u1,h,rk,ix,aj,bh,↓uL];refine⟨λe=>⟨bA e,?_⟩,λe=>?_⟩;refine eF rfl rfl (by decide) (by rw[i.1,D];decide) λz j A=>?_;have B:box z (1,1)=_:=j.bt h;have m:=v k (aL e);simp only[uh,cP,o8] at m;have n:dh (gd w.bC k).eg (L w.ak)=U:=(by rw[dX];exact⟨by omega,by omega⟩);simp+contextual only[Sx,↓iC,↓iB,↓iS,u0,u1,A,B,rk,ix,aj,bh,ar,rX,n,m.2,iw,beq_self_eq_true,fh,eE,Ca,O9,mn,↓uL];exact oL (aL e) (by omega) trivial (i.trans j);simp+contextual only[u0,u1,h,rk,aj,ar,rX,mn,↓uL];exact⟨⟨x,by omega⟩,trivial⟩
def EU:FT:=mT NG
def axU{w Lw K}:=oK EU NG w Lw K (j:=by simp+contextual only[ij,j9])
structure kQ(n:Nat)(s:aW):Prop where
 lo:L s.ak<=4
 dn:L s.done<=2
 th:L s.ay<=4
 rd:∀l∈s.ak,jC l.bk/\∀x∈l.bk,aF n x
def aB2{l:List Int}{n:Nat}(h:jC l)(b:∀x∈l,aF n x):∀i:Nat,i<L l->(i:Int)<=gd l i:=by intro i;induction i with|zero=>intro a;exact(b _ (dB a)).1|succ i c=>intro a;have:=h i a;have:=c (by omega);omega
def AC{l:List Int}{n:Nat}(h:jC l)(a:∀x∈l,aF n x):L l<=n:=by rcases oD (L l) with b|b;omega;have c:=aB2 h a (L l-1) (by omega);have d:=(a _ (dB (show L l-1<L l by omega))).2;omega
structure vL(w:am):Prop where
 wo:kB w
 th:L w.aQ.ay<=4
 sy:∀k:Nat,k<L w.ac->kQ (L w.aQ.ay) (cY w k).bm
def Dw{Y:ae}{e:TypeId}{a:AV}{l:List Int}{i:Int}{K:d7}(g:bc Y e 1 a (l.map ci))(d:aF (L l) i):(rV (cz 1 Y a (iv i)) λt=>rV (kb J Y t) K)=K (iv (gd l i.toNat)):=by have c:i.toNat<L l:=(by have:=d.1;have:=d.2;omega);rcases g with⟨f,_⟩|⟨b,rfl,h⟩;simp at f;subst f;simp at c;simp[cz,d.1,h,c,rV,kb,iE,aN,bT c]
def DA{Y:ae}{e:TypeId}{a:AV}{l:List Int}{i v:Int}{K:be}(n:bc Y e 1 a (l.map ci))(d:aF (L l) i)(o:∀p Y',Fx Y Y' (aA a)->bc Y' e 1 a ((l.set i.toNat v).map ci)->K p Y'):rV (cz 1 Y a (iv i)) λp=>sV (aK 1 Y p (iv v)) (K p):=by have c:i.toNat<L l:=(by have:=d.1;have:=d.2;omega);rcases n with⟨f,_⟩|⟨b,rfl,g⟩;simp at f;subst f;simp at c;have h:cz 1 Y (.m b (L (l.map ci))) (iv i)=V (.p b i.toNat 0):=(by simp[cz,d.1,g,c]);rw[h];simp only[rV];have q:(l.map ci)[i.toNat]?=V [iv (gd l i.toNat)]:=(by rw[ve,eC c,bT c];rfl);refine wL g q (by simp) λY' j k=>o _ Y' j ?_;refine .inr ⟨b,by simp,?_⟩;rw[k,vB];rfl
def PR(w:br)(s:bW)(e:aP)(hp:C1 w s e=U/\L w.bC<=2/\L w.ay<=4/\kQ (L w.ay) s.bm/\L s.cells<1000/\L s.bU<1000/\L s.count<1000/\vo e):Ct 82 [.a w.c, .a s.c, .a e.c] (λr=>∃cs,r= .t [.a cs,bv U]/\Lk cs (oc w s e).c):=by refine aMI rfl rfl rfl λs6 o b1 b2 b3 h0=>?_;obtain⟨bl,p1,p2,B,p4,p5,p6,p7⟩:=hp;have T:=bl;simp only[C1,eH,cP] at T;obtain⟨q1,q2,q3,q4,q5⟩:=T;have aC:=q1;simp only[aOL,cP,fK,o8] at aC;obtain⟨⟨⟨⟨hf,hi⟩,bi⟩,bj⟩,u⟩:=aC;obtain⟨cQ,S⟩:lh w s.bm=U/\named w e.kind e.bb=U:=(by simp[jm] at u;exact⟨u.1,u.2.2.1⟩);have P:=dX.1 hi;obtain⟨m1,m2,m3⟩:L s.cells=L w.cells/\L s.bU=L w.bU/\L s.count=L w.ay:=(by simp[fN] at hf;exact hf.2);have O:aF (L s.count) e.aq:=(by rw[m3];exact P);have z1:¬e.aq<0:=(by have:=P.1;omega);have z2:¬((L w.ay:Int)<=e.aq):=(by have:=P.2;omega);simp only[u7,cP,fK,lS] at q5;obtain⟨⟨n1,n2⟩,n3⟩:=q5;have az:∀l∈s.bm.ak,L l.bk<12:=λl o=>(by have:=AC (B.rd l o).1 (B.rd l o).2;omega);have hP:yM w e=I/\yN e=I/\lZ e.dI (gd s.count e.aq.toNat)/\lZ e.ep (gd s.count e.aq.toNat)/\aF (L s.count) e.aq/\(e.kind=3\/e.kind=4->aF (L w.cells) e.bb)/\vo e:=⟨q3,q4,n1,n2,O,λh=>qP S (by omega) (by omega),p7⟩;have hV:aO8 s e=U/\L s.bm.ay<1000000/\(e.kind=3->aF (L s.cells) e.bb)/\(e.kind=23->aF (L s.bU) e.bb):=⟨n3,by have:=B.th;omega,λh=>by rw[m1];exact qP S (by omega) (by omega),λh=>by rw[m2];exact oU S (by omega) (by omega)⟩;have hE:jm w s.bm e.aq e.kind e.bb=U/\L w.bC<=2/\(∀l∈s.bm.ak,L l.bk<100000):=⟨u,p1,λl o=>by have:=az l o;omega⟩;have hA:jm w s.bm e.aq e.kind e.bb=U/\L w.bC<=2/\(∀l∈s.bm.ak,L l.bk<12)/\(∀l∈s.bm.ak,jC l.bk)/\L s.bm.ak<1000/\L s.bm.done<1000/\L s.bm.ay<1000:=⟨u,p1,az,λl o=>(B.rd l o).1,by have:=B.lo;omega,by have:=B.dn;omega,by have:=B.th;omega⟩;simp only[JW,↓uL];refine so o λv7 C F7 N7 b7=>?_;have c1:box C (3,1)=_:=F7.kq b1;have c2:box C (4,1)=_:=F7.kq b2;have c3:box C (5,1)=_:=F7.kq b3;have ax:L C=4096:=F7.len.trans o;simp+contextual only[akm,u0,u1,c1,c2,c3,rk,aj,ar,rX,hf,p1,hE,hP,hV,q2,z1,z2,bi,bj,y6,aNE,fh,kN,kz,lG,eE,Ca,O9,mn,↓uL];refine⟨λ_ _=>trivial,⟨λ_=>trivial,trivial⟩,⟨λ_=>trivial,λ_=>trivial⟩,?_⟩;simp+contextual only[akp,u0,u1,c3,rk,aj,↓uL];suffices hj:JX C (.p (3,1) 0 0) (.p (4,1) 0 0) (.p (5,1) 0 0) (.p (6,v7) 0 0) (λr=>∃cs,r=AV.t [AV.a cs,bv U]/\Lk cs (oc w s e).c) [iv (og e)] from(by refine⟨λh=>?_,λh=>?_⟩;simp only[lS] at h;rw[og,bX h] at hj;exact hj;simp only[o8] at h;rw[og,cj h] at hj;exact hj);simp only[JX,aI,au,u0,u1,c1,c2,c3,rk,aj,ar,rX,↓uL];refine⟨hA,?_⟩;rintro r ⟨f,rfl⟩;refine⟨.inl rfl,?_⟩;simp only[oJ,pG,KM,aY,↓uL];generalize bn:(cU w s.bm e.aq e.kind e.bb (og e)).1=sy';refine so ax λv9 Y1 F1 N1 d9=>?_;refine cy (y:=4) (cs:=eD sy' f) d9 rfl rfl (by decide) λY2 F a9=>?_;have aR:box Y2 (9,v9)=V ⟨36,4,U,U,[eD sy' f]⟩:=a9;have H:Fx C Y2 []:=F1.tn F N1.no;have l2:L Y2=4096:=H.len.trans ax;have e2:=H.kq c2;have bB:aN (V 4) (eD sy' f)=V (.a (eD sy' f)):=rfl;simp+contextual only[akl,u0,u1,aR,e2,bB,rk,aj,fh,eE,Ca,O9,mn,↓uL];refine alG (aa:=s.cells.map ci) rfl fF (by simp;omega) (by simp[gY]) (by rw[l2];decide) λd M g4 z P4=>?_;have f2:=z.kq e2;have l3:L M=4096:=z.len.trans l2;simp only[akk,u0,u1,f2,rk,aj,↓uL];refine alG (aa:=s.bU.map ci) rfl fF (by simp;omega) (by simp[gY]) (by rw[l3];decide) λg Y4 g5 F4 P5=>?_;have h2:=F4.kq f2;have l4:L Y4=4096:=F4.len.trans l3;simp only[akj,u0,u1,h2,rk,aj,↓uL];refine Kr (aa:=s.count.map ci) rfl fF (by simp;omega) (by simp[gY]) (by rw[l4];decide) λi Y5 g6 F5 P6=>?_;have l5:L Y5=4096:=F5.len.trans l4;have aw:bM BF anY [(0, .a (eD sy' f)),(1,d),(2,g),(3,i)]=V (.a (eD sy' f++[d,g,i])):=(by simp[bM,gp,ms g4,ms g5,ms g6,eD,show∀x,eY (.a x)=V x fromλ_=>rfl]);have av:∀{q:Id} {x:bY},box C q=V x->box Y5 q=V x:=λhq=>F5.kq (F4.kq (z.kq (H.kq hq)));simp only[aki,aw,aY,↓uL];refine so l5 λaD Y6 F6 N6 a8=>?_;refine cy (y:=7) (cs:=eD sy' f++[d,g,i]) a8 rfl rfl (by decide) λY7 a2 aQ=>?_;have D:box Y7 (12,aD)=V ⟨40,7,U,U,[eD sy' f++[d,g,i]]⟩:=aQ;have j:Fx Y5 Y7 []:=F6.tn a2 N6.no;have l7:L Y7=4096:=j.len.trans l5;have G4:=((g4.fx F4 (by simp)).fx F5 (by simp)).fx j (by simp);have G5:=(g5.fx F5 (by simp)).fx j (by simp);have G6:=g6.fx j (by simp);have i3:=j.kq (av c3);have i7:=j.kq (av b7);have m:∀k∈aA d,k.1=98:=λk b=>(P4 k b).2;have n:∀k∈aA g,k.1=101:=λk b=>(P5 k b).2;have v:∀k∈aA i,k.1=104:=λk b=>(P6 k b).2;clear aw;simp only[akh,↓uL];refine dT ?_ ?_;rcases g4 with⟨_,X⟩|⟨⟨k4,u4⟩,X,_⟩<;>rcases g5 with⟨_,Z⟩|⟨⟨k5,u5⟩,Z,_⟩<;>rcases g6 with⟨_,r6⟩|⟨⟨k6,u6⟩,r6,_⟩<;>(try(have h4:=m (k4,u4) (by rw[X];simp[aA]);simp only at h4;subst h4))<;>(try(have h5:=n (k5,u5) (by rw[Z];simp[aA]);simp only at h5;subst h5))<;>(try(have h6:=v (k6,u6) (by rw[r6];simp[aA]);simp only at h6;subst h6))<;>rw[X,Z,r6]<;>rfl;have X:∀{x:List Int},aN J (aOz 4 (eD sy' f++[d,g,i]))=V d:=rfl;have Z:aN J (aOz 5 (eD sy' f++[d,g,i]))=V g:=rfl;have r6:aN J (aOz 6 (eD sy' f++[d,g,i]))=V i:=rfl;have r7:aN (V 7) (eD sy' f++[d,g,i])=V (.a (eD sy' f++[d,g,i])):=rfl;have A:∀Y c' f',Fx Y7 Y (aA d++aA g)->bc Y 2 1 d (c'.map ci)->bc Y 2 1 g (f'.map ci)->c'=(if e.kind=4 then s.cells.set e.bb.toNat e.value else s.cells)->f'=(if e.kind=22 then s.bU.set e.bb.toNat e.value else s.bU)->akn (.p (12,aD) 0 0) (.p (5,1) 0 0) (.p (6,v7) 0 0) (λr=>∃cs,r=AV.t [AV.a cs,bv U]/\Lk cs (oc w s e).c) [] Y:=(by intro Y c' f' FY H4 H5 e4 e5 _;have G:∀{q:Id},q.1≠98->q.1≠101->q∉aA d++aA g:=λN h2 h=>(by rcases dF.1 h with h|h;exact N (m _ h);exact h2 (n _ h));have m3:=FY.keep _ _ (G (by simp) (by simp)) i3;have m7:=FY.keep _ _ (G (by simp) (by simp)) i7;have aB:=FY.keep _ _ (G (by simp) (by simp)) D;have H6:=G6.fx FY λk b=>G (by rw[v k b];decide) (by rw[v k b];decide);simp only[u0,u1,aB,m3,rk,r6,aj,Dw H6 O,cS,aY,↓uL];refine DA H6 O λp Y2 F K6=>?_;have E:∀{q:Id},q.1≠104->q∉aA i:=λN h=>N (v _ h);have K4:=H4.fx F λk b=>E (by rw[m k b];decide);have K5:=H5.fx F λk b=>E (by rw[n k b];decide);have bw:=F.keep _ _ (E (by simp)) aB;have n7:=F.keep _ _ (E (by simp)) m7;simp only[akg,u0,u1,bw,r7,↓uL];refine cy (y:=7) (cs:=eD sy' f++[d,g,i]) n7 rfl rfl (by decide) λM z o7=>?_;have bx:box M (6,v7)=V ⟨40,7,U,U,[eD sy' f++[d,g,i]]⟩:=o7;simp only[bx,u0,u1,r7,↓uL];have W:∀{q:Id},q.1≠6->q∉[((6,v7):Id)]:=λN h=>(by simp at h;subst h;exact N rfl);obtain⟨x4,o4,z4⟩:=(K4.fx z λk b=>W (by rw[m k b];decide)).frD;obtain⟨x5,o5,z5⟩:=(K5.fx z λk b=>W (by rw[n k b];decide)).frD;obtain⟨x6,o6,z6⟩:=(K6.fx z λk b=>W (by rw[v k b];decide)).frD;have a0:jS M [.a (eD sy' f++[d,g,i]),bv U]= .t [.a (eD sy' f++[.l (c'.map ci) x4 o4, .l (f'.map ci) x5 o5, .l ((s.count.set e.aq.toNat (dq.wrap (gd s.count e.aq.toNat+1))).map ci) x6 o6]),bv U]:=(by show AV.t [.a ((eD sy' f++[d,g,i]).map (dQ M)),bv U]=_;rw[dg];simp only[ji,mU,z4,z5,z6];rfl);unfold aE;rw[a0];refine⟨rfl,_,rfl,?_,rfl⟩;simp only[oc,bn,<-e4,<-e5];rfl);simp+contextual only[di,ako,u0,u1,i3,D,rk,X (x:=[]),Z,aj,↓uL];refine⟨λh=>?_,λh=>⟨λh'=>?_,λh'=>?_⟩⟩;have h4:=nt h;refine DA G4 (by rw[m1];exact qP S (by omega) (by omega)) λp Y8 K K4=>?_;exact A _ _ _ (K.mono λk b=> .inl (by simp[b])) K4 (G5.fx K λk b R=>nl ((n k b).symm.trans (m k R)) (by decide)) (by rw[bX h4]) (by rw[cj (by omega)]);have be:=nt h';refine DA G5 (by rw[m2];exact oU S (by omega) (by omega)) λp Y8 K K5=>?_;exact A _ _ _ (K.mono λk b=> .inl (by simp[b])) (G4.fx K λk b R=>nl ((m k b).symm.trans (n k R)) (by decide)) K5 (by rw[cj (aNG h)]) (by rw[bX be]);exact A _ _ _ (Fx.refl _ _) G4 G5 (by rw[cj (aNG h)]) (by rw[cj (aNG h')])
def Gi:FT:=vn PR
def azD{w s e Lw K}:=zZ Gi PR w s e Lw K (j:=by simp+contextual only[ij,j9])
def apo:dO:=(35,EU)::(82,Gi)::aYa
def Rf:eJ apo:=it (pg NG) (it (By PR) (Bv))
def Ac:=ai @axU<|ai @azD<|@rX
abbrev ap5:List AV:=[(.l [] I I)]
def avl:=bi 32 [(5,([23],[1,3,4,21,22])),(16,([42],[1,3,4,6,7,21,22,23,41])),(22,([47],[1,3,4,6,7,21,22,23,41,42,45,46]))]
def akR u a t W e l R i(r:cG)(j:fD)(s:cG)(k:fD) d:=∀_:Rg,aU (gt d 0) u λv=>ah v (ao 1 a t (gt d 0) λw=>aM a w λx=>aB 7 a W λy=>ab 6 a y λz=>ab 0 a e λA=>ao 1 a z A λB=>aM a B λC=>aO .sub x C λh=>aO .geq h (iv 0) λb=>fm b h λD=>fm b l λE=>aT b 0 a e λF=>az b (ao 1 a E F) λG=>az b (aM a G) λH=>az b (aJ a H) λK=>az b (aO .geq D K) λM=>fm b M λc=>ic c l λN=>bn c 0 a e λO=>aC c (ao 1 a N O) λP=>aC c (aM a P) λS=>ic c h λT=>aC c (ao 1 a S T) λm=>aC c (aM a m) λn=>aC c (cf n) λo=>az b (aD c (bv U) o) λp=>aD b p (bv I) λq=>ah q (aE R a [(bv I)]) (aV (gt d 0) (iv 1) λf=>s [f]/\k [f]<k d)) (aV (gt i 0) (iv 1) λg=>r [g]/\j [g]<j i)
def akK c(e:aG)(d:bu) f a:=aV (gt c 0) (iv 1) λb=>e [b] a/\d [b] a<d c f
def akL a e g c h i k l n o m p q j r f t s d z v w x y b:=dH [km,(bo a),(bo e),km,(bo a),(bo g),(lb U [c,h] []),(bo i),(bo a),(bo k),(lb U [l,(iv 3)] []),km,(bo a),(bo n),(lb U [o,(iv 23)] []),(lb U [m,(bv U),p] []),(lb I [q] []),(lb I [j,r] [102]),(lb U [c,f] []),(lb I [t,s] [])] [(0,16),(1,16),(2,16),(3,16),(4,16),(5,16),(6,16),(7,16),(0,17),(1,17),(2,17)] (aw 7 b d λu=>sV (aK 7 b z u) (akK v w x y))
def ar4 e b f h i j k m n p q o r s l t g y u v w x c a:=ao 1 a e b λd=>sV (aK 1 a d c) (akL f h i e j k m n p q o r s l t b d c g y u v w x)
def akQ C a F b k R s B v w y A x z d:=∀_:Rg,aU (gt d 0) (iv 2) λD=>ah D (rV (sI 2 1 J C (gt d 0)) λr=>aJ a r λE=>lR [(iv 0)] (akR E a r F b k R d x z)) (aB 0 a b λe=>aM a e λu=>aB 0 a b λf=>aM a f λg=>ao 1 a k g λh=>aM a h λi=>aB 1 a b λj=>aM a j λl=>bf l (iv 3) λc=>aC c (aB 1 a b) λm=>aC c (aM a m) λn=>aC c (bf n (iv 23)) λo=>aD c (bv U) o λp=>eV (aX BD 1 a [(0,p)]) λq t=>eV (j5 4 BE 1 t 102 i q) (ar4 k u b e f g h j l m n c o p i q s B v w y A))
def akM j R a o i c h d e f g b:=cf j λk=>ah k (aE R b [(bv I)]) (ab 5 b a λl=>ab 6 b a λm=>rV (tY a73 1 [(0,l),(1,m)]) λn=>lR [(iv 0)] (akQ n b o a i R c h d e f g))
def akN f d b R l g h i j a:=aB 0 a f λm=>aw 6 a m λn=>aw 7 a d λo=>aw 7 a b λp=>fV Gi a [n,o,p] λe=>rV (eO 0 e) λq=>rV (eO 1 e) λr=>eV (bs 40 BF a 7) λc k=>sV (aK 7 k c q) (akM r R b f l c d g h i j)
def akS j i n g R h d e b a:=∀_:Rg,aU (gt b 0) j λk=>ah k (ao 7 a i (gt b 0) λl=>aw 7 a l λm=>eV (bs 64 y8 a 6) λc f=>sV (aK 7 f c m) (akN n g c R h b d e a)) (aE R a [(bv U)])
def akO c d R e a:=ab 14 a c λb=>aJ a b λf=>lV [(iv 0)] a (akS f b c d R e)
def akP c d R a:=aB 0 a c λf=>ab 4 a f λe=>aJ a e λb=>eV (qO 33 ap5 24 a 19 b b) (akO c d R)
def akJ b c R:=aB 7 c b λt3=>aw 7 c t3 λt4=>eV (bs 40 BF c 3) λa d=>sV (aK 7 d a t4) (akP b a R)
def aMQ{b:List AV}{R:d7}(l0:L b=15)(h:H1 43 15 1 b λc d=>akJ c d R):Ct 41 [.a b] R:=z1 avl Rf Tryz.func41 l0 h
structure lJ(Y:ae)(b:Id)(e1 e:TypeId)(d n:Nat)(Lw:Nat->List (List AV))(f:Nat->AV):Prop where
 bx:box Y b=V ⟨e1,1,U,U,io n λi=>[f i]⟩
 gr:∀i,i<n->bc Y e 1 (f i) (Lw i)
 dj:∀i j,i<n->j<n->i≠j->∀q∈aA (f i),q∉aA (f j)
 pl:∀i,i<n->∀q∈aA (f i),q.1=d
def lJ.ix{Y:ae}{b:Id}{g e:TypeId}{d n:Nat}{c:Nat->List (List AV)}{f:Nat->AV}(O:lJ Y b g e d n c f){i:Int}(a:aF n i):cz 1 Y (.m b n) (iv i)=V (.p b i.toNat 0):=by have h:i.toNat<n:=(by have:=a.1;have:=a.2;omega);simp[cz,a.1,O.bx,h]
def lJ.ld{Y:ae}{b:Id}{c e:TypeId}{d n:Nat}{a:Nat->List (List AV)}{f:Nat->AV}(O:lJ Y b c e d n a f){i:Nat}(g:i<n):kb J Y (.p b i 0)=V (f i):=by simp[kb,iE,O.bx,uU g,aN]
def lJ.ln{Y:ae}{b:Id}{c e:TypeId}{d n:Nat}{a:Nat->List (List AV)}{f:Nat->AV}(O:lJ Y b c e d n a f){i:Nat}(g:i<n):fS Y (f i)=V (iv (L (a i))):=lnI (O.gr i g)
def lJ.keep{Y Y':ae}{b:Id}{ks:List Id}{c e:TypeId}{d n:Nat}{a:Nat->List (List AV)}{f:Nat->AV}(O:lJ Y b c e d n a f)(F:Fx Y Y' ks)(h:b∉ks)(j:∀i,i<n->∀q∈aA (f i),q∉ks):lJ Y' b c e d n a f:=⟨F.keep _ _ h O.bx,λi g=>(O.gr i g).fx F (j i g),O.dj,O.pl⟩
def lJ.no{Y:ae}{b:Id}{c e:TypeId}{d n:Nat}{a:Nat->List (List AV)}{f:Nat->AV}(O:lJ Y b c e d n a f){q:Id}{x:bY}(j:box Y q=V x)(k:x.var=U\/x.elem≠e){i:Nat}(g:i<n):q∉aA (f i):=λh=>by
 have:=(O.gr i g).ids q h
 rw[j] at this
 cases this
 rcases k with h|h
 ·cases h
 ·exact h rfl
def anO{Y:ae}{b:Id}{G e:TypeId}{d n by':Nat}{zs:List AV}{w:Nat->List (List AV)}{f:Nat->AV}{i:Int}{new:List (List AV)}{t o:Bool}{K:AV->be}(O:lJ Y b G e d n w f)(H:aF n i)(hz:L zs=1)(hd:d<L Y)(hr:∀r∈w i.toNat,L r=1)(hn:∀r∈new,L r=1)(hb:(L (w i.toNat)+L new)*(by'+1)<=1099511627776)(hK:∀a p Y' S,lJ Y' b G e d n (λj=>if j=i.toNat then w j++new else w j) S->L Y'=L Y->(∀q x,box Y q=V x->q≠b->x.var=U\/x.elem≠e->box Y' q=V x)->(∀q∈aA a,q.1=d)->p= .p b i.toNat 0->Fx Y Y' (b::aA (f i.toNat))->(∀j,j<n->∀q∈aA (S j),q∈aA (f j)\/bK Y q)->K a p Y'):eV (j5 e zs by' Y d (f i.toNat) (.l new t o)) λa C=>rV (cz 1 C (.m b n) (iv i)) λp=>sV (aK 1 C p a) (K a p):=by have s:i.toNat<n:=(by have:=H.1;have:=H.2;omega);refine gD (O.gr _ s) hz (by decide) hd hr hn hb λa C M u z Z=>?_;have D:b∉aA (f i.toNat):=O.no O.bx (.inl rfl) s;have P:=u.keep _ _ D O.bx;have W:cz 1 C (.m b n) (iv i)=V (.p b i.toNat 0):=(by simp[cz,H.1,P,s]);rw[W];have T:b∉aA a:=λh=>(by rcases z _ h with h|h;exact D h;exact h.no _ O.bx);have F:∀q∈aA a,q.1=d:=λq c=>(Z q c).elim (O.pl _ s q) id;refine Bp P (uU s) (ms M) rfl (by simp) λN v b2=>?_;have R:box N b=V ⟨G,1,U,U,io n λj=>[if j=i.toNat then a else f j]⟩:=(by rw[b2,Bl];congr 2;refine yC λj g=>?_;by_cases h:j=i.toNat<;>simp[h]);have E:∀j,j<n->j≠i.toNat->∀q∈aA (f j),q∉aA a:=λj g A q c B=>(by rcases z _ B with h|h;exact O.dj j i.toNat g s A q c h;exact h.no _ ((O.gr j g).ids q c));refine hK a _ N _ ⟨R,λj g=>?_,λj k g X A q c=>?_,λj g q c=>?_⟩ (v.len.trans u.len) (λq x c aa hx=>v.keep _ _ (by simpa using aa) (u.keep _ _ (O.no c hx s) c)) F rfl ((u.trans v).mono (by simp only[dF,eW];rintro q (h|h|h);exact .inl (.inr h);exact .inl (.inl h);cases h)) λj g q c=>?_;by_cases h:j=i.toNat;subst h;simp only[vg];exact M.fx v λq c e=>T (by simp at e;exact e▸c);simp only[cj h];refine((O.gr j g).fx u λq c=>O.dj j _ g s h q c).fx v λq c e=>?_;simp at e;exact O.no O.bx (.inl rfl) g (e▸c);by_cases h:j=i.toNat;simp only[bX h] at c;by_cases y:k=i.toNat;omega;simp only[cj y];exactλB=>E k X y q B c;simp only[cj h] at c;by_cases y:k=i.toNat;simp only[bX y];exact E j g h q c;simp only[cj y];exact O.dj j k g X A q c;by_cases h:j=i.toNat;simp only[bX h] at c;exact F q c;simp only[cj h] at c;exact O.pl j g q c;by_cases h:j=i.toNat;simp only[bX h] at c;rw[h];exact z q c;simp only[cj h] at c;exact .inl c
def giB{Y:ae}{e:TypeId}{a:AV}{l:List Bool}{i:Int}{K:d7}(g:bc Y e 1 a (l.map cb))(d:aF (L l) i):(rV (cz 1 Y a (iv i)) λt=>rV (kb J Y t) K)=K (bv (gd l i.toNat)):=by have c:i.toNat<L l:=(by have:=d.1;have:=d.2;omega);rcases g with⟨f,_⟩|⟨b,rfl,h⟩;simp at f;subst f;simp at c;simp[cz,d.1,h,c,rV,kb,iE,aN,bT c]
def fj(l:List aP)(t:Int)(k:Nat):List Nat:=(aH k).filter λj=>Q ((gd l j).aq=t)
def Bb{l:List aP}{t:Int}{k:Nat}:fj l t (k+1)=fj l t k++if(gd l k).aq=t then[k] else[]:=by rw[fj,List.range_succ,me];congr 1;by_cases h:(gd l k).aq=t<;>simp[h]
def wF{l:List aP}{t:Int}{k:Nat}:L (fj l t k)<=k:=by have:=fZ (λj=>Q ((gd l j).aq=t)) (aH k);simpa[fj] using this
def aOu(l:List aP)(k t:Nat):List Bool:=(fj l t k).map λj=>fR (gd l j)
structure xv(w:am):Prop where
 wo:vL w
 ev:∀e∈w.ac,vo e
 sn:∀k,k<L w.ac->L (cY w k).cells<1000/\L (cY w k).bU<1000/\L (cY w k).count<1000
 ct:L w.init.count=L w.aQ.ay/\∀c∈w.init.count,0<=c/\c<=400
 rd:∀k,k<L w.ac->∀x,x∈(gd w.ac k).dI\/x∈(gd w.ac k).ep-> -1000<=x/\x<=1000/\(gd w.init.count (gd w.ac k).aq.toNat<=x->x-gd w.init.count (gd w.ac k).aq.toNat<(L (aOu w.ac k (gd w.ac k).aq.toNat):Int)/\gd (aOu w.ac k (gd w.ac k).aq.toNat) (x-gd w.init.count (gd w.ac k).aq.toNat).toNat=U)
def PZ(w:am)(b:xv w):Ct 41 [.a w.c] (·=bv U):=by
 refine aMQ rfl λs2 hl b1 h0=>?_
 have bU:=b.wo.wo.ev
 simp only[akJ,u0,u1,b1,rk,aj,↓uL]
 refine so hl λW s3 F3 N3 b3=>?_
 refine cy (y:=7) (cs:=w.init.c) b3 rfl rfl (by decide) λs4 F4 b4=>?_
 have aE:box s4 (3,W)=V ⟨40,7,U,U,[w.init.c]⟩:=b4
 have c1:=F4.kq (F3.kq b1)
 have l4:L s4=4096:=(F4.len.trans F3.len).trans hl
 have bY:=b.wo.th
 simp only[akP,u0,u1,c1,rk,aj,dc,cT,↓uL]
 refine AP (by decide) (by decide) (by rw[l4];decide) (by omega) λP s5 o NR F5 b5=>?_
 have d1:=F5.kq c1
 have d3:=F5.kq aE
 have l5:L s5=4096:=F5.len.trans l4
 simp only[akO,u0,u1,d1,rk,aj,cT,↓uL]
 have E:((3,W):Id)≠P:=λe=>by rw[<-e] at o;simp at o
 have ak:((1,1):Id)≠P:=λe=>by rw[<-e] at o;simp at o
 refine yV (L w.ac) (λk _ Y=>∃ds f,Lk ds (cY w k).c/\box Y (1,1)=V ⟨43,15,U,U,[w.c]⟩/\box Y (3,W)=V ⟨40,7,U,U,[ds]⟩/\lJ Y P 33 4 102 (L w.aQ.ay) (λt=>(aOu w.ac k t).map cb) f/\L Y=4096) ⟨w.init.c,λ_=> .l [] U U,⟨rfl,rfl⟩,d1,d3,⟨by rw[b5,Q0];rfl,λi _=>bc.nil,λi j _ _ _ q H=>by simp[aA] at H,λi _ q H=>by simp[aA] at H⟩,l5⟩ ?_
 rintro k _ Y hk ⟨ds,f,D,e1,e3,O,aa⟩
 have a8:=Bi (oC D)
 simp only[akS,aI,au,u0,u1,ix,rk,bh,e1,aj,↓uL]
 refine⟨λh=>⟨bA h,?_⟩,λh=>trivial⟩
 have g:=aL h
 refine so aa λv6 Y1 F1 N1 g6=>?_
 refine cy (y:=7) (cs:=aP.c (gd w.ac k)) g6 rfl rfl (by decide) λN F2 aM=>?_
 have h6:box N (6,v6)=V ⟨64,7,U,U,[aP.c (gd w.ac k)]⟩:=aM
 have B:Fx Y N []:=F1.tn F2 N1.no
 have h1:=B.kq e1
 have C:=B.kq e3
 have O2:=O.keep B (by simp) (by simp)
 have l2:L N=4096:=B.len.trans aa
 simp only[akN,u0,u1,h1,C,h6,a8,rk,aj,↓uL]
 simp only[jM,kU,jt,zN,CU,D.arg,Ac]
 obtain⟨x1,x2,x3⟩:=b.sn k g
 have ab:=(b.wo.wo.en k g).2
 refine⟨⟨ab,b.wo.wo.co,b.wo.th,b.wo.sy k g,x1,x2,x3,b.ev _ (dB g)⟩,?_⟩
 rintro r ⟨z,rfl,A⟩
 refine⟨.inl ?_,?_⟩
 ·simp only[nA,List.any_cons,List.any_nil,x9 D]
  rfl
 have a0:oc w.aQ (cY w k) (gd w.ac k)=cY w (k+1):=by simp only[cY,nD,ab,aly]
 rw[a0] at A
 have ar:=Bi (oC A)
 simp only[oJ,pG,aY,↓uL]
 refine so l2 λv7 Y3 aw aB g7=>?_
 refine cy (y:=7) (cs:=z) g7 rfl (oC A) (by decide) λY4 az aN=>?_
 have i7:box Y4 (7,v7)=V ⟨40,7,U,U,[z]⟩:=by
  rw[aN];simp
 have v:Fx N Y4 []:=aw.tn az aB.no
 have i1:=v.kq h1
 have i3:=v.kq C
 have S:=v.kq h6
 have u:=O2.keep v (by simp) (by simp)
 have ae:L Y4=4096:=v.len.trans l2
 have n:=(b.wo.wo.named g).2
 have s:(gd w.ac k).aq.toNat<L w.aQ.ay:=by have:=n.1;have:=n.2;omega
 have X:aF (L w.init.count) (gd w.ac k).aq:=by rw[b.ct.1];exact n
 simp+contextual only[akM,u0,u1,S,rk,aj,fh,eE,Ca,O9,mn,brl,↓uL]
 refine C7 2 (λ_=>True) trivial λj hj _=>?_
 simp+contextual only[akQ,aI,au,u0,u1,↓uL]
 refine⟨λZ=>?_,λZ=>?_⟩
 ·have h2:j<2:=by simp at Z;omega
  rw[ax2 h2]
  have K:∀x∈(if j=0 then(gd w.ac k).dI else(gd w.ac k).ep),x∈(gd w.ac k).dI\/x∈(gd w.ac k).ep:=by
   intro x K;split at K;exact .inl K;exact .inr K
  have bu:L (if j=0 then(gd w.ac k).dI else(gd w.ac k).ep)<4611686018427387904:=by have:=b.ev _ (dB g);split;exact this.1;exact this.2
  generalize(if j=0 then(gd w.ac k).dI else(gd w.ac k).ep)=l at*
  simp only[u0,u1,cT,↓uL]
  refine C7 (L l) (λ_=>True) trivial λm hm _=>?_
  simp+contextual only[akR,aI,au,u0,u1,ix,rk,i1,S,aj,bh,↓uL]
  refine⟨λC=>⟨bA C,?_⟩,λ_=>gS h2 (by decide) trivial⟩
  have G:=aL C
  have a1:=b.rd k g _ (K _ (dB G))
  have bT:=b.ct.2 _ (ii X)
  generalize aX:gd l m-gd w.init.count (gd w.ac k).aq.toNat=m' at*
  have hw:dq.wrap m'=m':=eM (by omega) (by omega)
  have hO:=u.gr _ s
  simp only[u0,u1,ix,rk,dc,alr,aX,hw,↓uL]
  refine⟨X,?_⟩
  by_cases hz:0<=m'
  ·have M:Q (0<=m')=U:=aID hz
   obtain⟨y1,y2⟩:=a1.2.2 (by omega)
   have an:aF (L (aOu w.ac k (gd w.ac k).aq.toNat)) m':=⟨hz,y1⟩
   have a2:Q ((L (aOu w.ac k (gd w.ac k).aq.toNat):Int)<=m')=I:=aPy (by omega)
   simp only[u0,u1,M,jA,S,rk,aj,u.ix n,u.ld s,u.ln s,bJ,a2,giB hO an,y2,fh,kz,qc,eE,Ca,O9,mn,↓uL]
   exact gS G (by omega) trivial
  ·have M:Q (0<=m')=I:=aPy hz
   simp only[u0,u1,M,jN,show∀x,mL (bv I) x (bv I)=V (bv I) fromλ_=>rfl,eE,Ca,O9,mn,↓uL]
   exact gS G (by omega) trivial
 ·simp+contextual only[u0,u1,S,rk,aj,dc,u.ix n,u.ld s,iz,bQ,↓uL]
  have bW:L (aOu w.ac k (gd w.ac k).aq.toNat)<=k:=by simp only[aOu,bJ];exact wF
  refine anO (by':=1) (zs:=BE) (d:=102) (e:=4) (new:=[[bv (fR (gd w.ac k))]]) u n rfl (by rw[ae];decide) (by intro r R;obtain⟨y,_,rfl⟩:=dN.1 R;rfl) (by intro r R;simp at R;subst R;rfl) (by simp only[bJ,bZ,vw];omega) λa p Y5 f5 O5 a6 F ha bV _ _=>?_
  have j1:=F _ _ i1 ak (.inl rfl)
  have j3:=F _ _ i3 E (.inl rfl)
  have al:((7,v7):Id)≠P:=λe=>by rw[<-e] at o;simp at o
  have j7:=F _ _ i7 al (.inl rfl)
  simp only[akL,↓uL]
  refine dT ?_ ?_
  ·have aZ:=u.pl _ s
   rcases u.gr _ s with⟨_,T⟩|⟨⟨k4,u4⟩,T,_⟩
   ·rw[T];rfl
   ·have h4:=aZ (k4,u4) (by rw[T];simp[aA])
    simp only at h4
    subst h4
    rw[T];rfl
  simp only[u0,u1,j7,ar,↓uL]
  refine cy (y:=7) (cs:=z) j3 rfl (oC A) (by rw[oC D];decide) λY6 F6 o3=>?_
  have a7:box Y6 (3,W)=V ⟨40,7,U,U,[z]⟩:=by
   rw[o3];have:=oC D;simp[this]
  have o1:=F6.kq j1
  have O6:=O5.keep F6 (by simpa using E.symm) (λi hi q H ad=>by
   simp at ad;subst ad
   have:=O5.pl i hi _ H
   simp at this)
  simp only[akK,au,cS,aY,↓uL]
  refine yU g ⟨z,f5,A,o1,a7,?_,(F6.len.trans a6).trans ae⟩
  have aV:(λj=>if j=(gd w.ac k).aq.toNat then(aOu w.ac k j).map cb++[[bv (fR (gd w.ac k))]] else(aOu w.ac k j).map cb)=λt=>(aOu w.ac (k+1) t).map cb:=by
   funext j
   have h0:=n.1
   simp only[aOu,Bb]
   by_cases hj:j=(gd w.ac k).aq.toNat
   ·rw[bX hj,bX (by omega)];simp
   ·rw[cj hj,cj (by omega)];simp
  rw[<-aV]
  exact O6
def Gq:FT:=mT PZ
def azL{w Lw K}:=oK Gq PZ w Lw K (j:=by simp+contextual only[ij,j9])
def apq:dO:=(41,Gq)::apo
def Rh:eJ apq:=it (pg PZ) (Rf)
def Do:=ai @azL<|@Ac
def avi:=bi 2 []
def akG b a R:=aB 0 a b λt3=>aw 6 a t3 λt4=>fV EU a [t4] λe=>az e (aB 0 a b) λC=>az e (aw 6 a C) λj=>az e (aB 7 a b) λk=>az e (aw 7 a k) λl=>az e (fV Gp a [j,l]) λm=>aD e m (bv I) λc=>aT c 14 a b λn=>az c (aJ a n) λo=>az c (aO .leq o (iv 16)) λp=>aD c p (bv I) λf=>az f (aw 15 a b) λq=>az f (fV aUv a [q]) λr=>aD f r (bv I) λg=>az g (aw 15 a b) λs=>az g (fV Gu a [s]) λt=>aD g t (bv I) λh=>az h (aw 15 a b) λu=>az h (fV Gt a [u]) λv=>aD h v (bv I) λd=>az d (aB 7 a b) λw=>az d (aw 7 a w) λx=>az d (fV Gs a [x]) λy=>aD d y (bv I) λi=>az i (aw 15 a b) λz=>az i (fV Gq a [z]) λA=>aD i A (bv I) λB=>aE R a [B]
def aMN{b:List AV}{R:d7}(l0:L b=15)(h:H1 43 15 1 b λc d=>akG c d R):Ct 15 [.a b] R:=z1 avi Rh Tryz.func15 l0 h
def amF{l:List Int}:jC l↔l.Pairwise (·<·):=by rw[List.pairwise_iff_getElem];refine⟨λh i j a c b=>?_,λh i a=>?_⟩;have:=AD h b c;rwa [bT a,bT c] at this;rw[bT a,bT (show i<L l by omega)];exact h i (i+1) (by omega) a (by omega)
def an1:∀{l:List Int} {t x:Int},x∈fk l t->x=t\/x∈l
 |[],t,x,h=>by simp[fk] at h;exact .inl h
 |y::l,t,x,h=>by
  simp only[fk] at h
  split at h
  ·rcases eW.1 h with h|h
   ·exact .inr (by simp[h])
   ·rcases an1 h with h|h
    ·exact .inl h
    ·exact .inr (by simp[h])
  ·split at h
   ·exact .inr h
   ·rcases eW.1 h with h|h
    ·exact .inl h
    ·exact .inr h
def kQ.ni{n:Nat}{s:aW}(h:kQ n s)(i:Int)(t:bF):kQ n (ni s i t):=⟨h.lo,h.dn,by simp[Ab.ni];exact h.th,h.rd⟩
def kQ.lk{n:Nat}{s:aW}(h:kQ n s)(i:Int):jC (cH s i).bk/\∀x∈(cH s i).bk,aF n x:=by unfold cH gd;rw[eI];cases a:s.ak[i.toNat]? with|none=>exact⟨λi b=>nl b (Nat.not_lt_zero _),λx a=>nl a ql⟩|some x=>exact h.rd x (List.mem_of_getElem? a)
def kQ.lC{n:Nat}{s:aW}(h:kQ n s)(i:Int)(l:cg)(b:jC l.bk/\∀x∈l.bk,aF n x):kQ n (lC s i l):=by refine⟨by simp[Ab.lC];exact h.lo,h.dn,h.th,λx a=>?_⟩;simp only[Ab.lC] at a;rcases List.mem_or_eq_of_mem_set a with a|rfl;exact h.rd x a;exact b
def kQ.marks{n:Nat}:∀{l:List Int} {s:aW},kQ n s->kQ n (l.foldl (λs u=>Ab.ni s u {fA s u with cQ:=4}) s)|[],_,h=>h|u::l,s,h=>kQ.marks (l:=l) (h.ni u _)
def kQ.apply{n:Nat}{s:aW}(h:kQ n s)(w:br)(t a bb lD:Int)(A:aF n t):kQ n (cU w s t a bb lD).1:=by unfold cU;by_cases p:a=1;rw[bX p];exact h.ni _ _;rw[cj p];by_cases q:a=2;rw[bX q];exact h.ni _ _;rw[cj q];by_cases r:a=6\/a=10;rw[bX r];exact h.lC _ _ (h.lk _);rw[cj r];by_cases u:a=7\/a=11;rw[bX u];exact h.lC _ _ (h.lk _);rw[cj u];by_cases v:a=8;rw[bX v];refine h.lC _ _ ?_;have o:=(h.lk bb).1;rw[show mP (cH s bb).bk [t]=fk (cH s bb).bk t from Ro o];refine⟨Nz o,λx b=>?_⟩;rcases an1 b with rfl|b;exact A;exact(h.lk bb).2 x b;rw[cj v];by_cases y:a=9;rw[bX y];refine h.lC _ _ ⟨amF.2 ((amF.1 (h.lk bb).1).filter _),λx b=>?_⟩;exact(h.lk bb).2 x (jW.1 b).1;rw[cj y];by_cases c:a=12;rw[bX c];exact⟨h.lo,h.dn,h.th,h.rd⟩;rw[cj c];by_cases d:a=13;rw[bX d];exact⟨h.lo,h.dn,h.th,h.rd⟩;rw[cj d];by_cases e:a=14;rw[bX e];exact h.ni _ _;rw[cj e];by_cases f:a=15;rw[bX f];exact h.ni _ _;rw[cj f];by_cases g:a=16;rw[bX g];refine(h.lC _ _ ?_).ni _ _;exact h.lk _;rw[cj g];by_cases i:a=17;rw[bX i];refine(h.lC _ _ ?_).ni _ _;exact h.lk _;rw[cj i];by_cases j:a=18;rw[bX j];by_cases z:fO s bb=[];rw[bX z];exact h;rw[cj z];exact h.ni _ _;rw[cj j];by_cases k:a=19;rw[bX k];exact h.marks;rw[cj k];by_cases l:a=20;rw[bX l];exact h.ni _ _;rw[cj l];by_cases m:a=22;rw[bX m];exact⟨h.lo,by simp;exact h.dn,h.th,h.rd⟩;rw[cj m];exact h
def Bq{w:am}(h:Po w=U):∀k,k<=L w.ac->kQ (L w.aQ.ay) (cY w k).bm:=by obtain⟨m,s⟩:=aQA h;obtain⟨c,z,v,y,b⟩:=tC m;intro k;induction k with|zero=>intro _;have n:=m;simp only[oh,cP,fK,o8] at n;have g:=n.2;simp only[ny,bN,lS] at g;have o:L w.init.count=L w.aQ.ay:=(by simp only[fN,bN,lS] at b;exact b.2.2.2);refine⟨c.sy.lo,c.sy.dn,c.sy.th,λl r=>?_⟩;have q:l∈w.init.bm.ak:=r;obtain⟨j,p,rfl⟩:=ou q;have e:=(g.1 j p).2;rw[bT p] at e;refine⟨λi a=>?_,λx t=>?_⟩;have:=(e (i+1) a).2 (by omega);simpa using this;obtain⟨i,a,rfl⟩:=ou t;have:=(e i a).1;simp only[nO,bN] at this;have:=dX.1 this.1;rw[bT a,o] at this;exact this|succ k u=>intro A;have d:=s k (by omega);simp only[cY,nD,d,aly,oc];refine(u (by omega)).apply _ _ _ _ _ ?_;simp only[C1,eH,cP] at d;have f:=d.1;simp only[aOL,cP,fK] at f;exact dX.1 f.1.1.1.2
def vd{w:am}(d:hU w)(h:Po w=U):vL w:=by obtain⟨a,b⟩:=aQA h;refine⟨Rr d h,?_,λk e=>Bq h k (by omega)⟩;simp only[oh,cP,fK] at a;have c:=a.1.1.1.1.1;simp only[mQ,bN,eH] at c;have b:=c.1;simp only[wJ,cP,o8] at b;omega
def kJ(t:Int):List aP->Nat->List Nat|[],_=>[]|e::l,i=>(if e.aq=t then[i] else[])++kJ t l (i+1)
def QH{t:Int}:∀{a b:List aP} {i:Nat},kJ t (a++b) i=kJ t a i++kJ t b (i+L a)
 |[],b,i=>by simp[kJ]
 |e::a,b,i=>by
  simp only[zn,kJ,cC]
  rw[QH (a:=a)]
  congr 3
  simp;omega
def Qz{t:Int}:∀{l:List aP} {i m:Nat},m<L (kJ t l i)->pS t l m i=((gd (kJ t l i) m:Nat):Int)
 |[],i,m,h=>by simp[kJ] at h
 |e::l,i,m,h=>by
  simp only[pS]
  by_cases a:e.aq=t
  ·rw[bX a]
   cases m with
   |zero=>simp[kJ,a,gd]
   |succ m=>
    rw[cj (by omega),show((m+1:Nat):Int)-1=(m:Int) by omega]
    rw[Qz (l:=l) (i:=i+1) (m:=m) (by simp[kJ,a] at h;omega)]
    simp[kJ,a,gd]
  ·rw[cj a]
   rw[Qz (l:=l) (i:=i+1) (m:=m) (by simp[kJ,a] at h;exact h)]
   simp[kJ,a]
def anU{t:Int}{l:List aP}:∀{k:Nat},k<=L l->kJ t (l.take k) 0=fj l t k
 |0,_=>by simp[kJ,fj]
 |k+1,h=>by
  have a:k<L l:=by omega
  rw[iJ a,<-bT a,QH,anU (k:=k) (by omega),Bb]
  congr 1
  have:L (l.take k)=k:=by simp;omega
  rw[this]
  by_cases b:(gd l k).aq=t<;>simp[kJ,b]
def aEv{w:am}{t:Int}{k m:Nat}(b:k<=L w.ac)(c:m<L (fj w.ac t k)):oV w t m=(gd (fj w.ac t k) m:Nat):=by have a:kJ t w.ac 0=fj w.ac t k++kJ t (w.ac.drop k) k:=(by(conv=>lhs;rw[<-aq0 k w.ac]);rw[QH,anU b];congr 2;simp;omega);unfold oV;rw[Qz (by rw[a];simp;omega),a];unfold gd;rw[eI,List.getElem?_append_left c,eI]
def aBC{l:List Int}{i j:Nat}{v:Int}(h:i≠j):gd (l.set i v) j=gd l j:=by simp only[gd,eI];rw[oq h]
def axw{w:am}(h:Po w=U){t:Int}(c:aF (L w.init.count) t):∀k,k<=L w.ac->gd (cY w k).count t.toNat=gd w.init.count t.toNat+(L (fj w.ac t k):Int)/\L (cY w k).count=L w.init.count:=by obtain⟨e,l⟩:=aQA h;obtain⟨v,r,p,q,s⟩:=tC e;intro k;induction k with|zero=>intro _;simp[cY,fj]|succ k n=>intro y;obtain⟨i,m⟩:=n (by omega);have b:=l k (by omega);have f:=(wK e k (by omega)).cn;have a:t.toNat<L (cY w k).count:=(by have:=c.1;have:=c.2;omega);simp only[cY,nD,b,aly,oc,zq];refine⟨?_,m⟩;simp only[C1,eH,cP] at b;have d:=b.1;simp only[aOL,cP,fK] at d;have j:=dX.1 d.1.1.1.2;have o:=j.1;have u:=c.1;rw[Bb];by_cases g:(gd w.ac k).aq=t;rw[g,bX rfl,P8,List.length_singleton];have x:=f _ (dB a);rw[show gd ((cY w k).count.set t.toNat (dq.wrap (gd (cY w k).count t.toNat+1))) t.toNat=dq.wrap (gd (cY w k).count t.toNat+1) from by simp[gd,a]];rw[eM (by omega) (by omega),i];omega;rw[cj g,cL];rw[aBC (by omega)];exact i
def anT{w:am}(z:hU w)(h:Po w=U):xv w:=by obtain⟨f,F⟩:=aQA h;obtain⟨B,O,M,N,m⟩:=tC f;have D:=vd z h;have i:L w.init.count=L w.aQ.ay:=(by simp only[fN,bN,lS] at m;exact m.2.2.2);have g:∀c∈w.init.count,0<=c/\c<=400:=λc E=>(by have:=B.cn c E;omega);refine⟨D,z.2.2.1,λk q=>?_,⟨i,g⟩,λk q x a=>?_⟩;have:=wK f k (by omega);have:=this.ce;have:=(wK f k (by omega)).fu;have:=(wK f k (by omega)).co;omega;have p:=F k q;simp only[C1,eH,cP] at p;have v:=p.2.2.2.2;have s:=p.1;simp only[aOL,cP,fK] at s;have u:=dX.1 s.1.1.1.2;simp only[u7,cP,fK,lS] at v;obtain⟨⟨G,H⟩,T⟩:=v;have n:aF (L w.init.count) (gd w.ac k).aq:=(by rw[i];exact u);obtain⟨C,S⟩:=axw h n k (by omega);have K:=g _ (ii n);have R:=wF (l:=w.ac) (t:=(gd w.ac k).aq) (k:=k);have A:1<=x/\x<gd (cY w k).count (gd w.ac k).aq.toNat:=(by rcases a with a|a;obtain⟨j,d,rfl⟩:=ou a;have:=G j d;rw[uJ,bT d] at this;exact⟨this.1,this.2.1⟩;obtain⟨j,d,rfl⟩:=ou a;have:=H j d;rw[uJ,bT d] at this;exact⟨this.1,this.2.1⟩);rw[C] at A;refine⟨by omega,by omega,λP=>?_⟩;have o:(((gd w.ac k).aq.toNat:Nat):Int)=(gd w.ac k).aq:=kA u.1;have r:(x-gd w.init.count (gd w.ac k).aq.toNat).toNat<L (fj w.ac (gd w.ac k).aq k):=(by omega);have b:qU w (gd w.ac k).aq x=U:=(by have y:=h;simp only[Po,bN,eH,lS] at y;have:=y.2.2 k q;simp only[xH,cP,fK,lS] at this;rcases a with a|a;exact this.1.2 x a;exact this.2 x a);simp only[qU] at b;rw[aPy (by omega),lG] at b;have e:=aEv (w:=w) (t:=(gd w.ac k).aq) (k:=k) (by omega) r;rw[kA (by omega)] at e;rw[e] at b;simp only[bN,bh] at b;refine⟨?_,?_⟩;simp only[aOu,bJ,o];omega;simp only[aOu,o];rw[bT (by simpa using r),xi,<-bT r];exact b.2
def PW(w:am)(H:Po w=U/\hU w):Ct 15 [.a w.c] (·=bv U):=by refine aMN rfl λs2 s v h0=>?_;obtain⟨g,q⟩:=H;have m:=anT q g;have n:=g;simp only[Po,bN,eH,lS] at n;obtain⟨k,r,_⟩:=n;obtain⟨d,O,o,p,P⟩:=tC k;have e:=k;simp only[oh,cP,fK,o8] at e;obtain⟨⟨⟨⟨⟨K,h⟩,v3⟩,M⟩,N⟩,u⟩:=e;have R:=q;have S:=m.wo.th;obtain⟨g1,W,i,X⟩:L w.init.count=L w.aQ.ay/\L w.init.bm.ay=L w.aQ.ay/\L w.init.bm.ak=L w.aQ.ak/\L w.init.bm.done=L w.aQ.bU:=(by have b:=h;simp only[fN,bN,lS] at b;obtain⟨T,x,y,A⟩:=iY b.1;exact⟨b.2.2.2,A,x,y⟩);have Z:L w.init.bU=L w.aQ.bU:=(by have b:=h;simp only[fN,bN,lS] at b;exact b.2.2.1);have f:=u;simp only[ny,bN,lS] at f;have z:(L w.ac:Int)<=16:=(by omega);have t:aN (V 15) w.c=V (.a w.c):=rfl;have B:L w.ac<1000000/\L w.init.count<1000000:=(by omega);have hS:=Bq g 0 (by omega);have E:uZ w=U/\(∀j,j<L w.init.bm.ay->pX w j=U)/\L w.init.count=L w.init.bm.ay/\L w.init.bm.ay<1000000/\L w.init.bm.ak=L w.aQ.ak/\(∀c∈w.aQ.bC,aF (L w.aQ.ak) c.eg):=⟨N,f.2.2,by omega,by omega,i,o⟩;have D:ny w=U/\L w.init.bm.ak=L w.aQ.ak/\L w.aQ.ak<=4/\L w.init.bm.ay<=4/\(∀l∈w.init.bm.ak,L l.bk<=100):=⟨u,i,by have:=d.sy.lo;omega,by omega,λl s=>by have:=d.sy.rd l s;omega⟩;have C:(∀j,j<L w.init.bU->L w.init.bm.done=L w.init.bU/\(gd w.init.bm.done j=I->gd w.init.bU j=0))/\L w.init.bU=L w.init.bm.done/\L w.init.bU<1000000:=(by refine⟨λj G=>⟨by omega,λF=>?_⟩,by omega,by have:=d.fu;omega⟩;have:=r j G;simp only[Ae,F,kN,iw,o8,aNS] at this;exact this);simp+contextual only[akG,u0,u1,v,t,rk,aj,ar,Do,K,h,M,p,z,B,E,D,C,m,y6,aNV,iw,ru,mn,O9,vb,↓uL];exact⟨by have:=d.sy.dn;omega,trivial⟩
def xc:FT:=mT PW
def azI{w Lw K}:=oK xc PW w Lw K (j:=by simp+contextual only[ij,j9])
def apr:dO:=(15,xc)::apq
def apf:eJ apr:=it (pg PW) (Rh)
def amm:=ai @azI<|@Do
def aty:=bi 5 []
def aaG b c a R:=aw 15 a b λt3=>fV xc a [t3] λt4=>cf t4 λd=>ah d (aE R a [(.l [] U U)]) (aw 15 a b λe=>fV Fq a [e,c] λf=>aE R a [f])
def aKZ{b:List AV}{c:AV}{R:d7}(l0:L b=15)(h:H1 43 15 2 b λd e=>aaG d c e R):Ct 43 [.a b,c] R:=z1 aty apf Tryz.func43 l0 h
def Oq(w:am)(q:Int)(f:Po w=U/\hU w/\L w.ac<100000/\(aF (L w.ac) q->((gd w.ac q.toNat).kind=23->aF (L w.init.bm.done) (gd w.ac q.toNat).bb/\aF (L w.init.bU) (gd w.ac q.toNat).bb)/\((gd w.ac q.toNat).kind=3->aF (L w.init.cells) (gd w.ac q.toNat).bb))):Ct 43 [.a w.c,iv q] (λr=>∃t,r= .l ((dx w q).map ci) t U):=by refine aKZ rfl λk j d i=>?_;obtain⟨g,e,p1,h⟩:=f;have b:aN (V 15) w.c=V (.a w.c):=rfl;simp+contextual only[aaG,u0,u1,d,b,rk,aj,ar,amm,g,e,y6,mn,fh,eE,Ca,O9,↓uL];refine⟨⟨p1,h⟩,?_⟩;intro t;exact⟨rfl,t,rfl⟩
def Fp:FT:=pn Oq
def ayp{w q Lw K}:=rQ Fp Oq w q Lw K
def aps:dO:=(43,Fp)::apr
def apg:eJ aps:=it (aN0 Oq) (apf)
def Dp:=ai @ayp<|@amm
def atc:=bi 62 [(4,([3,20],[1,19])),(10,([3,26],[1,4,19,20,25])),(13,([3],[1,4,19,20,25,26])),(18,([3,43],[1,42])),(25,([3,55],[1,53,54])),(28,([3],[1,53,54,55])),(33,([3,71],[1,69,70])),(36,([3],[1,69,70,71])),(41,([3,83],[1,9,69,70,71,81,82])),(48,([3,98],[1,96,97])),(51,([3],[1,96,97,98])),(56,([3,113],[1,13,96,97,98,111,112]))]
def HY a(f:aG)(c:bu) g b d:=∀_:Rg,aV (gt a 1) (iv 1) λe=>f [(gt b 0),e] d/\c [(gt b 0),e] d<c a g
def YL c a b(J15:aG):=aO .neq (gt c 1) (gt a 1) λf=>ah f (rV (bM aBH aM7 [(0,(iv 1)),(1,(gt c 1)),(2,(gt a 1))]) λg=>eV (aX aON 1 b [(0,g)]) λh d=>eV (j5 51 aBH 24 d 37 (gt a 0) h) λi e=>J15 [i] e) (J15 [(gt a 0)] b)
def YP h c(j:aG)(g:bu) k e f a b:=∀_:Rg,aU (gt a 1) h λi=>ah i (jV 13 (HY a e f b) (YL c a b)) (aV (gt c 1) (iv 1) λd=>j [(gt a 0),d] b/\g [(gt a 0),d] b<g c k)
def YF a(f:aG)(b:bu) g d c:=aV (gt a 1) (iv 1) λe=>f [d,e] c/\b [d,e] c<b a g
def HZ a(f:aG)(c:bu) g b d:=∀_:Rg,aV (gt a 1) (iv 1) λe=>f [(gt b 0),e] d/\c [(gt b 0),e] d<c a g
def YG d a(c:aG) b:=aw 7 b d λg=>fV zc b [g] λh=>ah h (rV (bM aBH aM7 [(0,(iv 3)),(1,(gt a 1))]) λi=>eV (aX aON 1 b [(0,i)]) λj e=>eV (j5 51 aBH 24 e 66 (gt a 0) j) λk f=>c [k] f) (c [(gt a 0)] b)
def YM b f c d:=ao 7 b f (gt c 1) λg=>aw 7 b g λh=>eV (bs 64 y8 b 8) λa e=>sV (aK 7 e a h) (YG a c d)
def aUz a(f:aG)(c:bu) g b d:=∀_:Rg,aV (gt a 1) (iv 1) λe=>f [(gt b 0),e] d/\c [(gt b 0),e] d<c a g
def YH a(f:aG)(b:bu) g d c:=aV (gt a 1) (iv 1) λe=>f [d,e] c/\b [d,e] c<b a g
def YU i h c(e:aG) d f a b:=∀_:Rg,aU (gt a 1) i λj=>ah j (ao 1 b h (gt a 1) λk=>aM b k λl=>rV (bM aBH aM7 [(0,(iv 4)),(1,(gt c 1)),(2,l)]) λm=>eV (aX aON 1 b [(0,m)]) λn g=>eV (j5 51 aBH 24 g 92 (gt a 0) n) (YH a d f b)) (e [(gt a 0)] b)
def YI e(c:aG) b k a:=aw 7 a e λf=>fV zc a [f] λg=>cf g λh=>ah h (c [(gt b 0)] a) (aw 15 a k λi=>fV Fp a [i,(gt b 1)] λd=>aJ a d λj=>lV [(gt b 0),(iv 0)] a (YU j d b c))
def YN b f c i d:=ao 7 b f (gt c 1) λg=>aw 7 b g λh=>eV (bs 64 y8 b 10) λa e=>sV (aK 7 e a h) (YI a d c i)
def H7 a(f:aG)(c:bu) g b d:=∀_:Rg,aV (gt a 1) (iv 1) λe=>f [(gt b 0),e] d/\c [(gt b 0),e] d<c a g
def YJ a(f:aG)(b:bu) g d c:=aV (gt a 1) (iv 1) λe=>f [d,e] c/\b [d,e] c<b a g
def YW g f m(n:aG) c d a b:=∀_:Rg,aU (gt a 1) g λh=>ah h (ao 1 b f (gt a 1) λi=>aM b i λj=>rV (bM aBH aM7 [(0,(iv 5)),(1,(gt m 1)),(2,j)]) λk=>eV (aX aON 1 b [(0,k)]) λl e=>eV (j5 51 aBH 24 e 122 (gt a 0) l) (YJ a c d b)) (n [(gt a 0)] b)
def YK b(e:aG) c m a:=aw 7 a b λf=>fV aTR a [f] λg=>cf g λh=>ah h (e [(gt c 0)] a) (aw 15 a m λi=>ab 2 a b λj=>ab 0 a b λk=>fV aTS a [i,j,k] λd=>aJ a d λl=>lV [(gt c 0),(iv 0)] a (YW l d c e))
def YO b f c i e:=ao 7 b f (gt c 1) λg=>aw 7 b g λh=>eV (bs 64 y8 b 14) λa d=>sV (aK 7 d a h) (YK a e c i)
def YV f e h R c d a b:=∀_:Rg,aU (gt a 1) f λg=>ah g (jV 51 (H7 a c d b) (YO b e a h)) (aE R b [(gt a 0)])
def YS h g c R e f a b:=∀_:Rg,aU (gt a 1) h λi=>ah i (jV 36 (aUz a e f b) (YN b g a c)) (ab 14 b c λd=>aJ b d λj=>lV [(gt a 0),(iv 0)] b (YV j d c R))
def YR h g d R e f a b:=∀_:Rg,aU (gt a 1) h λi=>ah i (jV 28 (HZ a e f b) (YM b g a)) (ab 14 b d λc=>aJ b c λj=>lV [(gt a 0),(iv 0)] b (YS j c d R))
def YQ h d R e f a b:=∀_:Rg,aU (gt a 1) h λi=>ah i (rV (bM aBH aM7 [(0,(iv 2)),(1,(gt a 1))]) λj=>eV (aX aON 1 b [(0,j)]) λk g=>eV (j5 51 aBH 24 g 50 (gt a 0) k) (YF a e f b)) (ab 14 b d λc=>aJ b c λl=>lV [(gt a 0),(iv 0)] b (YR l c d R))
def YT j c R h i b a:=∀_:Rg,aU (gt b 1) j λk=>ah k (ab 14 a c λd=>aJ a d λe=>lV [(gt b 0),(iv 0)] a (YP e b h i a)) (ab 14 a c λf=>aJ a f λg=>lV [(gt b 0),(iv 0)] a (YQ g c R))
def YE a b R:=ab 14 b a λt4=>aJ b t4 λc=>lV [(.l [] U U),(iv 0)] b (YT c a R)
def aKD{b:List AV}{R:d7}(l0:L b=15)(h:H1 43 15 1 b λc d=>YE c d R):Ct 16 [.a b] R:=z1 atc apg Tryz.func16 l0 h
abbrev uF:List Nat:=[37,50,66,92,122]
abbrev nf2:List Nat:=[37,50,66,92,122,8,10,14]
def NT(w:am)(hp:kB w/\L w.init.bm.ay<=4/\fN w.aQ w.init=U/\Po w=U/\hU w):Ct 16 [.a w.c] (λr=>∃t,r= .l ((cw w).map ap.c) t U):=by refine aKD rfl λs2 hl b1 h0=>?_;obtain⟨H,bs,D,aJ,aE⟩:=hp;have bl:=H.ev;simp+contextual only[YE,u0,u1,b1,rk,ix,aj,↓uL];have z:∀k m:Nat,k<=16->m<=100->k*m<=16*100:=λk m a b=>Nat.mul_le_mul a b;refine iu (λa i=>[a,iv i]) 1 uF nf2 51 3 (L w.ac) (λk=>(lr (L w.ac) k).map ap.c) (λ_=>True) trivial (.inl ⟨rfl,rfl⟩) λk a Y o _ hG hF=>?_;have c1:box Y (1,1)=_:=hF.bt b1;have ae:L Y=4096:=(by rw[hF.1,hl]);simp only[YT,aI,u0,u1,c1,rk,ix,aj,bh,↓uL];refine⟨λh=>?_,λh=>?_⟩;have s:=aL h;have bo:=AS (L w.ac) k;have bp:=z k (L w.ac) (by omega) (by omega);refine iu (λa i=>[a,iv i]) 1 uF nf2 51 3 (L w.ac) (λm=>(lr (L w.ac) k++nB k m).map ap.c) (λ_=>True) trivial (by simpa[nB] using hG) λm a2 X R _ q g=>?_;have v:L X=4096:=(by rw[g.1,ae]);have bq:=Qu k m;simp only[YP,aI,di,u0,u1,YL,xy,↓uL];refine⟨λf=>⟨λe=>?_,λe=>?_⟩,λf=>?_⟩;refine rF ⟨1,k,m⟩ q (by decide) (by rw[v];decide) (by simp;omega) λa3 E G x=>?_;simp only[HY,aI,au,fE,cS,aY,↓uL];refine C0 (mk:=λa i=>[a,iv i]) (λ_ _=>rfl) (aL f) (by omega) trivial ?_ (g.trans (x.mono (by decide)));rw[nB,uP,bX e,<-cC];exact G;simp only[HY,aI,au,fE,cS,aY,↓uL];refine C0 (mk:=λa i=>[a,iv i]) (λ_ _=>rfl) (aL f) (by omega) trivial ?_ g;rw[nB,uP,e];simpa[nB] using q;have d:m=L w.ac:=bP R (bw f);subst d;refine C0 (mk:=λa i=>[a,iv i]) (λ_ _=>rfl) s (by omega) trivial ?_ (hF.trans g);rw[lr,tq];exact q;have j:k=L w.ac:=bP o (bw h);subst j;have bi:=AS (L w.ac) (L w.ac);have bj:=z (L w.ac) (L w.ac) (by omega) (by omega);clear h o;refine iu (λa i=>[a,iv i]) 1 uF nf2 51 3 (L w.ac) (λk=>(lr (L w.ac) (L w.ac)++mK k).map ap.c) (λ_=>True) trivial (by simpa[mK] using hG) λk a1 Y1 o _ N K=>?_;have c2:box Y1 (1,1)=_:=K.bt c1;have P:L Y1=4096:=(by rw[K.1,ae]);simp only[YQ,aI,u0,u1,c2,rk,ix,aj,CW,↓uL];refine⟨λh=>?_,λh=>?_⟩;refine rF ⟨2,k,0⟩ N (by decide) (by rw[P];decide) (by simp[AT];omega) λa3 E G x=>?_;simp only[YF,au,fE,cS,aY,↓uL];refine C0 (mk:=λa i=>[a,iv i]) (λ_ _=>rfl) (aL h) (by omega) trivial ?_ (K.trans (x.mono (by decide)));rw[mK,an5,<-cC];exact G;have j:k=L w.ac:=bP o (bw h);subst j;clear h o;generalize aa:lr (L w.ac) (L w.ac)++mK (L w.ac)=P2 at N;have a8:L P2<=1700:=(by rw[<-aa,P8,AT];omega);refine iu (λa i=>[a,iv i]) 1 uF nf2 51 3 (L w.ac) (λk=>(P2++kh w.ac k).map ap.c) (λ_=>True) trivial (by simpa[kh] using N) λk a2 X o _ q g=>?_;have c3:box X (1,1)=_:=g.bt c2;have v:L X=4096:=(by rw[g.1,P]);simp only[YR,aI,di,YM,u0,u1,c3,rk,ix,aj,bh,↓uL];refine⟨λh=>⟨bA h,?_⟩,λh=>?_⟩;refine eF rfl rfl (by decide) (by rw[v];decide) λE x b3=>?_;have bn:=AU w.ac k;simp+contextual only[YG,u0,u1,b3,rk,aj,ar,Dp,CW,↓uL];refine⟨λe=>?_,λe=>?_⟩;refine rF ⟨3,k,0⟩ (q.fr x (by decide)) (by decide) (by rw[x.1,v];decide) (by simp;omega) λa3 F G F4=>?_;simp only[HZ,aI,au,fE,cS,aY,↓uL];refine C0 (mk:=λa i=>[a,iv i]) (λ_ _=>rfl) (aL h) (by omega) trivial ?_ (g.trans ((x.mono (by decide)).trans (F4.mono (by decide))));rw[kh,uP,bX e,<-cC];exact G;simp only[HZ,aI,au,fE,cS,aY,↓uL];refine C0 (mk:=λa i=>[a,iv i]) (λ_ _=>rfl) (aL h) (by omega) trivial ?_ (g.trans (x.mono (by decide)));rw[kh,uP,e];simpa[kh] using q.fr x (by decide);have j:k=L w.ac:=bP o (bw h);subst j;clear h o;generalize ab:P2++kh w.ac (L w.ac)=T at q;have a9:L T<=1800:=(by have:=AU w.ac (L w.ac);rw[<-ab,P8];omega);refine iu (λa i=>[a,iv i]) 1 uF nf2 51 3 (L w.ac) (λk=>(T++ki w k).map ap.c) (λ_=>True) trivial (by simpa[ki] using q) λk a3 E o _ C B=>?_;have c4:box E (1,1)=_:=B.bt c3;have A:L E=4096:=(by rw[B.1,v]);simp only[YS,aI,di,YN,u0,u1,c4,rk,ix,aj,bh,↓uL];refine⟨λh=>⟨bA h,?_⟩,λh=>?_⟩;refine eF rfl rfl (by decide) (by rw[A];decide) λY5 n b5=>?_;have s:=aL h;have Z:box Y5 (1,1)=_:=n.bt c4;have bk:=vU w (k:Int);have br:=AW w k;have aG:=z k (1+L w.ac) (by omega) (by omega);have aK:aN (V 15) w.c=V (.a w.c):=rfl;simp+contextual only[YI,u0,u1,b5,Z,aK,rk,aj,ar,Dp,bh,↓uL];refine⟨λe=>?_,λe=>?_⟩;simp only[aUz,aI,au,fE,cS,aY,↓uL];refine C0 (mk:=λa i=>[a,iv i]) (λ_ _=>rfl) s (by omega) trivial ?_ (B.trans (n.mono (by decide)));have:dx w (k:Int)=[]:=(by have hr:fR (gd w.ac k)=I:=(by simpa using e);simp[dx,hr]);rw[ki,tq,this,mU,cL];exact C.fr n (by decide);refine⟨⟨aJ,aE,by omega,λhq=>?_⟩,λt'=>?_⟩;obtain⟨S,_⟩:=H.named (k:=k) s;simp only[fN,bN,lS] at D;obtain⟨f1,f2,f3,f4⟩:=iY D.1;exact⟨λaF=>⟨by rw[f3];exact oU S (by omega) (by omega),by rw[D.2.2.1];exact oU S (by omega) (by omega)⟩,λaF=>by rw[D.2.1];exact qP S (by omega) (by omega)⟩;refine iu (λa i=>[a,iv i]) 1 uF nf2 51 3 (L (dx w (k:Int))) (λm=>(T++ki w k++((dx w (k:Int)).take m).map λb=>(⟨4,(k:Int),b⟩:ap)).map ap.c) (λ_=>True) trivial (by simpa using C.fr n (by decide)) λm a4 F R _ u p=>?_;have y:L F=4096:=(by rw[p.1,n.1,A]);simp only[YU,aI,u0,u1,tf,rk,qM,bh,xy,↓uL];refine⟨λf=>⟨bA f,?_⟩,λf=>?_⟩;have d:=aL f;refine rF ⟨4,k,gd (dx w (k:Int)) m⟩ u (by decide) (by rw[y];decide) (by simp;omega) λa5 bg g5 av=>?_;simp only[YH,au,fE,cS,aY,↓uL];refine C0 (mk:=λa i=>[a,iv i]) (λ_ _=>rfl) d (by omega) trivial ?_ (p.trans (av.mono (by decide)));rw[EC d];exact g5;have d:m=L (dx w (k:Int)):=bP R (bw f);subst d;simp only[aUz,aI,au,fE,cS,aY,↓uL];refine C0 (mk:=λa i=>[a,iv i]) (λ_ _=>rfl) s (by omega) trivial ?_ (B.trans ((n.mono (by decide)).trans p));rw[ki,tq,<-cC];rw[gV] at u;exact u;have j:k=L w.ac:=bP o (bw h);subst j;clear h o;generalize ad:T++ki w (L w.ac)=W at C;have ba:L W<=3500:=(by have:=AW w (L w.ac);have:=z (L w.ac) (1+L w.ac) (by omega) (by omega);rw[<-ad,P8];omega);have hN:cw w=W++jp w (L w.ac):=(by rw[cw,aa,ab,ad]);refine iu (λa i=>[a,iv i]) 1 uF nf2 51 3 (L w.ac) (λk=>(W++jp w k).map ap.c) (λ_=>True) trivial (by simpa[jp] using C) λk a4 F o _ u p=>?_;have Z:box F (1,1)=_:=p.bt c4;have y:L F=4096:=(by rw[p.1,A]);simp only[YV,aI,di,YO,u0,u1,Z,rk,ix,aj,bh,↓uL];refine⟨λh=>⟨bA h,?_⟩,λh=>?_⟩;refine eF rfl rfl (by decide) (by rw[y];decide) λY5 n b5=>?_;have s:=aL h;have c6:box Y5 (1,1)=_:=n.bt Z;have bv:=Qv w k;have aG:=z k (L w.init.bm.ay+L w.ac) (by omega) (by omega);simp+contextual only[YK,u0,u1,b5,c6,rk,aj,ar,Dp,↓uL];refine⟨λe=>?_,λe=>⟨⟨by omega,by omega⟩,λt'=>?_⟩⟩;simp only[H7,aI,au,fE,cS,aY,↓uL];refine C0 (mk:=λa i=>[a,iv i]) (λ_ _=>rfl) s (by omega) trivial ?_ (p.trans (n.mono (by decide)));have:pR w k=[]:=(by simp at e;simp[pR,e]);rw[jp,tq,this,cL];exact u.fr n (by decide);have aD:pN (gd w.ac k)=U:=(by simpa using e);have bu:=Rp w (gd w.ac k).bb (gd w.ac k).aq;refine iu (λa i=>[a,iv i]) 1 uF nf2 51 3 (L (mR w (gd w.ac k).bb (gd w.ac k).aq)) (λm=>(W++jp w k++((mR w (gd w.ac k).bb (gd w.ac k).aq).take m).map λb=>(⟨5,(k:Int),b⟩:ap)).map ap.c) (λ_=>True) trivial (by simpa using u.fr n (by decide)) λm a6 Y6 R _ O M=>?_;have ao:L Y6=4096:=(by rw[M.1,n.1,y]);simp only[YW,aI,u0,u1,tf,rk,qM,bh,xy,↓uL];refine⟨λf=>⟨bA f,?_⟩,λf=>?_⟩;have d:=aL f;refine rF ⟨5,k,gd (mR w (gd w.ac k).bb (gd w.ac k).aq) m⟩ O (by decide) (by rw[ao];decide) (by simp;omega) λa7 Y7 g7 F7=>?_;simp only[YJ,au,fE,cS,aY,↓uL];refine C0 (mk:=λa i=>[a,iv i]) (λ_ _=>rfl) d (by omega) trivial ?_ (M.trans (F7.mono (by decide)));rw[EC d];exact g7;have d:m=L (mR w (gd w.ac k).bb (gd w.ac k).aq):=bP R (bw f);subst d;simp only[H7,aI,au,fE,cS,aY,↓uL];refine C0 (mk:=λa i=>[a,iv i]) (λ_ _=>rfl) s (by omega) trivial ?_ (p.trans ((n.mono (by decide)).trans M));rw[jp,tq,<-cC,pR,bX aD];rw[gV] at O;exact O;have j:k=L w.ac:=bP o (bw h);subst j;rw[hN];exact qV u λt=>⟨t,rfl⟩
def BQ:FT:=om NT
def ax6{w Lw K}:=qz BQ NT w Lw K
def apt:dO:=(16,BQ)::aps
def Ey:eJ apt:=it (rj NT) (apg)
def Lb:=ai @ax6<|@Dp
section
attribute[local irreducible] aX
abbrev aRc:List AV:=[(.l [] U U),(.l [] U U),(.l [] U U),(.l [] U U),(.l [] U U),(.l [] U U)]
abbrev bhN:List AV:=[(.l [] U U)]
abbrev aYp:List AV:=[(.l [] I I)]
abbrev aOQ:List AV:=[(.l [] U U),(.l [] U U),(.l [] U U),(.l [] U U),(.l [] U U),(.l [] U U),(iv 0),(.l [] U U),(iv 0),(.l [] U U),(.l [] U U),(.l [] U U),(.l [] U U),(.l [] U U),(.l [] U U)]
abbrev a72:List AV:=[(.l [] I I),(.l [] I I),(.l [] I I),(.l [] I I),(.l [] I I),(.l [] I I),(iv 0),(.l [] I I),(iv 0),(.l [] I I),(.l [] I I),(.l [] I I),(.l [] I I),(.l [] I I),(.l [] I I)]
abbrev aPb:List AV:=[(.l [] U U),(.l [] U U),(.l [] U U),(.l [] U U),(.l [] U U),(.l [] U U),(.l [] U U)]
abbrev aTN:List AV:=[(iv 0),(iv 0),(iv 0),(iv 0),(iv 0),(.l [] I I),(.l [] I I)]
abbrev aTP:List AV:=[(.l [] U U),(iv 0)]
abbrev NY:List AV:=[(.l [] U U),(iv 0),(.l [] U U),(.l [] U U),(.l [] U U),(.l [] U U),(.l [] U U)]
abbrev aOR:List AV:=[(.l [] U U),(.l [] U U),(.l [] U U),(.l [] U U),(.l [] U U),(.l [] U U),(.l [] U U)]
abbrev aTJ:List AV:=[(sv []),(iv 0),(iv 0),(bv I),(iv 0)]
abbrev aR7:List AV:=[(sv []),(bv I)]
abbrev aR8:List AV:=[(sv []),(iv 0)]
abbrev aTK:List AV:=[(iv 0),(iv 0),(iv 0)]
abbrev aP6:List AV:=[(.l [] U U),(.l [] U U)]
abbrev aYq:List AV:=[(iv 0),(iv 0)]
abbrev a7Y:List AV:=[(iv 0),(iv 0)]
abbrev aTO:List AV:=[(iv 0),(.l [] U U)]
abbrev a7Z:List AV:=[(iv 0),(.l [] I I)]
abbrev aoD:List AV:=[(iv 0),(.l [] U U),(.l [] U U),(iv 0)]
abbrev a70:List AV:=[(iv 0),(.l [] I I),(.l [] I I),(iv 0)]
abbrev aPM:List AV:=[(sv []),(iv 0),(.l [] U U),(.l [] U U)]
abbrev aTM:List AV:=[(sv []),(iv 0),(.l [] I I),(.l [] I I)]
abbrev a74:List AV:=[(.l [] U U),(.l [] U U),(.l [] U U),(.l [] U U),(.l [] U U),(.l [] U U),(.l [] U U),(.l [] U U),(iv 0),(iv 0)]
abbrev Py:List AV:=[(iv 0),(iv 0),(iv 0),(iv 0),(iv 0),(iv 0)]
abbrev a71:List AV:=[(iv 0),(iv 0),(iv 0),(iv 0),(iv 0),(iv 0)]
abbrev a75:List AV:=[(.s (.pointer J)),(iv 0),(iv 0),(bv I),(bv I),(bv I),(bv I),(.l [] U U)]
abbrev aOP:List AV:=[(iv 0),(iv 0),(sv []),(.l [] U U)]
abbrev aRb:List AV:=[(iv 0),(iv 0),(sv []),(.l [] I I)]
abbrev A4:List AV:=[(iv 0),(iv 0),(sv []),(sv []),(.l [] U U),(iv 0),(iv 0),(sv []),(.l [] U U),(.l [] U U),(.l [] U U)]
abbrev aNA:List AV:=[(iv 0),(iv 0),(sv []),(sv []),(.l [] I I),(iv 0),(iv 0),(sv []),(.l [] I I),(.l [] I I),(.l [] I I)]
abbrev a76:List AV:=[(.l [] U U),(.l [] U U),(iv 0),(.l [] U U),(.l [] U U),(.l [] U U)]
abbrev aPa:List AV:=[(iv 0),(iv 0),(sv []),(iv 0),(iv 0),(sv [])]
abbrev bhM:List AV:=[(iv 0),(iv 0),(sv []),(iv 0),(iv 0),(sv [])]
def a9k:=bi 5 []
def a1q a s0 R:=ah a (aE R s0 [(iv 1)]) (aE R s0 [(iv 0)])
def bgS{a:AV}{R:d7}(h:H0 λs0=>a1q a s0 R):Ct 248 [a] R:=z0 a9k Ey Tryz.func248 h
def a9i:=bi 8 [(5,([5],[]))]
def a1n R s0 a:=∀_:Rg,aE R s0 [(gt a 0)]
def a1o a c(b:cG):=aU a (iv 0) λt4=>ah t4 (aV a c λd=>b [d]) (b [a])
def a1m b a s0 R:=aU a (iv 1) λt1=>ah t1 (aE R s0 [(iv 0)]) (aO .rem b a λc=>jR 5 (a1n R s0) (a1o c a))
def bgQ{a:AV}{b:AV}{R:d7}(h:H0 λs0=>a1m a b s0 R):Ct 226 [a,b] R:=z0 a9i Ey Tryz.func226 h
def a9o:=bi 2 []
def a1M a s0 R:=aO .geq a (iv 1) λt1=>fm t1 a λt3=>az t1 (aO .leq t3 (iv 5)) λb=>aD t1 b (bv I) λc=>aE R s0 [c]
def bgW{a:AV}{R:d7}(h:H0 λs0=>a1M a s0 R):Ct 196 [a] R:=z0 a9o Ey Tryz.func196 h
def a9A:=bi 2 []
def a2y a b s0 R:=aO .geq a (iv 0) λt1=>fm t1 a λt3=>fm t1 b λc=>az t1 (aU t3 c) λd=>aD t1 d (bv I) λe=>aE R s0 [e]
def bg7{a:AV}{b:AV}{R:d7}(h:H0 λs0=>a2y a b s0 R):Ct 167 [a,b] R:=z0 a9A Ey Tryz.func167 h
def a9C:=bi 10 [(3,([5],[0,1]))]
def a2E s0 b e R(d:cG)(m1:fD) a:=∀_:Rg,aJ s0 b λf=>aU (gt a 0) f λt3=>ah t3 (ao 2 s0 b (gt a 0) λt4=>ab 0 s0 t4 λg=>bf g e λh=>ah h (aE R s0 [(gt a 0)]) (aV (gt a 0) (iv 1) λc=>d [c]/\m1 [c]<m1 a)) (aE R s0 [(iv (-1))])
def a2D a b s0 R:=lR [(iv 0)] (a2E s0 a b R)
def bg9{a:AV}{b:AV}{R:d7}(h:H0 λs0=>a2D a b s0 R):Ct 176 [a,b] R:=z0 a9C Ey Tryz.func176 h
def a9l:=bi 10 [(3,([5],[1,2]))]
def a1s b d j R(i:cG)(e:fD) a:=∀_:Rg,ab 0 b d λk=>aJ b k λl=>aU (gt a 0) l λm=>ah m (ab 0 b d λn=>ao 5 b n (gt a 0) λf=>ab 0 b f λg=>bf g j λh=>ah h (aE R b [(gt a 0)]) (aV (gt a 0) (iv 1) λc=>i [c]/\e [c]<e a)) (aE R b [(iv (-1))])
def a1r a b c R:=lR [(iv 0)] (a1s c a b R)
def bgT{b:List AV}{c:AV}{R:d7}(l0:L b=6)(h:H1 31 6 2 b λd e=>a1r d c e R):Ct 236 [.a b,c] R:=z1 a9l Ey Tryz.func236 l0 h
def a9n:=bi 21 [(3,([5],[1,4])),(8,([13],[1,4])),(15,([37],[1,4]))]
def a1G a b R t4 c:=∀_:Rg,ah (gt c 0) (ab 2 a b λf=>eV (aX bH 1 a [(0,f)]) λg d=>aE R d [g]) (bf t4 (iv 9) λh=>ah h (ab 2 a b λi=>ab 3 a b λj=>eV (aX bH 2 a [(0,i),(1,j)]) λk e=>aE R e [k]) (aE R a [(.l [] U U)]))
def a1J t4(a:cG):=bf t4 (iv 8) λb=>ah b (a [b]) (bf t4 (iv 26) λc=>a [c])
def a1I b a R t4 c:=∀_:Rg,ah (gt c 0) (ab 1 b a λg=>ab 2 b a λh=>eV (aX bH 2 b [(0,g),(1,h)]) λi d=>aE R d [i]) (bf t4 (iv 4) λj=>ah j (ab 1 b a λk=>ab 2 b a λl=>ab 3 b a λm=>eV (aX bH 3 b [(0,k),(1,l),(2,m)]) λn e=>aE R e [n]) (bf t4 (iv 7) λo=>ah o (ab 1 b a λp=>ab 3 b a λq=>eV (aX bH 2 b [(0,p),(1,q)]) λr f=>aE R f [r]) (jR 15 (a1G b a R t4) (a1J t4))))
def a1L t4(a:cG):=bf t4 (iv 2) λb=>ah b (a [b]) (bf t4 (iv 3) λc=>a [c])
def a1H b a R t4 c:=∀_:Rg,ah (gt c 0) (ab 1 b a λe=>eV (aX bH 1 b [(0,e)]) λf d=>aE R d [f]) (jR 8 (a1I b a R t4) (a1L t4))
def a1K t4(a:cG):=bf t4 (iv 1) λb=>ah b (a [b]) (bf t4 (iv 6) λc=>ah c (a [c]) (bf t4 (iv 10) λd=>ah d (a [d]) (bf t4 (iv 27) λe=>a [e])))
def a1F a b R:=ab 0 b a λt4=>jR 3 (a1H b a R t4) (a1K t4)
def bgV{b:List AV}{R:d7}(l0:L b=6)(h:H1 209 6 1 b λc d=>a1F c d R):Ct 122 [.a b] R:=z1 a9n Ey Tryz.func122 l0 h
def a9I:=bi 5 []
def a24 a s0 R:=aU a (iv 1) λt1=>ic t1 a λt3=>aC t1 (aO .gtr t3 (iv 100)) λb=>aD t1 (bv U) b λc=>ah c (aE R s0 [(iv 0)]) (aE R s0 [a])
def bhe{a:AV}{R:d7}(h:H0 λs0=>a24 a s0 R):Ct 228 [a] R:=z0 a9I Ey Tryz.func228 h
def a9O:=bi 6 []
def aVt b R t1 a:=aU b (iv 6) λt3=>ic t3 b λf=>aC t3 (aO .gtr f (iv 28)) λg=>aD t3 (bv U) g λh=>ah h (aE R a [(iv 0)]) (aO .sub b (iv 6) λc=>ao 1 a t1 c λd=>aM a d λe=>aE R a [e])
def aVs a s0 R:=eV (aX bH 23 s0 [(0,(iv 3)),(1,(iv 3)),(2,(iv 4)),(3,(iv 4)),(4,(iv 5)),(5,(iv 6)),(6,(iv 7)),(7,(iv 8)),(8,(iv 9)),(9,(iv 10)),(10,(iv 11)),(11,(iv 12)),(12,(iv 13)),(13,(iv 14)),(14,(iv 15)),(15,(iv 16)),(16,(iv 18)),(17,(iv 19)),(18,(iv 20)),(19,(iv 21)),(20,(iv 22)),(21,(iv 23)),(22,(iv 2))]) (aVt a R)
def bhn{a:AV}{R:d7}(h:H0 λs0=>aVs a s0 R):Ct 198 [a] R:=z0 a9O Ey Tryz.func198 h
def a83:=bi 10 [(3,([5],[0,1]))]
def a0q s0 b e R(d:cG)(m1:fD) a:=∀_:Rg,aJ s0 b λf=>aU (gt a 0) f λt3=>ah t3 (ao 6 s0 b (gt a 0) λt4=>ab 2 s0 t4 λg=>bf g e λh=>ah h (aE R s0 [(gt a 0)]) (aV (gt a 0) (iv 1) λc=>d [c]/\m1 [c]<m1 a)) (aE R s0 [(iv (-1))])
def a0p a b s0 R:=lR [(iv 0)] (a0q s0 a b R)
def bgB{a:AV}{b:AV}{R:d7}(h:H0 λs0=>a0p a b s0 R):Ct 204 [a,b] R:=z0 a83 Ey Tryz.func204 h
def a88:=bi 10 [(3,([5],[0,1]))]
def a0D s0 b e R(d:cG)(m1:fD) a:=∀_:Rg,aJ s0 b λf=>aU (gt a 0) f λt3=>ah t3 (ao 4 s0 b (gt a 0) λt4=>ab 0 s0 t4 λg=>bf g e λh=>ah h (aE R s0 [(gt a 0)]) (aV (gt a 0) (iv 1) λc=>d [c]/\m1 [c]<m1 a)) (aE R s0 [(iv (-1))])
def a0C a b s0 R:=lR [(iv 0)] (a0D s0 a b R)
def bgG{a:AV}{b:AV}{R:d7}(h:H0 λs0=>a0C a b s0 R):Ct 205 [a,b] R:=z0 a88 Ey Tryz.func205 h
def a8V:=bi 9 []
def a0e a s0 R:=bf a (iv 1) λt1=>ic t1 a λt3=>aC t1 (bf t3 (iv 2)) λj=>aD t1 (bv U) j λk=>ah k (aE R s0 [(iv 0)]) (aO .geq a (iv 3) λc=>fm c a λd=>az c (aO .leq d (iv 5)) λe=>aD c e (bv I) λf=>ah f (aE R s0 [(iv 1)]) (aO .geq a (iv 6) λb=>fm b a λg=>az b (aO .leq g (iv 18)) λh=>aD b h (bv I) λi=>ah i (aE R s0 [(iv 2)]) (aE R s0 [(iv (-1))])))
def bgt{a:AV}{R:d7}(h:H0 λs0=>a0e a s0 R):Ct 260 [a] R:=z0 a8V Ey Tryz.func260 h
def a80:=bi 2 []
def a0l a c R:=ab 0 c a λt4=>bf t4 (iv 0) λe=>aT e 1 c a λf=>az e (bf f (iv 0)) λg=>aD e g (bv I) λd=>aT d 2 c a λh=>az d (bf h (sv [])) λi=>aD d i (bv I) λb=>aT b 3 c a λj=>az b (aJ c j) λk=>az b (bf k (iv 0)) λl=>aD b l (bv I) λm=>aE R c [m]
def bgy{b:List AV}{R:d7}(l0:L b=4)(h:H1 217 4 1 b λc d=>a0l c d R):Ct 250 [.a b] R:=z1 a80 Ey Tryz.func250 l0 h
def a9c:=bi 5 []
def a0S a b s0 R:=aO .neq a (iv 0) λt1=>ah t1 (aE R s0 [a]) (aE R s0 [b])
def bgK{a:AV}{b:AV}{R:d7}(h:H0 λs0=>a0S a b s0 R):Ct 232 [a,b] R:=z0 a9c Ey Tryz.func232 h
def a9b:=bi 5 []
def a0R a s0 R:=ah a (aE R s0 [(iv 7)]) (aE R s0 [(iv 0)])
def bgJ{a:AV}{R:d7}(h:H0 λs0=>a0R a s0 R):Ct 235 [a] R:=z0 a9b Ey Tryz.func235 h
def a8U:=bi 2 []
def a0d b R t1 c:=rV (bM aOP alz [(0,(iv 1)),(1,b)]) λt3=>sV (aK 4 c t1 t3) λa=>aw 4 a t1 λd=>aE R a [d]
def a0c a s0 R:=eV (bs 217 aOP s0 2) (a0d a R)
def bgs{a:AV}{R:d7}(h:H0 λs0=>a0c a s0 R):Ct 126 [a] R:=z0 a8U Ey Tryz.func126 h
def a8T:=bi 2 []
def a0b b R t1 c:=rV (bM aOP alz [(0,(iv 2)),(2,b)]) λt3=>sV (aK 4 c t1 t3) λa=>aw 4 a t1 λd=>aE R a [d]
def a0a a s0 R:=eV (bs 217 aOP s0 2) (a0b a R)
def bgr{a:AV}{R:d7}(h:H0 λs0=>a0a a s0 R):Ct 214 [a] R:=z0 a8T Ey Tryz.func214 h
def a8N:=bi 2 []
def aUG s0 R:=rV (bM aPa C2 [(0,(iv 1)),(2,(sv [120]))]) λt1=>rV (bM aPa C2 [(0,(iv 1)),(2,(sv [121])),(4,(iv 1))]) λc=>rV (bM aPa C2 [(0,(iv 2)),(2,(sv [118]))]) λt3=>rV (bM aPa C2 [(0,(iv 1)),(2,(sv [113])),(3,(iv 2))]) λt4=>rV (bM aPa C2 [(0,(iv 3)),(2,(sv [109]))]) λd=>rV (bM aPa C2 [(0,(iv 3)),(2,(sv [110]))]) λe=>rV (bM aPa C2 [(0,(iv 4)),(2,(sv [114]))]) λf=>rV (bM aPa C2 [(0,(iv 5)),(2,(sv [99])),(5,(sv [109]))]) λg=>rV (bM aPa C2 [(0,(iv 6)),(2,(sv [102]))]) λh=>eV (aX bhM 9 s0 [(0,t1),(1,c),(2,t3),(3,t4),(4,d),(5,e),(6,f),(7,g),(8,h)]) λb a=>aE R a [b]
def bgk{R:d7}(h:H0 λs0=>aUG s0 R):Ct 123 [] R:=z0 a8N Ey Tryz.func123 h
def a9Z:=bi 2 []
def aVS s0 R:=eV (aX bH 43 s0 [(0,(iv 3)),(1,(iv 3)),(2,(iv 3)),(3,(iv 3)),(4,(iv 3)),(5,(iv 4)),(6,(iv 4)),(7,(iv 4)),(8,(iv 4)),(9,(iv 4)),(10,(iv 5)),(11,(iv 5)),(12,(iv 5)),(13,(iv 6)),(14,(iv 6)),(15,(iv 6)),(16,(iv 7)),(17,(iv 7)),(18,(iv 7)),(19,(iv 8)),(20,(iv 9)),(21,(iv 10)),(22,(iv 11)),(23,(iv 12)),(24,(iv 13)),(25,(iv 14)),(26,(iv 14)),(27,(iv 15)),(28,(iv 16)),(29,(iv 16)),(30,(iv 17)),(31,(iv 17)),(32,(iv 18)),(33,(iv 18)),(34,(iv 19)),(35,(iv 20)),(36,(iv 1)),(37,(iv 1)),(38,(iv 2)),(39,(iv 21)),(40,(iv 22)),(41,(iv 23)),(42,(iv 23))]) λt1 a=>aE R a [t1]
def bhz{R:d7}(h:H0 λs0=>aVS s0 R):Ct 112 [] R:=z0 a9Z Ey Tryz.func112 h
def a9S:=bi 21 [(3,([9],[0,1,2,3])),(11,([10,11,12],[0,1,2,3,9])),(14,([10,11],[0,1,2,3,9,12]))]
def a4q b(e:cG)(c:fD) a:=∀_:Rg,aV (gt b 2) (iv 1) λd=>e [(gt a 0),(gt a 1),d]/\c [(gt a 0),(gt a 1),d]<c b
def a4r s0 d a C D B(e:cG):=ao 7 s0 d (gt a 2) λE=>ab 0 s0 E λf=>aO .neq f C λg=>ah g (e [(gt a 0),(gt a 1)]) (ic (gt a 1) (gt a 0) λh=>ic (gt a 1) D λi=>ic (gt a 1) (gt B 0) λj=>aC (gt a 1) (ao 1 s0 i j) λk=>aC (gt a 1) (aM s0 k) λl=>aC (gt a 1) (bf h l) λm=>ic (gt a 1) m λb=>fm b d λn=>fm b (gt a 2) λo=>az b (ao 7 s0 n o) λp=>aT b 1 s0 p λq=>az b (bf q (iv 3)) λr=>fm b r λc=>ic c d λs=>ic c (gt a 2) λt=>aC c (ao 7 s0 s t) λu=>bn c 1 s0 u λv=>aC c (bf v (iv 23)) λw=>az b (aD c (bv U) w) λx=>aC (gt a 1) (aD b x (bv I)) λy=>aD (gt a 1) (bv U) y λz=>aV (gt a 0) (iv 1) λA=>e [A,z])
def a4s h s0 g i j b R(e:cG)(m1:fD) f k a:=∀_:Rg,aU (gt a 2) h λl=>ah l (jR 14 (a4q a f k) (a4r s0 g a i j b)) (cf (gt a 1) λd=>ah d (aE R s0 [(bv I)]) (aV (gt b 0) (iv 1) λc=>e [c]/\m1 [c]<m1 b))
def a4t s0 b e d f R c m1 a:=∀_:Rg,aJ s0 b λg=>aU (gt a 0) g λt3=>ah t3 (lR [(iv 0),(bv I),(iv 0)] (a4s e s0 d f b a R c m1)) (aE R s0 [(bv U)])
def a4p a b c d s0 R:=lR [(iv 0)] (a4t s0 d b a c R)
def bhq{a:AV}{b:AV}{c:AV}{d:AV}{R:d7}(h:H0 λs0=>a4p a b c d s0 R):Ct 75 [a,b,c,d] R:=z0 a9S Ey Tryz.func75 h
def a9v:=bi 10 [(3,([5],[0,1]))]
def a2j s0 c i R(h:cG)(m1:fD) a:=∀_:Rg,rV (cO s0 c) λj=>aB 0 s0 j λt3=>ab 2 s0 t3 λk=>aJ s0 k λl=>aU (gt a 0) l λm=>ah m (rV (cO s0 c) λn=>aB 0 s0 n λo=>ab 2 s0 o λd=>ao 2 s0 d (gt a 0) λe=>ab 0 s0 e λf=>bf f i λg=>ah g (fe R s0 [(gt a 0)]) (aV (gt a 0) (iv 1) λb=>h [b]/\m1 [b]<m1 a)) (fe R s0 [(iv (-1))])
def aU6 a b s0 R:=lR [(iv 0)] (a2j s0 a b R)
def bfT{a b:AV}{s0:ae}{R:be}(h:aU6 a b s0 R):EB 210 [a,b] s0 R:=zB a9v Ey Tryz.func210 h
def bg3{a:AV}{b:AV}{s0:ae}{R:be}(c:L s0=4096)(h:aU6 a b s0 R):EB 210 [a,b] s0 R:=by refine bfT ?_;exact h
end
inductive fc where
 |mk(op n:Int)(name:ByteArray)(l:List fc)
def fc.op:fc->Int| .mk a _ _ _=>a
def fc.n:fc->Int| .mk _ a _ _=>a
def fc.name:fc->ByteArray| .mk _ _ a _=>a
def fc.l:fc->List fc| .mk _ _ _ a=>a
instance:Inhabited fc:=⟨.mk 0 0 ⟨#[]⟩ []⟩
mutual
def fc.c:fc->List AV| .mk op n a l=>[iv op,iv n,st a, .l (fc.cr l) I I]
def fc.cr:List fc->List (List AV)|[]=>[]|e::l=>fc.c e::fc.cr l
end
def fc.cr_eq:∀{l:List fc},fc.cr l=l.map fc.c
 |[]=>by simp only[fc.cr,mU]
 |e::l=>by simp only[fc.cr,ji,fc.cr_eq]
def aoH{x:fc}:fc.c x=[iv x.op,iv x.n,st x.name,sl fc.c x.l]:=by cases x;simp only[fc.c,fc.cr_eq,fc.op,fc.n,fc.name,fc.l,sl]
inductive eo where
 |mk(op line:Int)(name arg:ByteArray)(index:List fc)(expr:fc)(body els:List eo)
def eo.op:eo->Int| .mk a _ _ _ _ _ _ _=>a
def eo.line:eo->Int| .mk _ a _ _ _ _ _ _=>a
def eo.name:eo->ByteArray| .mk _ _ a _ _ _ _ _=>a
def eo.arg:eo->ByteArray| .mk _ _ _ a _ _ _ _=>a
def eo.index:eo->List fc| .mk _ _ _ _ a _ _ _=>a
def eo.expr:eo->fc| .mk _ _ _ _ _ a _ _=>a
def eo.body:eo->List eo| .mk _ _ _ _ _ _ a _=>a
def eo.els:eo->List eo| .mk _ _ _ _ _ _ _ a=>a
instance:Inhabited eo:=⟨.mk 0 0 ⟨#[]⟩ ⟨#[]⟩ [] default [] []⟩
mutual
def eo.c:eo->List AV| .mk op e b arg index a d els=>[iv op,iv e,st b,st arg,sl fc.c index,iv a.op,iv a.n,st a.name,sl fc.c a.l, .l (eo.cr d) I I, .l (eo.cr els) I I]
def eo.cr:List eo->List (List AV)|[]=>[]|e::l=>eo.c e::eo.cr l
end
def eo.cr_eq:∀{l:List eo},eo.cr l=l.map eo.c
 |[]=>by simp only[eo.cr,mU]
 |e::l=>by simp only[eo.cr,ji,eo.cr_eq]
def apT{x:eo}:eo.c x=[iv x.op,iv x.line,st x.name,st x.arg,sl fc.c x.index,iv x.expr.op,iv x.expr.n,st x.expr.name,sl fc.c x.expr.l,sl eo.c x.body,sl eo.c x.els]:=by cases x;simp only[eo.c,eo.cr_eq,eo.op,eo.line,eo.name,eo.arg,eo.index,eo.expr,eo.body,eo.els,sl]
structure w6 where
 kind:Int
 line:Int
 name:ByteArray
 size:Int
 init:Int
 on:ByteArray
 deriving Inhabited
def w6.c(x:w6):List AV:=[iv x.kind,iv x.line,st x.name,iv x.size,iv x.init,st x.on]
structure xt where
 name:ByteArray
 line:Int
 locs:List ByteArray
 body:List eo
 deriving Inhabited
def xt.c(x:xt):List AV:=[st x.name,iv x.line,sl cs x.locs,sl eo.c x.body]
structure xr where
 A7:List w6
 ay:List xt
 deriving Inhabited
def xr.c(x:xr):List AV:=[sl w6.c x.A7,sl xt.c x.ay]
structure lF where
 op:Int
 a:Int
 b:Int
 k:Int
 n:Int
 site:Int
 deriving Inhabited
def lF.c(x:lF):List AV:=[iv x.op,iv x.a,iv x.b,iv x.k,iv x.n,iv x.site]
structure A2 where
 li:Int
 No:List lF
 deriving Inhabited
def A2.c(x:A2):List AV:=[iv x.li,sl lF.c x.No]
structure qt where
 aQ:br
 ay:List A2
 deriving Inhabited
def qt.c(x:qt):List AV:=x.aQ.c++[sl A2.c x.ay]
structure pt where
 pc:Int
 li:List Int
 lj:List (List Int)
 ac:Int
 deriving Inhabited
def pt.c(x:pt):List AV:=[iv x.pc,sl ci x.li,sl cl x.lj,iv x.ac]
structure pm where
 bm:aW
 cells:List Int
 bU:List Int
 ay:List pt
 deriving Inhabited
def pm.c(x:pm):List AV:=x.bm.c++[sl ci x.cells,sl ci x.bU,sl pt.c x.ay]
structure O3 where
 aQ:br
 ac:List aP
 deriving Inhabited
def O3.c(x:O3):List AV:=x.aQ.c++[sl aP.c x.ac]
def aN9{x:fc}:L (fc.c x)=4:=by rw[aoH];rfl
def WV{x:eo}:L (eo.c x)=11:=by rw[apT];rfl
section
variable{K:d7}{Y:ae}{i:Int}
def bcY{l:List fc}:rV (cz 4 Y (sl fc.c l) (iv i)) K=(aF (L l) i/\K (.q (fc.c (gd l i.toNat)))):=aBz λ_=>aN9
def bc0{l:List eo}:rV (cz 11 Y (sl eo.c l) (iv i)) K=(aF (L l) i/\K (.q (eo.c (gd l i.toNat)))):=aBz λ_=>WV
def bcX{l:List w6}:rV (cz 6 Y (sl w6.c l) (iv i)) K=(aF (L l) i/\K (.q (w6.c (gd l i.toNat)))):=aBz λ_=>rfl
def bc2{l:List xt}:rV (cz 4 Y (sl xt.c l) (iv i)) K=(aF (L l) i/\K (.q (xt.c (gd l i.toNat)))):=aBz λ_=>rfl
def bcZ{l:List lF}:rV (cz 6 Y (sl lF.c l) (iv i)) K=(aF (L l) i/\K (.q (lF.c (gd l i.toNat)))):=aBz λ_=>rfl
def bc1{l:List A2}:rV (cz 2 Y (sl A2.c l) (iv i)) K=(aF (L l) i/\K (.q (A2.c (gd l i.toNat)))):=aBz λ_=>rfl
def bc3{l:List pt}:rV (cz 4 Y (sl pt.c l) (iv i)) K=(aF (L l) i/\K (.q (pt.c (gd l i.toNat)))):=aBz λ_=>rfl
def aPR{a b:Int}:wl .rem 0 [] (iv a) (iv b)=if b≠0 then V (iv (a.tmod b)) else J:=by by_cases h:b=0<;>simp[wl,zP,h]
def a5N{a b:Int}:wl .quo 0 [] (iv a) (iv b)=if b≠0 then V (iv (dq.wrap (a.tdiv b))) else J:=by by_cases h:b=0<;>simp[wl,zP,h]
end
def y9:=ai @bcY<|ai @bc0<|ai @bcX<|ai @bc2<|ai @bcZ<|ai @bc1<|@bc3
mutual
def a53:∀{x y:fc},fc.c x=fc.c y->x=y
 | .mk a b c d, .mk e f g j,h=>by
  simp only[fc.c,kO,AV.s.injEq,mW,mX,AV.l.injEq,mn,vm] at h
  obtain⟨rfl,rfl,rfl,h⟩:=h
  rw[a6d h]
def a6d:∀{x y:List fc},fc.cr x=fc.cr y->x=y
 |[],[],_=>rfl
 |[],_::_,h=>by simp only[fc.cr] at h;cases h
 |_::_,[],h=>by simp only[fc.cr] at h;cases h
 |a::l,b::m,h=>by
  simp only[fc.cr,kO] at h
  rw[a53 h.1,a6d h.2]
end
def aOD{x y:fc}:(fc.c x=fc.c y)=(x=y):=vp ⟨a53,λh=>by rw[h]⟩
def aOZ{l l':List fc}:(sl fc.c l=sl fc.c l')=(l=l'):=kL (by intro x y h;rwa [aOD] at h)
mutual
def a54:∀{x y:eo},eo.c x=eo.c y->x=y
 | .mk a b c d e f g i, .mk q r t u z j A B,h=>by
  simp only[eo.c,kO,AV.s.injEq,mW,mX,AV.l.injEq,mn,vm,aOZ] at h
  obtain⟨rfl,rfl,rfl,rfl,rfl,k,m,o,p,v,w⟩:=h
  have:f=j:=by
   obtain⟨a,b,c,d⟩:=f;obtain⟨q,r,t,u⟩:=j
   simp only[fc.op,fc.n,fc.name,fc.l] at k m o p
   rw[k,m,o,p]
  rw[this,aV9 v,aV9 w]
def aV9:∀{x y:List eo},eo.cr x=eo.cr y->x=y
 |[],[],_=>rfl
 |[],_::_,h=>by simp only[eo.cr] at h;cases h
 |_::_,[],h=>by simp only[eo.cr] at h;cases h
 |a::l,b::m,h=>by
  simp only[eo.cr,kO] at h
  rw[a54 h.1,aV9 h.2]
end
def a6B{x y:eo}:(eo.c x=eo.c y)=(x=y):=vp ⟨a54,λh=>by rw[h]⟩
def aO0{l l':List eo}:(sl eo.c l=sl eo.c l')=(l=l'):=kL (by intro x y h;rwa [a6B] at h)
structure xd where
 aq:Int
 lD:Int
 deriving Inhabited,DecidableEq
def xd.c(x:xd):List AV:=[iv x.aq,iv x.lD]
def aOY{x y:w6}:(w6.c x=w6.c y)=(x=y):=by apply vp;constructor;intro h;(cases x;cases y);simp only[w6.c,br.c,aW.c,zn,dW,kO,AV.s.injEq,mW,mV,mX,mn,vm,amV,aOD,aOZ,aO0] at h;simp only[w6.mk.injEq,br.ext_iff',aW.ext_iff',bW.ext_iff',aoA];exact h;intro h;rw[h]
def aPj{l l':List w6}:(sl w6.c l=sl w6.c l')=(l=l'):=kL (by intro x y h;rwa [aOY] at h)
def aPD{x y:xt}:(xt.c x=xt.c y)=(x=y):=by apply vp;constructor;intro h;(cases x;cases y);simp only[xt.c,br.c,aW.c,zn,dW,kO,AV.s.injEq,mW,mV,mX,mn,vm,amV,aOD,aOZ,aO0,aOY,aPj] at h;simp only[xt.mk.injEq,br.ext_iff',aW.ext_iff',bW.ext_iff',aoA];exact h;intro h;rw[h]
def aPE{l l':List xt}:(sl xt.c l=sl xt.c l')=(l=l'):=kL (by intro x y h;rwa [aPD] at h)
def aPC{x y:xr}:(xr.c x=xr.c y)=(x=y):=by apply vp;constructor;intro h;(cases x;cases y);simp only[xr.c,br.c,aW.c,zn,dW,kO,AV.s.injEq,mW,mV,mX,mn,vm,amV,aOD,aOZ,aO0,aOY,aPj,aPD,aPE] at h;simp only[xr.mk.injEq,br.ext_iff',aW.ext_iff',bW.ext_iff',aoA];exact h;intro h;rw[h]
def aQr{l l':List xr}:(sl xr.c l=sl xr.c l')=(l=l'):=kL (by intro x y h;rwa [aPC] at h)
def aPX{x y:lF}:(lF.c x=lF.c y)=(x=y):=by apply vp;constructor;intro h;(cases x;cases y);simp only[lF.c,br.c,aW.c,zn,dW,kO,AV.s.injEq,mW,mV,mX,mn,vm,amV,aOD,aOZ,aO0,aOY,aPj,aPD,aPE,aPC,aQr] at h;simp only[lF.mk.injEq,br.ext_iff',aW.ext_iff',bW.ext_iff',aoA];exact h;intro h;rw[h]
def aQq{l l':List lF}:(sl lF.c l=sl lF.c l')=(l=l'):=kL (by intro x y h;rwa [aPX] at h)
def aQp{x y:A2}:(A2.c x=A2.c y)=(x=y):=by apply vp;constructor;intro h;(cases x;cases y);simp only[A2.c,br.c,aW.c,zn,dW,kO,AV.s.injEq,mW,mV,mX,mn,vm,amV,aOD,aOZ,aO0,aOY,aPj,aPD,aPE,aPC,aQr,aPX,aQq] at h;simp only[A2.mk.injEq,br.ext_iff',aW.ext_iff',bW.ext_iff',aoA];exact h;intro h;rw[h]
def aRT{l l':List A2}:(sl A2.c l=sl A2.c l')=(l=l'):=kL (by intro x y h;rwa [aQp] at h)
def aQY{x y:qt}:(qt.c x=qt.c y)=(x=y):=by apply vp;constructor;intro h;(cases x;cases y);simp only[qt.c,br.c,aW.c,zn,dW,kO,AV.s.injEq,mW,mV,mX,mn,vm,amV,aOD,aOZ,aO0,aOY,aPj,aPD,aPE,aPC,aQr,aPX,aQq,aQp,aRT] at h;simp only[qt.mk.injEq,br.ext_iff',aW.ext_iff',bW.ext_iff',aoA];exact h;intro h;rw[h]
def aTm{l l':List qt}:(sl qt.c l=sl qt.c l')=(l=l'):=kL (by intro x y h;rwa [aQY] at h)
def aRS{x y:pt}:(pt.c x=pt.c y)=(x=y):=by apply vp;constructor;intro h;(cases x;cases y);simp only[pt.c,br.c,aW.c,zn,dW,kO,AV.s.injEq,mW,mV,mX,mn,vm,amV,aOD,aOZ,aO0,aOY,aPj,aPD,aPE,aPC,aQr,aPX,aQq,aQp,aRT,aQY,aTm] at h;simp only[pt.mk.injEq,br.ext_iff',aW.ext_iff',bW.ext_iff',aoA];exact h;intro h;rw[h]
def aWB{l l':List pt}:(sl pt.c l=sl pt.c l')=(l=l'):=kL (by intro x y h;rwa [aRS] at h)
def aTl{x y:pm}:(pm.c x=pm.c y)=(x=y):=by apply vp;constructor;intro h;(cases x;cases y);simp only[pm.c,br.c,aW.c,zn,dW,kO,AV.s.injEq,mW,mV,mX,mn,vm,amV,aOD,aOZ,aO0,aOY,aPj,aPD,aPE,aPC,aQr,aPX,aQq,aQp,aRT,aQY,aTm,aRS,aWB] at h;simp only[pm.mk.injEq,br.ext_iff',aW.ext_iff',bW.ext_iff',aoA];exact h;intro h;rw[h]
def a6C{l l':List pm}:(sl pm.c l=sl pm.c l')=(l=l'):=kL (by intro x y h;rwa [aTl] at h)
def aWA{x y:O3}:(O3.c x=O3.c y)=(x=y):=by apply vp;constructor;intro h;(cases x;cases y);simp only[O3.c,br.c,aW.c,zn,dW,kO,AV.s.injEq,mW,mV,mX,mn,vm,amV,aOD,aOZ,aO0,aOY,aPj,aPD,aPE,aPC,aQr,aPX,aQq,aQp,aRT,aQY,aTm,aRS,aWB,aTl,a6C] at h;simp only[O3.mk.injEq,br.ext_iff',aW.ext_iff',bW.ext_iff',aoA];exact h;intro h;rw[h]
def bcS{l l':List O3}:(sl O3.c l=sl O3.c l')=(l=l'):=kL (by intro x y h;rwa [aWA] at h)
def a6A{x y:xd}:(xd.c x=xd.c y)=(x=y):=by apply vp;constructor;intro h;(cases x;cases y);simp only[xd.c,br.c,aW.c,zn,dW,kO,AV.s.injEq,mW,mV,mX,mn,vm,amV,aOD,aOZ,aO0,aOY,aPj,aPD,aPE,aPC,aQr,aPX,aQq,aQp,aRT,aQY,aTm,aRS,aWB,aTl,a6C,aWA,bcS] at h;simp only[xd.mk.injEq,br.ext_iff',aW.ext_iff',bW.ext_iff',aoA];exact h;intro h;rw[h]
def bcR{l l':List xd}:(sl xd.c l=sl xd.c l')=(l=l'):=kL (by intro x y h;rwa [a6A] at h)
def Nb:=ai @aOD<|ai @a6B<|ai @aO0<|ai @aOY<|ai @aPj<|ai @aPE<|ai @aPC<|ai @aPX<|ai @aQq<|ai @aQp<|ai @aQY<|ai @aRS<|ai @aTl<|ai @aWA<|ai @a6A<|@bcR
def ben{x:fc}:aN J (fc.c x)=V (iv x.op):=by rw[aoH];rfl
def beo{x:fc}:aN J ((fc.c x).drop 1)=V (iv x.n):=by rw[aoH];rfl
def bep{x:fc}:aN J ((fc.c x).drop 2)=V (st x.name):=by rw[aoH];rfl
def ber{x:fc}:aN J ((fc.c x).drop 3)=V (sl fc.c x.l):=by rw[aoH];rfl
def a69{x:fc}:aN (V 4) (fc.c x)=V (.a (fc.c x)):=by rw[aoH];rfl
def beI{x:eo}:aN J (eo.c x)=V (iv x.op):=by rw[apT];rfl
def beJ{x:eo}:aN J ((eo.c x).drop 1)=V (iv x.line):=by rw[apT];rfl
def beL{x:eo}:aN J ((eo.c x).drop 2)=V (st x.name):=by rw[apT];rfl
def beM{x:eo}:aN J ((eo.c x).drop 3)=V (st x.arg):=by rw[apT];rfl
def beN{x:eo}:aN J ((eo.c x).drop 4)=V (sl fc.c x.index):=by rw[apT];rfl
def beO{x:eo}:aN J ((eo.c x).drop 9)=V (sl eo.c x.body):=by rw[apT];rfl
def beK{x:eo}:aN J ((eo.c x).drop 10)=V (sl eo.c x.els):=by rw[apT];rfl
def beP{x:eo}:aN (V 4) ((eo.c x).drop 5)=V (.a (fc.c x.expr)):=by rw[apT,aoH];rfl
def beQ{x:eo}:aN (V 11) (eo.c x)=V (.a (eo.c x)):=by rw[apT];rfl
def bef{x:w6}:aN J (w6.c x)=V (iv x.kind):=rfl
def beg{x:w6}:aN J ((w6.c x).drop 1)=V (iv x.line):=rfl
def beh{x:w6}:aN J ((w6.c x).drop 2)=V (st x.name):=rfl
def bei{x:w6}:aN J ((w6.c x).drop 3)=V (iv x.size):=rfl
def bej{x:w6}:aN J ((w6.c x).drop 4)=V (iv x.init):=rfl
def bek{x:w6}:aN J ((w6.c x).drop 5)=V (st x.on):=rfl
def bem{x:w6}:aN (V 6) (w6.c x)=V (.a (w6.c x)):=rfl
def beU{x:xt}:aN J (xt.c x)=V (st x.name):=rfl
def beV{x:xt}:aN J ((xt.c x).drop 1)=V (iv x.line):=rfl
def beW{x:xt}:aN J ((xt.c x).drop 2)=V (sl cs x.locs):=rfl
def beX{x:xt}:aN J ((xt.c x).drop 3)=V (sl eo.c x.body):=rfl
def beY{x:xt}:aN (V 4) (xt.c x)=V (.a (xt.c x)):=rfl
def bez{x:xr}:aN J (xr.c x)=V (sl w6.c x.A7):=rfl
def beA{x:xr}:aN J ((xr.c x).drop 1)=V (sl xt.c x.ay):=rfl
def beB{x:xr}:aN (V 2) (xr.c x)=V (.a (xr.c x)):=rfl
def bes{x:lF}:aN J (lF.c x)=V (iv x.op):=rfl
def bet{x:lF}:aN J ((lF.c x).drop 1)=V (iv x.a):=rfl
def beu{x:lF}:aN J ((lF.c x).drop 2)=V (iv x.b):=rfl
def bev{x:lF}:aN J ((lF.c x).drop 3)=V (iv x.k):=rfl
def bew{x:lF}:aN J ((lF.c x).drop 4)=V (iv x.n):=rfl
def bex{x:lF}:aN J ((lF.c x).drop 5)=V (iv x.site):=rfl
def bey{x:lF}:aN (V 6) (lF.c x)=V (.a (lF.c x)):=rfl
def beR{x:A2}:aN J (A2.c x)=V (iv x.li):=rfl
def beS{x:A2}:aN J ((A2.c x).drop 1)=V (sl lF.c x.No):=rfl
def beT{x:A2}:aN (V 2) (A2.c x)=V (.a (A2.c x)):=rfl
def bd9{x:qt}:aN J (qt.c x)=V (sl cA.c x.aQ.cells):=rfl
def bea{x:qt}:aN J ((qt.c x).drop 3)=V (sl cs x.aQ.bU):=rfl
def beb{x:qt}:aN J ((qt.c x).drop 4)=V (sl cs x.aQ.ay):=rfl
def bec{x:qt}:aN J ((qt.c x).drop 6)=V (sl A2.c x.ay):=rfl
def bed{x:qt}:aN (V 6) (qt.c x)=V (.a (x.aQ.c)):=rfl
def bee{x:qt}:aN (V 7) (qt.c x)=V (.a (qt.c x)):=rfl
def beZ{x:pt}:aN J (pt.c x)=V (iv x.pc):=rfl
def be0{x:pt}:aN J ((pt.c x).drop 1)=V (sl ci x.li):=rfl
def be1{x:pt}:aN J ((pt.c x).drop 2)=V (sl cl x.lj):=rfl
def be2{x:pt}:aN (V 4) (pt.c x)=V (.a (pt.c x)):=rfl
def beC{x:pm}:aN J ((pm.c x).drop 3)=V (sl bF.c x.bm.ay):=rfl
def beD{x:pm}:aN J ((pm.c x).drop 4)=V (sl ci x.cells):=rfl
def beE{x:pm}:aN J ((pm.c x).drop 5)=V (sl ci x.bU):=rfl
def beF{x:pm}:aN J ((pm.c x).drop 6)=V (sl pt.c x.ay):=rfl
def beG{x:pm}:aN (V 4) (pm.c x)=V (.a (x.bm.c)):=rfl
def beH{x:pm}:aN (V 7) (pm.c x)=V (.a (pm.c x)):=rfl
def yr{a:AV}{l:List AV}:aN J (a::l)=V a:=rfl
def C5{α:Type}{a:α}{n:Nat}{l:List α}:aOz (n+1) (a::l)=aOz n l:=rfl
def yd{α:Type}{l:List α}:aOz 0 l=l:=rfl
def gw:=ai @ben<|ai @beo<|ai @bep<|ai @ber<|ai @a69<|ai @beI<|ai @beJ<|ai @beL<|ai @beM<|ai @beN<|ai @beO<|ai @beK<|ai @beP<|ai @beQ<|ai @bef<|ai @beg<|ai @beh<|ai @bei<|ai @bej<|ai @bek<|ai @bem<|ai @beU<|ai @beV<|ai @beW<|ai @beX<|ai @beY<|ai @bez<|ai @beA<|ai @beB<|ai @bes<|ai @bet<|ai @beu<|ai @bev<|ai @bew<|ai @bex<|ai @bey<|ai @beR<|ai @beS<|ai @beT<|ai @bd9<|ai @bea<|ai @beb<|ai @bec<|ai @bed<|ai @bee<|ai @beZ<|ai @be0<|ai @be1<|ai @be2<|ai @beC<|ai @beD<|ai @beE<|ai @beF<|ai @beG<|ai @beH<|ai @yr<|ai @C5<|@yd
def bab{Y:ae}{x:fc}:dG Y (.a (fc.c x))= .a (fc.c x):=by rw[aoH];rfl
def baf{Y:ae}{x:eo}:dG Y (.a (eo.c x))= .a (eo.c x):=by rw[apT];rfl
def baa{Y:ae}{x:w6}:dG Y (.a (w6.c x))= .a (w6.c x):=rfl
def bad{Y:ae}{x:xr}:dG Y (.a (xr.c x))= .a (xr.c x):=rfl
def bac{Y:ae}{x:lF}:dG Y (.a (lF.c x))= .a (lF.c x):=rfl
def bag{Y:ae}{x:A2}:dG Y (.a (A2.c x))= .a (A2.c x):=rfl
def a99{Y:ae}{x:qt}:dG Y (.a (qt.c x))= .a (qt.c x):=rfl
def bai{Y:ae}{x:pt}:dG Y (.a (pt.c x))= .a (pt.c x):=rfl
def bae{Y:ae}{x:pm}:dG Y (.a (pm.c x))= .a (pm.c x):=rfl
def bah{Y:ae}{x:O3}:dG Y (.a (O3.c x))= .a (O3.c x):=rfl
def a98{Y:ae}{x:xd}:dG Y (.a (xd.c x))= .a (xd.c x):=rfl
def bba{v:Value}:iX (.s v)=U:=rfl
def ba8{α:Type}{f:α->List AV}{l:List α}:iX (sl f l)=U:=rfl
def bbb{x:fc}:iX (.a (fc.c x))=U:=by simp[iX,eN,aoH,sl]
def bbd{x:eo}:iX (.a (eo.c x))=U:=by simp[iX,eN,apT,sl]
def bbc{x:xr}:iX (.a (xr.c x))=U:=rfl
def aOW:=ai @bba<|ai @ba8<|ai @bbb<|ai @bbd<|@bbc
def Fa:=ai @bab<|ai @baf<|ai @baa<|ai @bad<|ai @bac<|ai @bag<|ai @a99<|ai @bai<|ai @bae<|ai @bah<|@a98
section
variable{K:d7}{Y:ae}{i:Int}
end
abbrev qN:ByteArray:=⟨#[113]⟩
def C6:Nat->fc->Prop|0,_=>False|n+1,e=>(((e.op=1\/e.op=2)/\e.l=[])\/(e.op=3/\e.name=qN/\L e.l=1)\/(6<=e.op/\L e.l=2))/\∀x∈e.l,C6 n x
def C6.len{n:Nat}{e:fc}(h:C6 n e):L e.l<=2:=by cases n with|zero=>exact h.elim|succ n=>rcases h.1 with⟨_,h⟩|⟨_,_,h⟩|⟨_,h⟩<;>simp[h]
def C6.sub{n:Nat}{e:fc}(h:C6 n e){k:Nat}(a:k<L e.l):∃m,n=m+1/\C6 m (gd e.l k):=by cases n with|zero=>exact h.elim|succ n=>exact⟨n,rfl,h.2 _ (dB a)⟩
def C6.mono:∀{n m:Nat} {e:fc},C6 n e->n<=m->C6 m e
 |0,_,_,h,_=>h.elim
 |n+1,0,_,_,h=>by omega
 |n+1,m+1,e,h,b=>⟨h.1,λx a=>(h.2 x a).mono (by omega)⟩
def A5:Nat->eo->Prop|0,_=>False|n+1,s=>((s.op=1\/s.op=2\/s.op=3\/s.op=14)->C6 2 s.expr)/\L s.index<=1/\(∀x∈s.index,C6 2 x)/\(s.index≠[]->s.name=qN)/\L s.expr.l<=2/\L s.body<=4/\(∀x∈s.body,A5 n x)/\L s.els<=4/\(∀x∈s.els,A5 n x)/\1<=s.op/\s.op<=15
def A5.up{n:Nat}{s:eo}(h:A5 n s):∃m,n=m+1/\(∀x∈s.body,A5 m x)/\∀x∈s.els,A5 m x:=by cases n with|zero=>exact h.elim|succ n=>exact⟨n,rfl,h.2.2.2.2.2.2.1,h.2.2.2.2.2.2.2.2.1⟩
def A5.at{n:Nat}{s:eo}(h:A5 n s):((s.op=1\/s.op=2\/s.op=3\/s.op=14)->C6 2 s.expr)/\L s.index<=1/\(∀x∈s.index,C6 2 x)/\(s.index≠[]->s.name=qN)/\L s.expr.l<=2/\L s.body<=4/\L s.els<=4:=by cases n with|zero=>exact h.elim|succ n=>exact⟨h.1,h.2.1,h.2.2.1,h.2.2.2.1,h.2.2.2.2.1,h.2.2.2.2.2.1,h.2.2.2.2.2.2.2.1⟩
def A5.ops{n:Nat}{s:eo}(h:A5 n s):1<=s.op/\s.op<=15:=by cases n with|zero=>exact h.elim|succ n=>exact h.2.2.2.2.2.2.2.2.2
def A5.mono:∀{n m:Nat} {s:eo},A5 n s->n<=m->A5 m s
 |0,_,_,h,_=>h.elim
 |n+1,0,_,_,h=>by omega
 |n+1,m+1,s,⟨c,d,e,f,g,i,j,k,l,b⟩,o=>⟨c,d,e,f,g,i,λx a=>(j x a).mono (by omega),k,λx a=>(l x a).mono (by omega),b⟩
def shL(n m:Nat)(l:List eo):Prop:=L l<=m/\∀s∈l,A5 n s
def A5.body{n:Nat}{s:eo}(h:A5 n s):∃m,n=m+1/\shL m 4 s.body/\shL m 4 s.els:=by obtain⟨m,e,a,b⟩:=h.up;exact⟨m,e,⟨h.at.2.2.2.2.2.1,a⟩,⟨h.at.2.2.2.2.2.2,b⟩⟩
def shT(t:xt):Prop:=L t.locs<=4/\shL 4 8 t.body
def PrB(p:xr):Prop:=L p.A7<1000/\L p.ay<1000/\∀t∈p.ay,L t.locs<1000
def shP(p:xr):Prop:=PrB p/\L p.ay<=4/\∀t∈p.ay,shT t
section
variable{i:Nat}(F:FT)
def aP7{A:Type}{b:A->List AV}{c:A->d7}(k:∀a,Ct i (b a) (c a)):FT:=λys K=>∃a,ys=b a/\∀r,c a r->K r
def aRM{A:Type}{b:A->List AV}{e:A->d7}(k:∀a,Ct i (b a) (e a))(a:A)(d K:d7)(g:F=aP7 k:=by exact rfl)(j:∀a c,b a=b c->a=c:=by simp+contextual only[ij]):fW F (b a) d K=(∀r,e a r->d r/\K r):=by subst g;apply vp;constructor;rintro⟨c,h,f⟩;obtain rfl:=j _ _ h;exact f;intro h;exact⟨_,rfl,h⟩
def aR6{A:Type}{b:A->List AV}{e:A->d7}(k:∀a,Ct i (b a) (e a))(c:∀a,(b a).all iX=U:=by intros;exact rfl):∀ys K,aP7 k ys K->jz aS GG i ys K:=by rintro ys K ⟨a,rfl,h⟩;exact nX (k a) (c a) (λr d=>h r d)
def aRd{A B:Type}{c:A->B->List AV}{d:A->B->d7}(k:∀a b,Ct i (c a b) (d a b)):FT:=λys K=>∃a b,ys=c a b/\∀r,d a b r->K r
def aWg{A B:Type}{c:A->B->List AV}{g:A->B->d7}(k:∀a b,Ct i (c a b) (g a b))(a:A)(b:B)(f K:d7)(m:F=aRd k:=by exact rfl)(j:∀a b d e,c a b=c d e->a=d/\b=e:=by simp+contextual only[ij]):fW F (c a b) f K=(∀r,g a b r->f r/\K r):=by subst m;apply vp;constructor;rintro⟨d,e,h,l⟩;obtain⟨rfl,rfl⟩:=j _ _ _ _ h;exact l;intro h;exact⟨_,_,rfl,h⟩
def aYm{A B:Type}{c:A->B->List AV}{f:A->B->d7}(k:∀a b,Ct i (c a b) (f a b))(d:∀a b,(c a b).all iX=U:=by intros;exact rfl):∀ys K,aRd k ys K->jz aS GG i ys K:=by rintro ys K ⟨a,b,rfl,h⟩;exact nX (k a b) (d a b) (λr e=>h r e)
def aSb{A B C:Type}{d:A->B->C->List AV}{e:A->B->C->d7}(k:∀a b c,Ct i (d a b c) (e a b c)):FT:=λys K=>∃a b c,ys=d a b c/\∀r,e a b c r->K r
def a6o{A B C:Type}{d:A->B->C->List AV}{m:A->B->C->d7}(k:∀a b c,Ct i (d a b c) (m a b c))(a:A)(b:B)(c:C)(l K:d7)(o:F=aSb k:=by exact rfl)(j:∀a b c e f g,d a b c=d e f g->a=e/\b=f/\c=g:=by simp+contextual only[ij]):fW F (d a b c) l K=(∀r,m a b c r->l r/\K r):=by subst o;apply vp;constructor;rintro⟨e,f,g,h,n⟩;obtain⟨rfl,rfl,rfl⟩:=j _ _ _ _ _ _ h;exact n;intro h;exact⟨_,_,_,rfl,h⟩
def a7W{A B C:Type}{d:A->B->C->List AV}{g:A->B->C->d7}(k:∀a b c,Ct i (d a b c) (g a b c))(e:∀a b c,(d a b c).all iX=U:=by intros;exact rfl):∀ys K,aSb k ys K->jz aS GG i ys K:=by rintro ys K ⟨a,b,c,rfl,h⟩;exact nX (k a b c) (e a b c) (λr f=>h r f)
def aTQ{A B C D E:Type}{f:A->B->C->D->E->List AV}{g:A->B->C->D->E->Prop}{h:A->B->C->D->E->d7}(k:∀a b c d e,g a b c d e->Ct i (f a b c d e) (h a b c d e)):FT:=λys K=>∃a b c d e,ys=f a b c d e/\g a b c d e/\∀r,h a b c d e r->K r
def bbn{A B C D E:Type}{f:A->B->C->D->E->List AV}{q:A->B->C->D->E->Prop}{s:A->B->C->D->E->d7}(k:∀a b c d e,q a b c d e->Ct i (f a b c d e) (s a b c d e))(a:A)(b:B)(c:C)(d:D)(e:E)(p K:d7)(u:F=aTQ k:=by exact rfl)(j:∀a b c d e g l m n o,f a b c d e=f g l m n o->a=g/\b=l/\c=m/\d=n/\e=o:=by simp+contextual only[ij]):fW F (f a b c d e) p K=(q a b c d e/\∀r,s a b c d e r->p r/\K r):=by subst u;apply vp;constructor;rintro⟨g,l,m,n,o,h,t⟩;obtain⟨rfl,rfl,rfl,rfl,rfl⟩:=j _ _ _ _ _ _ _ _ _ _ h;exact t;intro h;exact⟨_,_,_,_,_,rfl,h⟩
def bhJ{A B C D E:Type}{f:A->B->C->D->E->List AV}{m:A->B->C->D->E->Prop}{n:A->B->C->D->E->d7}(k:∀a b c d e,m a b c d e->Ct i (f a b c d e) (n a b c d e))(g:∀a b c d e,(f a b c d e).all iX=U:=by intros;exact rfl):∀ys K,aTQ k ys K->jz aS GG i ys K:=by rintro ys K ⟨a,b,c,d,e,rfl,j,h⟩;exact nX (k a b c d e j) (g a b c d e) (λr l=>h r l)
end
def B1:AV->AV| .t vs=> .t (vs.map nrm)|x=>nrm x
def bdV{κ:rm}{w:World}{Y:ae}{β:Id->Nat}{v:Value}{x:AV}(h:ba κ w Y β v x):ba κ w Y β v (B1 x):=by cases x with|t vs=>(cases h with|t f h=>refine .t (by simpa using f) λi v c g b=>?_;rw[ve] at b;cases d:vs[i]? with|none=>rw[d] at b;cases b|some y=>rw[d] at b;simp only[df,bE] at b;subst b;exact yo (h i v y g d))|_=>exact yo h
def a6f{x:AV}:nj (gK x)=nj x:=by cases x<;>rfl
def aWa{x:AV}:pF (nrm x)=pF x:=by cases x with|a cs=>simp only[nrm,pF,List.all_map];congr 1;funext c;exact a6f|_=>first|rfl|exact a6f
def ba7{x:AV}:kG (B1 x)=kG x:=by have h:=@aWa x;(cases x<;>first|exact h|skip);rename_i vs;simp only[B1,kG,List.all_map];congr 1;funext c;exact aWa
def aDq{fn:Nat}{ys:List AV}{Q:d7}(h:Ct fn ys λr=>Q (B1 r)):Ct fn ys Q:=by obtain⟨r,f,g,i,j⟩:=h;refine⟨B1 r,f,by rw[ba7];exact g,i,λF w d a b c=>(j F w d a b c).mono ?_⟩;rintro e o ⟨v,n,k,rfl,l,m⟩;exact⟨v,_,k,rfl,bdV l,m⟩
def fz(Y:ae)(c:AV):AV:=gK (dQ Y c)
def fzT(Y:ae):AV->AV| .a cs=> .a (cs.map (fz Y))|x=>fz Y x
def bcq{Y:ae}{c:AV}:(∃l t o,dQ Y c= .l l t o)\/dQ Y c=c:=by(cases c<;>first|exact .inr rfl|skip);rename_i b n;cases d:box Y b with|none=>exact .inr (by simp only[dQ,d])|some x=>by_cases f:x.var=I;exact .inl ⟨x.aa.take n,I,x.own,by simp only[dQ,d,f,vg]⟩;by_cases g:((x.aa.take n).all λr=>r.all λc=>eN (rS Y c))=U;exact .inl ⟨_,I,x.own,by simp only[dQ,d,cj f,bX g];rfl⟩;exact .inr (by simp only[dQ,d,cj f,cj g])
def aXU{Y:ae}{x:AV}:nrm (iZ Y x)=fzT Y x:=by cases x with|a cs=>simp only[iZ,nrm,fzT,vA];rfl|m b n=>show nrm (dQ Y (.m b n))=gK (dQ Y (.m b n));(rcases bcq (Y:=Y) (c:= .m b n) with⟨l,t,o,h⟩|h<;>rw[h]<;>rfl)|_=>rfl
def a6g{Y:ae}{x:AV}(h:iX (fzT Y x)=U):pF (iZ Y x)=U:=by have b:pF (nrm (iZ Y x))=U:=(by rw[aXU];generalize fzT Y x=y at h;cases y with|a cs=>simp only[iX,dV] at h;simp only[pF,dV];intro c d;have:=h c d;(cases c<;>first|rfl|(simp[eN] at this;done))|_=>first|rfl|(simp[iX,eN] at h;done));rwa [aWa] at b
def aOH{Q:d7}{Y:ae}{vs vs':List AV}(h:vs.map (fzT Y)=vs')(f:vs'.all iX=U)(d:Q (aoz vs')):aE (λr=>Q (B1 r)) Y vs:=by have b:kG (.t (vs.map (iZ Y)))=U/\B1 (.t (vs.map (iZ Y)))= .t vs':=(by constructor;simp only[kG,List.all_map,dV];intro x i;refine a6g (dV.1 f _ ?_);rw[<-h];exact CA i;simp only[B1,vA,<-h];congr 1;exact ja λx _=>aXU);unfold aE jS;rcases vs with _|⟨v,_|⟨w,l⟩⟩;subst h;exact⟨rfl,d⟩;subst h;simp only[ji,mU,Cs,aqG,ru] at f;have c:=a6g f;have g:B1 (iZ Y v)=fzT Y v/\kG (iZ Y v)=pF (iZ Y v):=(by rw[<-aXU];generalize iZ Y v=y at c;cases y<;>first|exact⟨rfl,rfl⟩|(simp[pF,nj] at c;done));refine⟨by rw[g.2];exact c,?_⟩;show Q (B1 (iZ Y v));rw[g.1];exact d;subst h;refine⟨b.1,?_⟩;show Q (B1 (.t ((v::w::l).map (iZ Y))));rw[b.2];exact d
def aOv{Q:d7}{Y:ae}{v v':AV}(h:fzT Y v=v')(c:iX v'=U)(b:Q v'):aE (λr=>Q (B1 r)) Y [v]:=by subst h;exact aOH (vs':=[fzT Y v]) rfl (by simp[c]) b
def aQ7{Y:ae}{v x:AV}(h:fzT Y v=x)(b:iX x=U):aE (λr=>B1 r=x) Y [v]:=aOv (Q:=(·=x)) h b rfl
def gm(Y:ae)(e:TypeId)(z:Nat)(a:AV)(aa:List (List AV)):Prop:=(aa=[]/\a= .l [] U U)\/∃b m,a= .m b (L aa)/\box Y b=V ⟨e,z,U,I,aa++m⟩
def bc.p{Y:ae}{e:TypeId}{z:Nat}{a:AV}{aa:List (List AV)}(h:bc Y e z a aa):gm Y e z a aa:=by rcases h with h|⟨b,c,d⟩;exact .inl h;exact .inr ⟨b,[],c,by simpa using d⟩
section
variable{Y Y':ae}{e:TypeId}{z:Nat}{a:AV}{aa:List (List AV)}
def gm.fx{ks:List Id}(f:gm Y e z a aa)(d:Fx Y Y' ks)(g:∀b∈aA a,b∉ks):gm Y' e z a aa:=by rcases f with h|⟨b,m,rfl,c⟩;exact .inl h;exact .inr ⟨b,m,rfl,d.keep b _ (g b (by simp[aA])) c⟩
def aWt{v:Value}:fz Y (.s v)= .s v:=rfl
def bcz{t o:Bool}:fz Y (.l aa t o)= .l aa I I:=rfl
def aBr(h:gm Y e z a aa):fz Y a= .l aa I I:=by rcases h with⟨rfl,rfl⟩|⟨b,m,rfl,c⟩;rfl;simp[fz,dQ,c,gK]
def aWs(h:gm Y e z a aa):fzT Y a= .l aa I I:=by rw[<-aBr h];rcases h with⟨rfl,rfl⟩|⟨b,m,rfl,c⟩<;>rfl
def lz(Y:ae)(c:AV):AV:=gK (gi Y c)
def aQ5{v:Value}:lz Y (.s v)= .s v:=rfl
def aXQ{t o:Bool}:lz Y (.l aa t o)= .l aa I I:=rfl
def aOb(h:gm Y e z a aa):lz Y a= .l aa I I:=by rcases h with⟨rfl,rfl⟩|⟨b,m,rfl,c⟩;rfl;simp[lz,gi,c,gK]
def gm.ce(h:gm Y e z a aa):eY a=V [a]:=by rcases h with⟨_,rfl⟩|⟨b,m,rfl,_⟩<;>rfl
def gm.ln(h:gm Y e z a aa):fS Y a=V (iv (L aa)):=by rcases h with⟨rfl,rfl⟩|⟨b,m,rfl,c⟩;rfl;simp[fS,c]
def gm.ar(h:gm Y e z a aa):dG Y a= .l aa I I:=by rcases h with⟨rfl,rfl⟩|⟨b,m,rfl,c⟩;rfl;simp[dG,eR,gi,c,nrm,gK]
def oo{b:Id}{i j:Nat}{x:bY}(h:box Y b=V x):cO Y (.p b i j)=V (.p b i j):=by simp[cO,h]
def qs{d by':Nat}{zs:List AV}{new:List (List AV)}{t o:Bool}{K:be}(q:gm Y e z a aa)(f:L zs=z)(n:0<z)(c:d<L Y)(u:∀r∈aa,L r=z)(s:∀r∈new,L r=z)(p:new≠[])(j:(L aa+L new)*(by'+1)<=1099511627776)(i:∀g Y',bc Y' e z g (aa++new)->Fx Y Y' (aA a)->(∀b∈aA g,bK Y b/\b.1=d)->K g Y'):eV (j5 e zs by' Y d a (.l new t o)) K:=by unfold j5;simp only[gL];rw[cj (by simpa using p),bX ⟨by rw[f];exact n,by simp[y7,c],by rw[f];exact s⟩];rcases q with⟨rfl,rfl⟩|⟨b,m,rfl,h⟩;simp only;rw[bX ⟨by simp,by simpa[lx] using j⟩];refine i _ _ (.inr ⟨lA Y d,by simp,?_⟩) ((kH c).mono (by simp)) (by simp[aA];exact⟨qQ Y d,rfl⟩);rw[<-f];exact iy c;simp only[h];rw[bX ⟨trivial,trivial,f.symm,by simp,by simpa[lx] using j⟩];have k:d<L (kill Y b):=(by rw[yg];exact c);refine i _ _ (.inr ⟨lA Y d,by simp,?_⟩) (((Le h).trans (kH k)).mono (by simp[aA])) (by simp[aA];exact⟨qQ Y d,rfl⟩);rw[<-f];simp only[List.take_left'];rw[<-anF h];exact iy k
def slP{i:Int}{K:d7}(j:gm Y e z a aa)(f:0<=i)(n:i<=L aa)(h:∀c,gm Y e z c (aa.take i.toNat)->aA c=aA a->K c):rV (fo z Y a J (V (iv i)) J) K:=by have d:i.toNat<=L aa:=(by omega);rcases j with⟨rfl,rfl⟩|⟨b,m,rfl,g⟩;have k:i.toNat=0:=(by simpa using d);have:fo z Y (.l [] U U) J (V (iv i)) J=V (.l [] U U):=(by simp[fo,lM,f,qY,k]);rw[this];exact h _ (.inl ⟨by simp,rfl⟩) rfl;have:fo z Y (.m b (L aa)) J (V (iv i)) J=V (.m b i.toNat):=(by simp[fo,lM,f,qY,g,d]);rw[this];refine h _ (.inr ⟨b,aa.drop i.toNat++m,?_,?_⟩) rfl;rw[List.length_take,Nat.min_eq_left d];rw[g,<-cC,aq0]
def aOp:∀(l:List Id) (Y:ae),Fx Y (kills Y l) l:=by intro l;induction l with|nil=>intro Y;exact Fx.refl _ _|cons b l d=>intro Y;show Fx Y (kills (if(box Y b).isSome then kill Y b else Y) l) (b::l);cases f:box Y b with|none=>exact(d Y).mono λc g=> .inl (zu _ g)|some x=>exact(Le f).trans (d (kill Y b))
end
structure Lv(Y0 Y:ae)(cs tgt:List AV):Prop where
 eq:cs.map (lz Y)=tgt
 nw:∀b∈eB (.a cs),bK Y0 b
def aQm{Y:ae}{zs cs tgt:List AV}(d:cs.map (lz Y)=tgt)(b:L tgt=L zs)(f:0<L zs)(g:tgt.all eN=U)(i:L zs<=1000):aX zs 1 Y [(0, .a cs)]=V (.l [tgt] U U,kills Y (eB (.a cs))):=by have h:nrm (eR Y (.a cs))= .a tgt:=(by simp only[eR,nrm,vA,<-d];rfl);simp only[aX,ji,mU,h,List.flatMap_cons,List.flatMap_nil,cL];have c:(er 1 zs).flatten=zs:=(by simp);rw[bX ⟨by omega,f⟩,c];simp only[gp,eY,b,Nat.zero_mul,aj,dA,y6,vg,CE,dW,List.drop_length,cL,qd,g,df];simp[kC,<-b]
def Lv.fx{f Y Y':ae}{cs tgt:List AV}{ks:List Id}(h:Lv f Y cs tgt)(k:Fx Y Y' ks)(l:∀b∈eB (.a cs),b∉ks)(i:tgt.all eN=U):Lv f Y' cs tgt:=by refine⟨?_,h.nw⟩;rw[<-h.eq];refine ja λc g=>?_;have j:eN (lz Y c)=U:=(by rw[<-h.eq] at i;exact dV.1 i _ (CA g));cases c with|m b n=>(cases d:box Y b with|none=>simp[lz,gi,d,gK,eN] at j|some x=>have:=k.keep b x (l b (by simp only[eB,List.mem_flatMap];exact⟨_,g,by simp[iR]⟩)) d;simp only[lz,gi,d,this])|_=>rfl
def aRA{e:TypeId}{z d:Nat}{zs cs:List AV}{Y:ae}{K:be}(b:L zs=z)(l:L cs=z)(j:0<z)(m:d<L Y)(k:∀v Y',Fx Y Y' []->bK Y (d,v)->box Y' (d,v)=V ⟨e,z,U,U,[cs]⟩->K (.p (d,v) 0 0) Y'):eV (bs e zs Y d) λp s=>sV (aK z s p (.a cs)) λs'=>K p s':=by refine alI b j m λv o f c h=>?_;refine cy (y:=z) (cs:=cs) h rfl l (by rw[b];omega) λn g i=>?_;refine k v n ((f.trans g).mono (by simp only[dW,cE];rintro e rfl;exact .inr c.no)) c ?_;rw[i];simp[b]
def qr{Y:ae}{b:Id}{z:Nat}{e:TypeId}{o:Bool}{r cs:List AV}{K:ae->Prop}(g:box Y b=V ⟨e,z,o,U,[r]⟩)(i:L r=z)(h:L cs=z)(f:∀Y',Fx Y Y' [b]->box Y' b=V ⟨e,z,o,U,[cs]⟩->K Y'):sV (aK z Y (.p b 0 0) (.a cs)) K:=by refine cy (y:=z) (cs:=cs) g rfl h (by omega) λj c d=>f j c ?_;rw[d];simp[<-i]
def bdJ{Y:ae}{q:Option Nat}{cs:List AV}:kb q Y (.q cs)=aN q cs:=rfl
def A0{Y:ae}{b:Id}{j z:Nat}{e:TypeId}{o:Bool}{r:List AV}{x:AV}{K:ae->Prop}(g:box Y b=V ⟨e,z,o,U,[r]⟩)(i:eY x=V [x])(h:j<L r)(f:∀Y',Fx Y Y' [b]->box Y' b=V ⟨e,z,o,U,[r.set j x]⟩->K Y'):sV (aK 1 Y (.p b 0 j) x) K:=by refine cy (y:=1) (cs:=[x]) g i rfl (by omega) λk c d=>f k c ?_;rw[d,List.set_eq_take_append_cons_drop,bX h];simp
def aPW{i:Nat}{ys:List AV}{R b K:d7}(h:Ct i ys R)(c:ys.all iX=U)(d:∀r,R r->b r/\K r):fW (cX i) ys b K:=nX h c d
def a6h{x:fc}:iX (.a (fc.c x))=U:=by simp[iX,eN,aoH,sl]
def aS7{x:eo}:iX (.a (eo.c x))=U:=by simp[iX,eN,apT,sl]
def aV2{x:AV}(h:iX x=U):[x].all iX=U:=by simp[h]
def apQ{Y:ae}{e:TypeId}{z d by' n:Nat}{zs:List AV}{a:AV}{aa new:List (List AV)}{t o:Bool}{K:be}(h:gm Y e z a aa)(m:L Y=n)(q:∀r∈aa,L r=z)(p:∀r∈new,L r=z)(g:new≠[])(j:(L aa+L new)*(by'+1)<=1099511627776)(i:∀c Y',bc Y' e z c (aa++new)->Fx Y Y' (aA a)->(∀b∈aA c,bK Y b/\b.1=d)->K c Y')(s:L zs=z:=by exact rfl)(f:0<z:=by decide)(k:d<n:=by decide):eV (j5 e zs by' Y d a (.l new t o)) K:=qs h s f (m▸k) q p g j i
def anu{e:TypeId}{z d n:Nat}{zs cs:List AV}{Y:ae}{K:be}(h:L Y=n)(c:∀v Y',Fx Y Y' []->bK Y (d,v)->box Y' (d,v)=V ⟨e,z,U,U,[cs]⟩->K (.p (d,v) 0 0) Y')(i:L zs=z:=by exact rfl)(f:L cs=z:=by exact rfl)(b:0<z:=by decide)(g:d<n:=by decide):eV (bs e zs Y d) λp s=>sV (aK z s p (.a cs)) λs'=>K p s':=aRA i f b (h▸g) c
def isI(r:AV):Prop:=∃x:Int,r=iv x
def isB(r:AV):Prop:=∃b:Bool,r=bv b
def aPG{x:Int}:isI (iv x)=True:=aRI ⟨x,rfl⟩
def aNP{b:Bool}:isB (bv b)=True:=aRI ⟨b,rfl⟩
def aP1{c:Prop}[Decidable c]{v:AV}{K:d7}:rV (if c then V v else J) K=(c/\K v):=by by_cases h:c<;>simp[h,rV]
def aWE(r:AV):Prop:=∃(x:Int) (b:Bool),r= .t [iv x,bv b]
def aQ1(r:AV):Prop:=∃x y:Int,r= .t [iv x,iv y]
def a6D{x:Int}{b:Bool}:aWE (.t [iv x,bv b])=True:=aRI ⟨x,b,rfl⟩
def aO2{x y:Int}:aQ1 (.t [iv x,iv y])=True:=aRI ⟨x,y,rfl⟩
def bd7{R:d7}{Y:ae}{x y:Int}:aE R Y [iv x,iv y]=R (.t [iv x,iv y]):=by simp[aE,jS,iZ,dQ,kG,pF,nj]
def aTb{p:Nat->Bool}{n:Nat}: -1<=uo p n/\uo p n<n:=by unfold uo;split;rename_i i h;have:=fq.1 (List.mem_of_find?_eq_some h);omega;omega
def aXc(b:Bool):Ct 248 [bv b] (·=iv (if b then 1 else 0)):=by refine bgS λs0 c a=>?_;cases b<;>simp[a1q,u1,ah]
def aOT:FT:=lH aXc
def bbU{b Lw K}:=np aOT aXc b Lw K
def aXa(i n:Int):Ct 226 [iv i,iv n] (λr=>isI r):=by refine bgQ λs0 b a=>?_;simp+contextual only[a1m,u0,u1,aPR,↓uL,aP1,aPG];refine⟨λh=>trivial,λh=>⟨by simp only[o8] at h;omega,?_⟩⟩;simp+contextual only[a1o,a1n,↓uL,u0,u1,aPG,vb,y6]
def aSe:FT:=aRd aXa
def bbS{i n Lw K}:=aWg aSe aXa i n Lw K
def aXg(o:Int):Ct 196 [iv o] (·=bv (Q (1<=o)&&Q (o<=5))):=by refine bgW λs0 b a=>?_;simp+contextual only[a1M,u0,u1,↓uL]
def aSf:FT:=lH aXg
def bbY{o Lw K}:=np aSf aXg o Lw K
def aXk(i n:Int):Ct 167 [iv i,iv n] (·=bv (dh i n)):=by refine bg7 λs0 b a=>?_;simp+contextual only[a2y,u0,u1,dh,↓uL]
def aN3:FT:=lI aXk
def bb2{i n Lw K}:=nq aN3 aXk i n Lw K
def aXm(l:List dS)(s:ByteArray)(a:L l<4611686018427387904):Ct 176 [sl dS.c l,st s] (λr=>isI r):=by refine bg9 λs0 g b=>?_;simp only[a2D];refine C7 (L l) (λk=>True) trivial λk f e=>?_;simp+contextual only[a2E,u0,u1,ix,rk,bh,aPG,vb,mn,vm,↓uL];exactλh=>⟨bA h,λd=>gS (aL h) a trivial⟩
def aQE:FT:=pn aXm
def bb4{l s Lw K}:=rQ aQE aXm l s Lw K
def aXd(w:br)(s:ByteArray)(g:L w.cells<4611686018427387904):Ct 236 [.a w.c,st s] (·=iv (uo (λi=>Q ((gd w.cells i).name=s)) (L w.cells))):=by refine bgT rfl λo n e l=>?_;simp only[a1r];refine C7 (L w.cells) (λk=>∀j,j<k->Q ((gd w.cells j).name=s)=I) (by simp) λk m d=>?_;simp+contextual only[a1s,u0,u1,e,ix,rk,aj,bh,↓uL];refine⟨λh=>⟨bA h,λb=>?_,λb=>gS (aL h) g (jf d b)⟩,λh=>?_⟩;rw[KW (aL h) b d];rw[KX (λi f=>d i (C3 f (bw h)))]
def aQD:FT:=gz aXd
def bbV{w s Lw K}:=gX aQD aXd w s Lw K
def aOB(l:List w6)(s:ByteArray):Int:=uo (λi=>Q ((gd l i).name=s)) (L l)
def aYi(l:List xt)(s:ByteArray):Int:=uo (λi=>Q ((gd l i).name=s)) (L l)
def aWX(l:List w6)(s:ByteArray)(e:L l<4611686018427387904):Ct 204 [sl w6.c l,st s] (·=iv (aOB l s)):=by refine bgB λn m f=>?_;simp only[a0p];refine C7 (L l) (λk=>∀j,j<k->Q ((gd l j).name=s)=I) (by simp) λk g b=>?_;simp+contextual only[a0q,u0,u1,y9,rk,gw,bh,↓uL];refine⟨λh=>⟨bA h,λa=>?_,λa=>gS (aL h) e (jf b a)⟩,λh=>?_⟩;rw[aOB,KW (aL h) a b];rw[aOB,KX (λi d=>b i (C3 d (bw h)))]
def aPO:FT:=gz aWX
def bbF{l s Lw K}:=gX aPO aWX l s Lw K (j:=by simp+contextual only[ij,Nb])
def aW2(l:List xt)(s:ByteArray)(e:L l<4611686018427387904):Ct 205 [sl xt.c l,st s] (·=iv (aYi l s)):=by refine bgG λn m f=>?_;simp only[a0C];refine C7 (L l) (λk=>∀j,j<k->Q ((gd l j).name=s)=I) (by simp) λk g b=>?_;simp+contextual only[a0D,u0,u1,y9,rk,gw,bh,↓uL];refine⟨λh=>⟨bA h,λa=>?_,λa=>gS (aL h) e (jf b a)⟩,λh=>?_⟩;rw[aYi,KW (aL h) a b];rw[aYi,KX (λi d=>b i (C3 d (bw h)))]
def aP9:FT:=gz aW2
def bbK{l s Lw K}:=gX aP9 aW2 l s Lw K (j:=by simp+contextual only[ij,Nb])
def aXp(n:Int):Ct 228 [iv n] (λr=>isI r):=by refine bhe λs0 b a=>?_;simp+contextual only[a24,u0,u1,aPG,vb,y6,↓uL]
def aSh:FT:=aP7 aXp
def bb7{n Lw K}:=aRM aSh aXp n Lw K
def aWQ(n:Int):Ct 260 [iv n] (λr=>isI r):=by refine bgt λs0 b a=>?_;simp+contextual only[a0e,u0,u1,aPG,vb,y6,↓uL]
def aTZ:FT:=aP7 aWQ
def bby{n Lw K}:=aRM aTZ aWQ n Lw K
def aW6(a b:Int):Ct 232 [iv a,iv b] (·=iv (if a≠0 then a else b)):=by refine bgK λs0 d c=>?_;simp+contextual only[a0S,u0,u1,↓uL];exact⟨λh=>by rw[bX (nt h)],λh=>by rw[cj (aNG h)]⟩
def aOi:FT:=lI aW6
def bbO{a b Lw K}:=nq aOi aW6 a b Lw K
def aW5(b:Bool):Ct 235 [bv b] (·=iv (if b then 7 else 0)):=by refine bgJ λs0 c a=>?_;cases b<;>simp[a0R,u1,ah]
def aOS:FT:=lH aW5
def bbN{b Lw K}:=np aOS aW5 b Lw K
def aWU(e:fc):Ct 250 [.a e.c] (λr=>isB r):=by refine bgy aN9 λg f b d=>?_;simp+contextual only[a0l,u0,u1,b,gw,aj,aNP,↓uL]
def aT2:FT:=aP7 aWU
def bbC{e Lw K}:=aRM aT2 aWU e Lw K (j:=by simp+contextual only[ij,Nb])
def aWP(n:Int):Ct 126 [iv n] (·= .a (fc.mk 1 n ⟨#[]⟩ []).c):=by refine aDq (bgs λs0 d i=>?_);simp only[a0c];refine mo d λj e f=>?_;have b:bM aOP alz [(0,(iv 1)),(1,iv n)]=V (.a [iv 1,iv n,sv [], .l [] U U]):=rfl;simp only[a0d,b,aY,↓uL];refine gN f (by rw[e.1,d];decide) rfl rfl λk h g=>?_;simp only[u0,u1,g,aj,aN,bZ,vw,dA,vg,List.take_succ_cons,CE,↓uL];exact aQ7 (by rw[aoH];rfl) (by rw[aoH];rfl)
def aQC:FT:=lH aWP
def bbx{n Lw K}:=np aQC aWP n Lw K
def A1(i:lF):List Int:=
 bif Q (i.op=1)||(Q (i.op=6)||(Q (i.op=10)||Q (i.op=27))) then[i.a]
 else bif Q (i.op=2)||Q (i.op=3) then[i.a,i.b]
 else bif Q (i.op=4) then[i.a,i.b,i.k]
 else bif Q (i.op=7) then[i.a,i.k]
 else bif Q (i.op=8)||Q (i.op=26) then[i.b]
 else bif Q (i.op=9) then[i.b,i.k]
 else[]
attribute[local irreducible] aX
def aRU(l:List Int)(r:AV):Prop:=∃t o,r= .l (l.map ci) t o
def rLI{l:List Int}{Y:ae}{t o:Bool}:aE (λr=>aRU l r) Y [.l (l.map ci) t o]=True:=aRI ⟨rfl,t,o,rfl⟩
def bd0{Y:ae}{t o:Bool}:aE (λr=>aRU [] r) Y [.l [] t o]=True:=aRI ⟨rfl,t,o,rfl⟩
def aXf(i:lF):Ct 122 [.a i.c] (λr=>aRU (A1 i) r):=by refine bgV rfl λf e b d=>?_;simp only[a1F,u0,u1,b,gw,aj,↓uL];simp only[a1K,iM,aY,sw,↓uL];simp only[a1H,aI,au,↓uL];simp only[f8,a1L,iM,aY,sw,↓uL];simp only[a1I,aI,au,↓uL];simp only[f8,a1J,iM,aY,sw,↓uL];simp only[a1G,aI,au,↓uL];simp+contextual (maxSteps:=2000000) only[↓iS,u0,u1,b,gw,aj,a5Y,fi,xA,A1,aly,aIc,rLI,bd0,vb,y6,↓uL]
def aRj:FT:=aP7 aXf
def bbX{i Lw K}:=aRM aRj aXf i Lw K (j:=by simp+contextual only[ij,Nb])
def aTp:List Int:=[3,3,3,3,3,4,4,4,4,4,5,5,5,6,6,6,7,7,7,8,9,10,11,12,13,14,14,15,16,16,17,17,18,18,19,20,1,1,2,21,22,23,23]
def aXF:Ct 112 [] (λr=>aRU aTp r):=by refine bhz λs0 c b=>?_;have a:∀R,aVS s0 R=aE R s0 [.l (aTp.map ci) U U]:=λR=>(by kernel_rfl);show aVS s0 _;rw[a];exact⟨rfl,U,U,rfl⟩
def aUt:FT:=BK aXF
def bcm{Lw K}:=al3 aUt aXF Lw K
def aWO(s:ByteArray):Ct 214 [st s] (·= .a (fc.mk 2 0 s []).c):=by refine aDq (bgr λs0 d i=>?_);simp only[a0a];refine mo d λj e f=>?_;have b:bM aOP alz [(0,(iv 2)),(2,st s)]=V (.a [iv 2,iv 0,st s, .l [] U U]):=rfl;simp only[a0b,b,aY,↓uL];refine gN f (by rw[e.1,d];decide) rfl rfl λk h g=>?_;simp only[u0,u1,g,aj,aN,bZ,vw,dA,vg,List.take_succ_cons,CE,↓uL];exact aQ7 (by rw[aoH];rfl) (by rw[aoH];rfl)
def aQB:FT:=lH aWO
def bbw{s Lw K}:=np aQB aWO s Lw K
def aXK:List Int:=[3,3,4,4,5,6,7,8,9,10,11,12,13,14,15,16,18,19,20,21,22,23,2]
def aPY(o:Int):Int:=bif Q (o<6)||Q (28<o) then 0 else gd aXK (o-6).toNat
def aXv(o:Int):Ct 198 [iv o] (·=iv (aPY o)):=by refine bhn λs0 c b=>?_;have a:∀R,aVs (iv o) s0 R=aVt (iv o) R (.l (aXK.map ci) U U) s0:=λR=>(by kernel_rfl);show aVs (iv o) s0 _;rw[a];simp+contextual only[aVt,u0,u1,tf,rk,↓uL];refine⟨λh=>by rw[aPY,h];rfl,λh=>?_⟩;rw[aPY,h];simp only[cP,o8] at h;rw[eM (by omega) (by omega)];exact⟨⟨by omega,by show o-6<23;omega⟩,rfl⟩
def aUm:FT:=lH aXv
def bcd{o Lw K}:=np aUm aXv o Lw K
def aNF:List w6:=[⟨1,0,⟨#[120]⟩,0,0,⟨#[]⟩⟩,⟨1,0,⟨#[121]⟩,0,1,⟨#[]⟩⟩,⟨2,0,⟨#[118]⟩,0,0,⟨#[]⟩⟩,⟨1,0,⟨#[113]⟩,2,0,⟨#[]⟩⟩,⟨3,0,⟨#[109]⟩,0,0,⟨#[]⟩⟩,⟨3,0,⟨#[110]⟩,0,0,⟨#[]⟩⟩,⟨4,0,⟨#[114]⟩,0,0,⟨#[]⟩⟩,⟨5,0,⟨#[99]⟩,0,0,⟨#[109]⟩⟩,⟨6,0,⟨#[102]⟩,0,0,⟨#[]⟩⟩]
def aWN:Ct 123 [] (·=sl w6.c aNF):=by refine aDq (bgk λs0 d b=>?_);have a:∀R,aUG s0 R=aE R s0 [.l (aNF.map w6.c) U U]:=λR=>(by kernel_rfl);show aUG s0 _;rw[a];exact aQ7 rfl rfl
def aSd:FT:=BJ aWN
def bbv{Lw K}:=al2 aSd aWN Lw K
attribute[local semireducible] aX
def VW(l:List aP)(t:Int)(j:Nat):Nat:=L ((l.take j).filter λe=>Q (e.aq=t))
def aV8{l:List aP}{t:Int}{j:Nat}(h:j<L l):VW l t (j+1)=VW l t j+if(gd l j).aq=t then 1 else 0:=by rw[VW,iJ h,me,bT h,P8];by_cases a:(l[j]).aq=t<;>simp[a,VW]
def a6c{l:List aP}{t:Int}{j:Nat}:VW l t j<=j:=gl (fZ _ _) (by simp;omega)
def aOE(l:List aP)(i:Nat)(t n:Int):Prop:=∃j,j<i/\(gd l j).aq=t/\((gd l j).kind=3\/(gd l j).kind=23)/\(VW l t j:Int)=n
def aXy(l:List aP)(i:Nat)(t:Int)(f:List Int)(z:i<=L l/\L l<1000000/\L f<4611686018427387904):Ct 75 [sl aP.c l,iv i,iv t,sl ci f] (λr=>∃b,r=bv b/\(b=U->∀n∈f,aOE l i t n)):=by obtain⟨D,E,F⟩:=z;refine bhq λs0 H C=>?_;simp only[a4p];refine C7 (L f) (λk=>∀j,j<k->aOE l i t (gd f j)) (by simp) λk G p=>?_;simp only[a4t,aI,u0,u1,↓uL];refine⟨λh=>?_,λh=>⟨U,rfl,λ_=>?_⟩⟩;(focus refine yh (λs:Bool×Nat=>[iv (VW l t s.2),bv s.1,iv s.2]) 2 i (λs=>s.2<=i/\(s.1=U->aOE l i t (gd f k))) (I,0) ⟨by omega,by simp⟩ ?_;rintro⟨A,j⟩ ⟨q,u⟩;simp only[a4s,aI,au,u0,u1,↓uL];refine⟨λh=>?_,λh=>⟨λd=>⟨I,rfl,by simp⟩,λd=>?_⟩⟩;(focus have o:j<i:=aL h;have m:j<L l:=(by omega);have e:=aV8 (t:=t) m;have B:=a6c (l:=l) (t:=t) (j:=j);have g:∀(a b:Bool) (c:Int),c=((VW l t (j+1):Nat):Int)->(b=U->aOE l i t (gd f k))->tI (λs:Bool×Nat=>[iv (VW l t s.2),bv s.1,iv s.2]) (λs=>s.2<=i/\(s.1=U->aOE l i t (gd f k))) [iv c,bv b,iv ((j+1:Nat):Int)]/\pM 2 i [iv c,bv b,iv ((j+1:Nat):Int)]<pM 2 i [iv (VW l t j),bv a,iv j]:=λa b c p h=>(by subst p;exact wN (enc:=λs:Bool×Nat=>[iv (VW l t s.2),bv s.1,iv s.2]) (s:=(a,j)) (s':=(b,j+1)) rfl rfl rfl o ⟨o,h⟩);(cases A<;>simp+contextual only[a4r,ix,bh,u0,u1,rk,gw,↓uL,jA,jN,a4q,uO,aly,aIc]);(all_goals refine⟨dJ m,λd=>?_,λd=>?_⟩;all_goals rw[fX (by omega)]);exact g _ _ _ (by simp at d;rw[e,cj d,kP]) (by simp);simp at d;rw[bX d] at e;rw[fX (by omega)];refine⟨dJ (aL ‹_›),λ_=>dJ m,λ_ _=>dJ m,?_⟩;(cases v:Q ((VW l t j:Int)=gd f k)<;>cases x:Q ((gd l j).kind=3)<;>simp only[aly,aIc,qE,xM,ru,qc,fh,kN]);exact g _ _ _ (by rw[e]) (by simp);exact g _ _ _ (by rw[e]) (by simp);exact g _ _ _ (by rw[e]) λw=>⟨j,o,d, .inr (by simpa using w),by simpa using v⟩;exact g _ _ _ (by rw[e]) λw=>⟨j,o,d, .inl (by simpa using x),by simpa using v⟩;exact g _ _ _ (by simp at d;rw[e,cj d,kP]) u;simp at d;rw[bX d] at e;rw[fX (by omega)];exact g _ _ _ (by rw[e]) u);refine gS (aL ‹_›) (by omega) (jf p ?_);simp at d;exact u d);intro n y;obtain⟨j,q,rfl⟩:=ou y;rw[<-bT q];exact p j (C3 q (bw h))
def aSi:FT:=ER aXy
def bcg{l i t ns Lw K}:=axQ aSi aXy l i t ns Lw K (j:=by simp+contextual only[ij,Int.natCast_inj])
section
variable{Q:d7}{Y:ae}{xs:List AV}
def bd1:(∀r,isB r->Q r)=∀b,Q (bv b):=vp ⟨λh b=>h _ ⟨b,rfl⟩,by rintro h r ⟨b,rfl⟩;exact h b⟩
def a65:(∀r,isI r->Q r)=∀x,Q (iv x):=vp ⟨λh b=>h _ ⟨b,rfl⟩,by rintro h r ⟨b,rfl⟩;exact h b⟩
def bd4:(∀r,aQ1 r->Q r)=∀x y,Q (.t [iv x,iv y]):=vp ⟨λh x b=>h _ ⟨x,b,rfl⟩,by rintro h r ⟨x,b,rfl⟩;exact h x b⟩
def bdO{v w:Value}:lo Y xs (.t [.s v, .s w])=True:=by simp[lo,uN,yv,wD]
def bcB{α:Type}[Nonempty α]{b:Bool}{f:α->AV}{K:d7}:gB b (λk=>∀x,k (f x)) K=∀x,K (gv b (f x)):=by(cases b);exact vp ⟨λh x=>h,λh=>h (Classical.choice ‹_›)⟩;rfl
def bcD{α:Type}[Nonempty α]{b:Bool}{S:Prop}{f:α->AV}{K:d7}:gB b (λk=>S/\∀x,k (f x)) K=((b=U->S)/\∀x,K (gv b (f x))):=by(cases b);exact vp ⟨λh=>⟨(λh=>by cases h),λx=>h⟩,λh=>h.2 (Classical.choice ‹_›)⟩;simp[gB,gv]
def bcC{b:Bool}{f:Bool->AV}{K:d7}:gB b (λk=>∀x,k (f x)) K=∀x,K (gv b (f x)):=bcB
def bcE{b:Bool}{S:Prop}{f:Bool->AV}{K:d7}:gB b (λk=>S/\∀x,k (f x)) K=((b=U->S)/\∀x,K (gv b (f x))):=bcD
def rg:=ai @bcC<|@bcE
def rr:=ai @bd1<|ai @a65<|ai @bd4<|ai @bdO<|ai @AL<|ai @oJ<|ai @pG<|ai @bdJ<|@bd7
end
def a6n{a:Int}{p:Int->Prop}:(∃k,iv a=iv k/\p k)=p a:=vp ⟨by rintro⟨k,h,b⟩;simp at h;rw[h];exact b,λh=>⟨a,rfl,h⟩⟩
def aRB{a b:ByteArray}:wl .neq 0 [] (st a) (st b)=V (bv (Q (a≠b))):=by have h:=@alq a b;simp only[wl,zP,df,bE,AV.s.injEq,mV] at h;simp only[wl,zP,df,h,decide_not]
def a7w:dO:=(248,aOT)::(226,aSe)::(196,aSf)::(167,aN3)::(176,aQE)::(236,aQD)::(204,aPO)::(205,aP9)::(228,aSh)::(260,aTZ)::(232,aOi)::(235,aOS)::(250,aT2)::(126,aQC)::(122,aRj)::(112,aUt)::(214,aQB)::(198,aUm)::(123,aSd)::(75,aSi)::apt
def aOh:eJ a7w:=it (nH aXc) (it (aYm aXa) (it (nH aXg) (it (nI aXk) (it (aN0 aXm) (it (aCb aXd) (it (aCb aWX) (it (aCb aW2) (it (aR6 aXp) (it (aR6 aWQ) (it (nI aW6) (it (nH aW5) (it (aR6 aWU (λ_=>by simp only[Cs,aqG,aOW,Bool.and_self])) (it (nH aWP) (it (aR6 aXf) (it (apN aXF) (it (nH aWO) (it (nH aXv) (it (apM aWN) (it (aM6 aXy) (Ey))))))))))))))))))))
def aOX:=ai @bbU<|ai @bbS<|ai @bbY<|ai @bb2<|ai @bb4<|ai @bbV<|ai @bbF<|ai @bbK<|ai @bb7<|ai @bby<|ai @bbO<|ai @bbN<|ai @bbC<|ai @bbx<|ai @bbX<|ai @bcm<|ai @bbw<|ai @bcd<|ai @bbv<|ai @bcg<|@Lb
end Go.Ab
