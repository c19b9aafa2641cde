/- Part of the proof of WitnessSchedules. -/
import Derived.Test.YtdgiigkneimbdaaGreatDoorC
set_option linter.all false
set_option maxRecDepth 100000
open And renaming intro->ai
open Bool renaming and_eq_true->bN,and_false->qc,eq_false_or_eq_true->sq,false->I,false_and->kM,false_eq_true->eE,false_or->lG,not_eq_false'->fK,not_eq_true'->eH,not_true->fh,or_eq_false_iff->cP,or_eq_true->fH,or_false->kz,true->U,true_and->iw,true_eq_false->sr
open Decidable renaming decide->Q,not_not->aNS
open Eq renaming mpr->aND
open Go.Code renaming region->BM,ret->ET
open Go.IntKind renaming i64->dq
open Go.Proofs.Tryz renaming prog->aS
open Int renaming toNat_natCast->bh,toNat_of_nonneg->bsR
open List renaming Pairwise->Cr,all_eq_true->dV,any_cons->Cu,any_nil->Cv,append_assoc->bje,append_nil->cL,cons_append->zn,drop->aOz,drop_eq_getElem_cons->Cw,drop_succ_cons->nM,drop_zero->ip,ext_getElem->biF,filter_append->me,filter_eq_nil_iff->RK,filter_eq_self->GA,flatMap_cons->Cz,flatMap_nil->RN,getD_eq_getElem?_getD->btc,getElem?_append_right->xf,getElem?_eq_getElem->eC,getElem?_map->ve,getElem?_set_ne->oq,getElem_drop->aqQ,getElem_of_mem->ou,length->L,length_append->a6G,length_cons->bZ,length_drop->oz,length_filter_le->fZ,length_map->bJ,length_nil->bhZ,length_pos_iff->aqS,length_range->bnJ,length_replicate->oA,length_set->zq,length_singleton->GJ,length_take->gC,map_append->dg,map_congr_left->ja,map_cons->ji,map_flatMap->RT,map_id->brw,map_map->vA,map_nil->mU,map_set->bsl,mem_append->dF,mem_cons->eW,mem_filter->jW,mem_flatMap->iI,mem_iff_getElem->RU,mem_map->dN,mem_range->fq,mem_singleton->cE,nil_append->dW,nodup_append->xl,nodup_range->GM,not_mem_nil->ql,pairwise_iff_getElem->GN,range->aH,range_succ->qn,replicate->er,set_append_right->CD,set_cons_zero->RY,take_length->gV,take_of_length_le->oB,take_succ_eq_append_getElem->iJ
open Nat renaming add_zero->kP,eq_zero_or_pos->oD,le_antisymm->bP,le_of_lt->aYB,le_refl->dA,le_trans->gl,lt_of_le_of_lt->rC,lt_of_lt_of_le->bpL,lt_or_ge->jj,min_eq_left->rD,mul_le_mul->xn,reduceAdd->dc,sub_self->tM,zero_add->aj,zero_le->mh
open Option renaming bind_some->a6X,getD_some->mi,isSome_iff_exists->zz,map_some->df,none->J,some->V,some.injEq->aOe
namespace Go.Ab
open Go Go.RowKit Go.Proofs Go.Proofs.Tryz
def aD7{t Y}{d:Nat}{K}(a:d<L Y)(c:∀Y',Fr Y Y' [d]->box Y' (d,(aZ Y d).ver+1)=V ⟨t,0,U,U,[[]]⟩->K (.g 0 (d,(aZ Y d).ver+1) 0 0) Y'):eV (oS t Y d) K:=by have b:oS t Y d=V (.g 0 (d,(aZ Y d).ver+1) 0 0,put Y d ⟨t,0,U,U,[[]]⟩):=(by simp[oS,vg,a,lA]);rw[b];exact c _ ⟨D3,λk f=>bwp<|λe=>f<|by simp[e]⟩<|zQ a A
abbrev yG(l:List ByteArray):List (Value×Value):=l.map λn=>(.string n, .bool U)
theorem av7{a b:ByteArray}(h:a≠b):(a==b)=I:=by obtain⟨a⟩:=a;obtain⟨b⟩:=b;have:a≠b:=λe=>h (by rw[e]);show(a==b)=I;simp_all
def KU{s}:∀{l i},s∉l->lg ⟨I,[], .bool I⟩ (.string s) (yG l) i=V J
 |[],_,_=>rfl
 |x::l,i,h=>by
  have a:(s==x)=I:=(by grind [av7])
  simp only[yG,ji,lg,pO,a]
  exact KU vB
def aDr{Y b t s l o n}(a:box Y b=V ⟨t,0,U,U,[(yG l).map ent]⟩)(h:s∉l):oP ⟨I,[], .bool I⟩ Y (.g 0 b o n) (st s) I=V (bv I):=by simp only[oP,ww,a,a6X,ul,aNR,a6F,KG,qR,KU h,eE,btd]
def aEb{Y b t s l o n K}(a:box Y b=V ⟨t,0,U,U,[(yG l).map ent]⟩)(h:s∉l)(c:∀Y',Fr Y Y' [b.1]->box Y' b=V ⟨t,0,U,U,[(yG<|l++[s]).map ent]⟩->K Y'):sV (muA ⟨I,[], .bool I⟩ Y (.g 0 b o n) (st s)<|bv U) K:=by simp only[muA,ww,a,ul,aNR,a6F,KG,qR,KU h];refine c _ ⟨uC,λk d=>wy<|λe=>d<|by simp[e]⟩ ?_;rw[lO a];simp
def aBJ{Y ds e a l}{k:Nat}{K}(b:Gr Y ds e 1 a<|l.map cs)(g:k<L l):(rV (cz 1 Y a<|iv k) λt=>rV (sA J Y t) K)=K (st<|gd l k):=by obtain⟨c,_⟩|⟨d,v,rfl,_,f⟩:=b;simp_all;simp_all [cz,rV,sA,iE,aN,aNV]
def avR{l s}(h:¬0<=tX l s):s∉l:=by grind [decide,List.findIdx?_isSome,List.any_eq_true,zz,tX]
def wB(w:aOw)(vs:List ByteArray):List ByteArray:=vs++w.ak.map (·.name)++w.bC.map (·.name)++w.bU++w.ay
def NJ(w)(vs)(hp:(∀j,j<L (wB w vs)->yn (wB w vs) j=I)/\L (wB w vs)<=100):Ct 141 [.a w.c,sl cs vs] (·=bv U):=aJZ A λs2 hl R h0=>by obtain⟨hN,al⟩:=hp;have:L vs+L w.ak+L w.bC+L w.bU+L w.ay<=100:=(by grind [wB,a6G,bJ]);refine fP (bA:=[]) (ds:=[15,27,40,45,49]) (new:=vs.map cs) Gr.nil A H H Z O oX NA λa0 Y0 g0 u=>?_;have c0:=u.bt R;simp only[qz 4,eT,c0];refine iu (λa i=>[a,iv i]) 1 [15,27,40,45,49] [15,27,40,45,49,7] 9 1 (L w.ak) (λk=>(vs++(w.ak.take k).map (·.name)).map cs) (λ_=>True) trivial X λk a1 N ag _ g1 m=>?_;have E:=m.bt c0;have l1:L N=4096:=(by rw[m.1,u.1,hl]);simp only[qz 31,qy 6,fD,E,bh];refine⟨λr=>⟨vp r,?_⟩,λr=>?_⟩;refine eF A rfl H Z λz d S=>?_;simp only[qz 8,qy 10,nq,S];refine fP (g1.fr d H) A H H bkb oX O NA λP B G b=>?_;simp only[qz 12,gt1,cS,aY];refine hJ (aL r) ?_<|m.trans<|(d.mono H).trans<|b.mono H;grind [Ez,aL];obtain rfl:k=L w.ak:=X;rw[gV] at g1;refine iu (λa i=>[a,iv i]) 1 [15,27,40,45,49] [15,27,40,45,49,9] 9 1 (L w.bC) (λk=>(vs++w.ak.map (·.name)++(w.bC.take k).map (·.name)).map cs) (λ_=>True) trivial X λk a2 z ah _ q d=>?_;have F:=d.bt E;have l2:L z=4096:=(by rw[d.1,l1]);simp only[qz 73,qy 14,fD,F,bh];refine⟨λs=>⟨vp s,?_⟩,λs=>?_⟩;refine eF A rfl H Z λB b T=>?_;simp only[qz 16,qy 18,nq,T];refine fP (q.fr b H) A H H bkb oX O NA λC o K n=>?_;simp only[qz 20,gt1,cS,aY];refine hJ (aL s) ?_<|d.trans<|(b.mono H).trans<|n.mono H;grind [Ez,aL];obtain rfl:k=L w.bC:=X;rw[gV] at q;refine fP (new:=w.bU.map cs) q A H H Z oX oX NA λP B G b=>?_;have W:=b.bt F;simp only[qz 22,qy 24,eT,W];refine fP (new:=w.ay.map cs) G A H H bkb X oX NA λC o K n=>?_;have l4:L o=4096:=(by rw[n.1,b.1,l2]);refine aD7 Z λp x b5=>?_;have f:=K.fr x H;rw[<-dg,<-dg] at f;change Gr p _ 9 1 C ((wB w vs).map cs) at f;have:L p=4096:=(by rw[x.1,l4]);generalize wB w vs=g at*;generalize(aZ o 50).ver+1=v at*;simp only[qz 26,aDk f,aY,bJ];refine yV (L g) (λk _ Y'=>box Y' (50,v)=V ⟨310,0,U,U,[(yG<|g.take k).map ent]⟩/\Fr p Y' [50]) (by grind [Fr.refl]) ?_;rintro k _ Y6 hk ⟨D,y⟩;have g6:=f.fr y H;simp only[qz 133,au,eQ];refine⟨λh=>?_,λh=>trivial⟩;have e:=aL h;have t:=hN k e;simp only[yn,cP,fK,aPs] at t;have l:=avR t.2;rw[aBJ g6 e];simp only[hZ,rW,t.1,aDr D l];refine⟨λh=>(nomatch h),?_⟩;intro _;refine aEb D l λY7 M b7=>?_;simp only[qz 28,au,eQ];refine yU e ⟨?_,y.trans M⟩;grind [iJ,aNV]
def EX:FT:=aIc NJ
def axX:=gX EX NJ (j:=bs5)
def PY(w)(s)(d:fN w s=U/\L w.bC<=2):Ct 79 [.a w.c, .a s.c] (·=bv U):=aMP A rfl λs0 l e f k=>by have b:=d.1;simp only[fN,bN,awG] at b;obtain⟨g,h,i,j⟩:=b;simp+contextual only[hH,e,f,rW,g,h,i,j,d.2];simp
def Gp:FT:=aIc PY
def azK:=gX Gp PY (j:=bs5)
def PT(w)(s)(d:fN w s=U/\L w.bC<=2):Ct 225 [.a w.c, .a s.c] (·=bv U):=aMK A rfl λs0 l e f k=>by have b:=d.1;simp only[fN,bN,awG] at b;obtain⟨g,h,i,j⟩:=b;simp+contextual only[hH,e,f,rW,g,h,i,j,d.2];simp
def Gk:FT:=aIc PT
def azF:=gX Gk PT (j:=bs5)
def QO(w:aOw)(s:aW)(t kind eI:Int):Bool:=
 bif Q (kind=6) then Q<|(gd s.ak eI.toNat).aPo= -1
 else bif Q (kind=10) then Q ((gd s.ak eI.toNat).aPo= -1)&&Q (L (gd s.ak eI.toNat).bk=0)
 else bif Q (kind=8) then Q ((gd s.ak eI.toNat).aPo= -1)&&!Q (t∈(gd s.ak eI.toNat).bk)
 else bif Q (kind=7)||Q (kind=11) then Q ((gd s.ak eI.toNat).aPo=t)
 else bif Q (kind=9) then Q<|t∈(gd s.ak eI.toNat).bk
 else bif Q (kind=12) then Q<|s.tx= -1
 else bif Q (kind=13) then Q<|s.tx=t
 else bif Q (kind=14) then !(gd s.ay t.toNat).atomic
 else bif Q (kind=15) then(gd s.ay t.toNat).atomic
 else bif Q (kind=16)||(Q (kind=18)||Q (kind=19)) then Q ((gd s.ak (gd w.bC eI.toNat).eg.toNat).aPo=t)
 else bif Q (kind=20) then Q (eI≠t)&&Q ((gd s.ay eI.toNat).cQ=0)
 else bif Q (kind=21) then Q (eI≠t)&&Q ((gd s.ay eI.toNat).cQ=5)
 else bif Q (kind=22) then !(gd s.done eI.toNat)
 else bif Q (kind=23) then gd s.done eI.toNat
 else U
def axG{w s t kind eI}:lc w s t kind eI=bif Q (kind=1) then Q ((gd s.ay t.toNat).cQ=1)
 else bif Q (kind=17) then Q ((gd s.ay t.toNat).cQ=4)&&(Q ((gd s.ay t.toNat).cond=eI)&&Q ((gd s.ak (gd w.bC eI.toNat).eg.toNat).aPo= -1))
 else bif Q ((gd s.ay t.toNat).cQ≠2) then I else QO w s t kind eI:=rfl
structure KF(w:aOw)(s:aW)(kind eI:Int):Prop where
 mI:aF (L w.bC) eI->aF (L s.ak) (gd w.bC eI.toNat).eg
 lk:6<=kind->kind<=11->aF (L s.ak) eI
 cd:16<=kind->kind<=19->aF (L w.bC) eI
 th:20<=kind->kind<=21->aF (L s.ay) eI
 dn:22<=kind->kind<=23->aF (L s.done) eI
def D0{w s kind eI}(c:lh w s=U)(f:named w kind eI=U):KF w s kind eI:=by obtain⟨a,b,d,e⟩:=iY c;exact⟨λh=>by rw[b];exact a _<|ii h,btC,(by grind [oT]),(by grind [Eb]),by grind [oU]⟩
def bBX(w)(s)(t kind eI:Int)(o:lh w s=U/\named w kind eI=U/\aF (L s.ay) t/\(∀l∈s.ak,L l.bk<100000)):Ct 279 [.a w.c, .a s.c,iv t,iv kind,iv eI] (·=bv (QO w s t kind eI)):=aK9 A rfl λF D j k C=>by obtain⟨m,n,f,y⟩:=o;obtain⟨v,E,z,G,B⟩:=D0 m n;have p:Q (kind=6)=U->aF (L s.ak) eI:=vB;have g:Q (kind=10)=U->aF (L s.ak) eI:=vB;have r:Q (kind=8)=U->aF (L s.ak) eI:=vB;have u:Q (kind=9)=U->aF (L s.ak) eI:=vB;have q:(Q (kind=7)||Q (kind=11))=U->aF (L s.ak) eI:=X;have b:(Q (kind=16)||(Q (kind=18)||Q (kind=19)))=U->aF (L w.bC) eI:=X;have h:Q (kind=20)=U->aF (L s.ay) eI:=vB;have i:Q (kind=21)=U->aF (L s.ay) eI:=vB;have d:Q (kind=22)=U->aF (L s.done) eI:=vB;have e:Q (kind=23)=U->aF (L s.done) eI:=vB;have x:aF (L s.ak) eI->L (gd s.ak eI.toNat).bk<4611686018427387904:=(by grind [ii]);have e0:(L (gd s.ak eI.toNat).bk:Int)=0↔L (gd s.ak eI.toNat).bk=0:=Z;simp+contextual (maxSteps:=3000000) only[bh0,qz 137,qz 135,qz 59,qz 57,au,↓iS,gj,rW,j,k];simp+contextual (maxSteps:=3000000) only[QO,aRa,bih,v,p,q,r,u,g,b,h,i,d,e,x,e0,f,Cq,FA,aNR,Bool.true_or,lG,Bool.or_true,kz,sr,eE,aPZ];done
def Fu:FT:=bpg bBX
def ayv:=KQ Fu bBX (j:=bs5)
structure nK(x:jY):Prop where
 wo:kB x.w
 ss:x.ss=(aH<|L x.w.ac).map λk=>(cY x.w k).eB
def nK.at{x}(h:nK x){k:Nat}(a:k<L x.w.ac):gd x.ss k=(cY x.w k).eB/\k<L x.ss:=by grind [nK.ss,aNV]
theorem qI{n i}(h:aF n i):i.toNat<n:=by have:=h.1;have:=h.2;omega
def nK.ix{x}(h:nK x){i:Int}(a:aF (L x.w.ac) i):aF (L x.ss) i/\gd x.ss i.toNat=(cY x.w i.toNat).eB:=by have b:=h.at (qI a);refine⟨⟨a.1,?_⟩,b.1⟩;omega
def nK.kf{x}(h:nK x){i j:Int}(b:aF (L x.w.ac) i)(c:aF (L x.w.ac) j):KF x.w.aQ (cY x.w j.toNat).eB (gd x.w.ac i.toNat).kind (gd x.w.ac i.toNat).eI:=by have a:=(h.wo.st _<|qI c).2;simp only[fN,bN] at a;exact D0 a.1 (h.wo.named<|qI b).1
def sG{x:jY}{Y}:dG Y (.a x.c)= .a x.c:=rfl
def btO{p:Prop}(h:p:=by grind [Go.Ab.Fr.box]):p:=h
def Of(x:jY)(i j:Int)(F:kB x.w/\aF (L x.w.ac) i/\aF (L x.w.ac) j/\i<j/\nh (gd x.w.ac i.toNat) (gd x.w.ac j.toNat)=U):Ct 148 [.a x.c,iv i,iv j] (·=bv (Q ((gd x.w.ac i.toNat).aq≠(gd x.w.ac j.toNat).aq)&&!(gd x.w.aQ.cells (gd x.w.ac i.toNat).eI.toNat).vol)):=aKP A λG m q R=>by obtain⟨S,D,E,K,k⟩:=F;have t:box G (3,1)=V ⟨172,16,U,U,[x.w.c++[sl aW.c x.ss]]⟩:=q;have n:aN (V 16) (x.w.c++[sl aW.c x.ss])=V (.a x.c):=A;simp+contextual only[gj,t,n,fi,qz 4,sG,rW,kj,D,E];have g:([i,j].all λi=>dh i<|L x.w.ac)=U:=btB;have l:Q (j<=i)=I:=NA;rw[g,l,k];refine⟨O,λh=>(nomatch h),λ_=>?_⟩;refine mo m λM o r=>?_;simp only[qz 6];refine mo (o.1.trans m) λN d s=>?_;simp only[qz 8];have u:=d.bt r;refine gN (cs:=aP.c<|gd x.w.ac i.toNat) u bkb A rfl λP e v=>?_;have y:=e.bt s;simp only[qz 10];refine gN (cs:=aP.c<|gd x.w.ac j.toNat) y bkb A rfl λp f C=>?_;have B:=f.bt v;have z:box p (3,1)=V ⟨172,16,U,U,[x.w.c++[sl aW.c x.ss]]⟩:=f.bt<|e.bt<|d.bt btO;simp only[qz 12];refine dT A ?_;have b:aF (L x.w.aQ.cells) (gd x.w.ac i.toNat).eI:=(by simp only[nh,bN,tT,fH,awG] at k;grind [qP,kB.named,qI]);simp+contextual only[fD,z,B,C,kj,b,Cq];done
def Ff:FT:=qe Of
def ayg:=sT Ff Of (j:=bs5)
def Oa(x)(j i:Int)(hp:nK x/\aF (L x.w.ac) i/\aF (L x.w.ac) j/\wtK (gd x.w.ac j.toNat).kind=U):Ct 239 [.a x.c,iv j,iv i] (·=bv (aOj x.w j i)):=aKK A λs2 u b1 h0=>by obtain⟨t,G,n,F⟩:=hp;have bb:box s2 (3,1)=V ⟨172,16,U,U,[x.w.c++[sl aW.c x.ss]]⟩:=b1;simp+contextual only[fD,bb,kj,G,n,Cq];refine mo u λS C b2=>?_;simp only[qz 4];refine mo (C.1.trans u) λY2 o b3=>?_;simp only[qz 6];have c2:=o.bt b2;refine gN (cs:=aP.c<|gd x.w.ac i.toNat) c2 bkb A rfl λY3 q d2=>?_;have d3:=q.bt b3;simp only[qz 8];refine gN (cs:=aP.c<|gd x.w.ac j.toNat) d3 bkb A rfl λs r D=>?_;have e2:=r.bt d2;have e1:box s (3,1)=V ⟨172,16,U,U,[x.w.c++[sl aW.c x.ss]]⟩:=r.bt<|q.bt<|o.bt btO;simp only[qz 10];refine dT A ?_;simp+contextual only[gj,e2,D,rW,F,qz 41,qz 53,qz 51,qz 39,qy 12,e1,kj,ND,sr,mb];obtain⟨a1,W⟩:=t.ix n;obtain⟨N,B,cd,th,dn⟩:=t.kf G n;have hL:L s=4096:=(by rw[r.1,q.1,o.1,C.1,u]);have M:=(t.wo.st _<|qI n).1.1;have key:∀{m:Int} {K:be},aF (L (cY x.w j.toNat).eB.ak) m->(∀(y:ae) (v:Nat),box y (8,(aZ S 8).ver+1)=V ⟨71,7,U,U,[aP.c<|gd x.w.ac j.toNat]⟩->box y (11,v)=V ⟨191,2,U,U,[cg.c<|gd (cY x.w j.toNat).eB.ak m.toNat]⟩->L (gd (cY x.w j.toNat).eB.ak m.toNat).bk<100000->K (.p (11,v) 0 0) y)->eV (alA 191 bu0 s 11) λy P=>sV (aK 2 P y<|AV.a (gd (cY x.w j.toNat).eB.ak m.toNat).c) (K y):=(by intro m K hm h;exact eF A rfl H Z λT R b=>h T _ (R.bt D) b<|M _<|ii hm);rw[W] at*;simp only[a1,Cq];simp only[wtK] at F;refine⟨(by grind [aOj]),λh=>⟨λk=>?_,λk=>⟨λe=>?_,λe=>⟨λl=>?_,λl=>⟨λf=>?_,λf=>⟨λE=>?_,λE=>?_⟩⟩⟩⟩⟩⟩;have g:=aNQ k;have:=B Z Z;refine⟨this,key this λy v d b z=>?_⟩;simp+contextual only[qz 14,fQ,b,d,rW];exact⟨λ_=>Z,by grind [aOj]⟩;have g:=aNQ e;have:=B Z Z;refine⟨this,key this λy v d b z=>?_⟩;simp+contextual only[qz 14,fQ,b,d,rW];exact⟨λ_=>Z,by grind [aOj]⟩;have g:=aNQ l;have:=B Z Z;refine⟨this,key this λy v d b z=>?_⟩;simp+contextual only[qz 14,fQ,b,d,rW];refine⟨λ_=>Z,?_⟩;rw[aOj,h,k,e,l];(cases Q ((gd (cY x.w j.toNat).eB.ak (gd x.w.ac i.toNat).eI.toNat).aPo=(gd x.w.ac j.toNat).aq)<;>simp[jA,jN,uO,aY]<;>first|exact⟨A,A⟩|rfl);have g:=aNQ f;have:=cd Z Z;refine⟨this,N this,key (N this) λy v d b z=>?_⟩;simp+contextual only[qz 14,fQ,b,d,rW];refine⟨λ_=>Z,?_⟩;rw[aOj,h,k,e,l,f];(cases Q ((gd (cY x.w j.toNat).eB.ak (gd x.w.aQ.bC (gd x.w.ac i.toNat).eI.toNat).eg.toNat).aPo=(gd x.w.ac j.toNat).aq)<;>simp[jA,jN,uO,aY]<;>first|exact⟨A,A⟩|rfl);grind [aOj];grind [aOj]
def E8:FT:=qe Oa
def ayc:=sT E8 Oa (j:=bs5)
def slE{l}{i j:Int}{Y K}:rV (fo 7 Y (sl aP.c l) (V<|iv i) (V<|iv j) J) K=((0<=i/\i<=j/\j<=L l)/\K (sl aP.c<|(l.take j.toNat).drop i.toNat)):=by simp only[fo,lM,sl];by_cases a:0<=i;by_cases d:0<=j;simp only[a,d,a6F,qY,Option.getD_none,mi,bJ,Cq];by_cases e:i<=j/\j<=L l;have b:i.toNat<=j.toNat/\j.toNat<=L l:=Z;rw[zg ⟨b.1,b.2,by simp[aP.c]⟩];simp only[rV,e,aNR,Cq,kM];grind [aP.c,List.map_drop,List.map_take,List.drop_take];grind [rV];grind [rV];simp[a,rV]
def ams{l:List aP}{i j k:Nat}(a:j<=L l)(b:k<L ((l.take j).drop i)):gd ((l.take j).drop i) k=gd l (i+k)/\i+k<j:=by grind [oz,gC,rD,aNV]
def NZ(x)(i j:Int)(v:nK x/\aF (L x.w.ac) i/\aF (L x.w.ac) j/\i<j/\(gd x.w.ac j.toNat).aq=(gd x.w.ac i.toNat).aq/\(gd (cY x.w i.toNat).eB.ay (gd x.w.ac i.toNat).aq.toNat).atomic=U/\(∀k,k<j.toNat->i.toNat<=k->((gd x.w.ac k).aq≠(gd x.w.ac i.toNat).aq\/(gd x.w.ac k).kind≠15))):Ct 152 [.a x.c,iv i,iv j] (·=bv U):=aKJ A λy N s F=>by obtain⟨d,b,m,B,o,f,z⟩:=v;have u:box y (3,1)=V ⟨172,16,U,U,[x.w.c++[sl aW.c x.ss]]⟩:=s;obtain⟨a1,r⟩:=d.ix b;have:=d.wo.ev;have p:aF (L (cY x.w i.toNat).eB.ay) (gd x.w.ac i.toNat).aq:=(by have e:=(d.wo.st _<|qI b).2;simp only[fN,bN] at e;rw[(iY e.1).2.2.2];exact(d.wo.named<|qI b).2);have l:Q (j<=i)=I:=NA;have q:dq.wrap (i+1)=i+1:=(by have:=b.1;have:=b.2;grind [eM]);have g:0<=i+1/\i+1<=j/\j<=L x.w.ac:=(be7 b.1 m.2);have n:Q ((gd x.w.ac j.toNat).aq≠(gd x.w.ac i.toNat).aq)=I:=(by simp[o]);simp+contextual only[fD,u,kj,ND,b,m,a1,r,p,l,f,q,slE,g,n,eE,im];refine pQ (L<|(x.w.ac.take j.toNat).drop (i+1).toNat) [9] (λk=>True) trivial λk Y M K G=>?_;simp+contextual only[qz 43,qy 4,gJ,bh];have:L ((x.w.ac.take j.toNat).drop (i+1).toNat)<=16:=NA;refine⟨λh=>⟨vp h,?_⟩,λh=>trivial⟩;obtain⟨g1,E⟩:=ams Z<|aL h;refine eF A rfl H bkb λD C t=>?_;simp+contextual only[qz 6,eT,t];grind [oL,aL,Fr.trans]
def E7:FT:=qe NZ
def ayb:=sT E7 NZ (j:=bs5)
def Oe(x)(i j:Int)(hp:nK x/\aF (L x.w.ac) i/\aF (L x.w.ac) j/\j<i/\((gd x.w.ac i.toNat).kind=18\/(gd x.w.ac i.toNat).kind=19)/\(gd x.w.ac j.toNat).kind=16/\(gd x.w.ac i.toNat).eI=(gd x.w.ac j.toNat).eI/\(gd x.w.ac i.toNat).aq≠(gd x.w.ac j.toNat).aq/\(∀k,k<i.toNat->j.toNat<k->(gd x.w.ac k).aq≠(gd x.w.ac j.toNat).aq)/\(gd (cY x.w i.toNat).eB.ay (gd x.w.ac j.toNat).aq.toNat).cQ=3/\((gd x.w.ac i.toNat).kind=19\/(gd x.w.ac i.toNat).value=(gd x.w.ac j.toNat).aq)):Ct 150 [.a x.c,iv i,iv j] (·=bv U):=aKO A λF o M h0=>by obtain⟨d,e,b,ah,ak,al,am,ao,B,an,hv⟩:=hp;have S:box F (3,1)=V ⟨172,16,U,U,[x.w.c++[sl aW.c x.ss]]⟩:=M;obtain⟨a1,a2⟩:=d.ix e;have:=d.wo.ev;have:aF (L (cY x.w i.toNat).eB.ay) (gd x.w.ac j.toNat).aq:=(by have v:=(d.wo.st _<|qI e).2;simp only[fN,bN] at v;rw[(iY v.1).2.2.2];exact(d.wo.named<|qI b).2);have D:aN (V 16) (x.w.c++[sl aW.c x.ss])=V (.a x.c):=A;have y:([i,j].all λi=>dh i<|L x.w.ac)=U:=btB;have C:Q (i<=j)=I:=NA;have E:dq.wrap (j+1)=j+1:=(by have:=b.1;have:=b.2;grind [eM]);have z:0<=j+1/\j+1<=i/\i<=L x.w.ac:=(be7 b.1 e.2);simp+contextual only[gj,S,D,fi,qz 4,sG,rW,kj,e,b];rw[y,C];refine⟨O,λh=>(nomatch h),λ_=>?_⟩;refine mo o λK p N=>?_;simp only[qz 6];refine mo (p.1.trans o) λY2 f P=>?_;simp only[qz 8];have T:=f.bt N;refine gN (cs:=aP.c<|gd x.w.ac i.toNat) T bkb A rfl λY3 g W=>?_;have d3:=g.bt P;simp only[qz 10];refine gN (cs:=aP.c<|gd x.w.ac j.toNat) d3 bkb A rfl λq l t=>?_;have s:=l.bt W;have r:box q (3,1)=V ⟨172,16,U,U,[x.w.c++[sl aW.c x.ss]]⟩:=l.bt<|g.bt<|f.bt btO;simp only[qz 12];refine dT A ?_;have n:(Q ((gd x.w.ac i.toNat).kind≠18)&&Q ((gd x.w.ac i.toNat).kind≠19)||Q ((gd x.w.ac j.toNat).kind≠16)||Q ((gd x.w.ac i.toNat).eI≠(gd x.w.ac j.toNat).eI)||Q ((gd x.w.ac i.toNat).aq=(gd x.w.ac j.toNat).aq))=I:=X;simp+contextual only[eT,r,s,t,kj,n,eE,im,E,slE,z];generalize(aZ K 8).ver+1=v8 at*;generalize(aZ F 7).ver+1=v7 at*;have hL:L q=4096:=(by rw[l.1,g.1,f.1,p.1,o]);refine pQ (L<|(x.w.ac.take i.toNat).drop (j+1).toNat) [10] (λk=>True) trivial λk Y hk hc m=>?_;have f1:=m.bt r;have f2:=m.bt s;have u:=m.bt t;have:L ((x.w.ac.take i.toNat).drop (j+1).toNat)<=16:=NA;simp+contextual only[qz 61,qy 14,fD,f1,f2,u,kj,ND,bh];refine⟨λh=>⟨vp h,?_⟩,λh=>?_⟩;obtain⟨g1,g2⟩:=ams Z<|aL h;refine eF A rfl H bkb λY5 G R=>?_;have h3:=G.bt u;simp+contextual only[qz 16,eT,R,h3];rw[g1];have:=B ((j+1).toNat+k) g2<|aYF b.1;grind [oL,aL,Fr.trans];simp_all
def Fc:FT:=qe Oe
def al5:=sT Fc Oe (j:=bs5)
def Ob(x:jY)(g)(n:kB x.w/\aF (L x.w.ac) g.ea/\aF (L x.w.ac) g.eb/\aF (L x.w.ac) g.ec/\aF (L x.w.ac) g.ed/\g.ec<=g.ed/\(rP x.w g).aq=(xI x.w g).aq/\(rP x.w g).aq≠(jn x.w g).aq/\nh (jn x.w g) (rP x.w g)=U/\nh (xI x.w g) (mB x.w g)=U):Ct 153 [.a x.c, .a g.c] (·=bv U):=aKL A rfl λs u i j t=>by obtain⟨v,o,p,q,r,d,f,h,l,m⟩:=n;have k:box s (2,1)=V ⟨172,16,U,U,[x.w.c++[sl aW.c x.ss]]⟩:=i;have e:aN (V 16) (x.w.c++[sl aW.c x.ss])=V (.a x.c):=A;have b:¬(gd x.w.ac g.ed.toNat).aq=(gd x.w.ac g.ea.toNat).aq:=f▸h;simp only[ie,k,j,e,sG,rW,kj,o,p,q,r,d,f,b,l,m,btD,bCa,bqQ];done
def E9:FT:=aIc Ob
def ayd:=gX E9 Ob (j:=bs5)
def Dq{b a Y K}(c:b=U->a K)(d:b=I->K (.t []) Y):gF b a Y K:=by(cases b);exact d A;exact c A
def Bc{a b}:mL (bv I) a (bv b)=V (bv b):=rfl
def Dc{Y}{d:Nat}{K b w}{t:Int}(g:box Y b=V ⟨45,15,U,U,[w.c]⟩)(i:L Y=4096)(e:K (bv<|nO w t) Y):cF (.f 145 [] [.p b 0 0]) [iv t] Y d K:=by simp only[cF,btX];rw[za (show¬GG.nw 145=U by decide),zg<|show GG.imp 145=U by decide];refine(aS2 A (aMT i ?_) e:cB 145 [iv t, .p b 0 0] Y d K);simp+contextual only[fD,g,dc,aRf,aoz];refine⟨λh=>?_,?_,Fx.refl _ _⟩;intro a;exact⟨by simpa using h,by simpa using a⟩;simp[nO,dh,Bool.and_assoc]
def Qa(w)(hp:ny w=U/\L w.init.eB.ak=L w.aQ.ak/\L w.aQ.ak<=4/\L w.init.eB.ay<=4/\(∀l∈w.init.eB.ak,L l.bk<=100)):Ct 82 [.a w.c] (·=bv U):=aMS A λs2 hl P h0=>by obtain⟨y,ae,af,ag,B⟩:=hp;simp only[ny,bN,awG,eH] at y;obtain⟨W,o,hS⟩:=y;simp+contextual only[eT,P,dc];refine pQ (L w.init.eB.ak) [5] (λk=>True) trivial λk Y hk hc T=>?_;have r:box Y (1,1)=V ⟨45,15,U,U,[w.c]⟩:=btO;have g:L Y=4096:=(by rw[T.1,hl]);simp+contextual only[qz 25,qy 4,fD,r,bh,dc];refine⟨λh=>⟨vp h,?_⟩,λh=>?_⟩;(focus refine eF A rfl H Z λq F x=>?_;have t:box q (1,1)=V ⟨45,15,U,U,[w.c]⟩:=btO;have j:L q=4096:=(by rw[F.1,g]);have z:=W k<|aL h;obtain⟨e,C⟩:=z;simp only[AM,cP] at e;simp+contextual only[qz 6,eT,x];have ah:=B _<|dB<|aL h;have E:Q (0<(L (gd w.init.eB.ak k).bk:Int))=U->aF (L w.aQ.ak) (k:Int):=(by grind [dJ,aL]);have n:=e.2;refine Dq (λb=>Dc t j ?_) (λb=>?_);all_goals simp+contextual only[fD,x,t,b,jN,Bc];rw[b] at e n;refine⟨λf=>?_,λ_=>⟨E,λf=>?_,λ_=>?_⟩⟩;(first|cases f|simp[f] at e);(try simp only[kz] at n);rw[bh] at f;rw[f] at n;cases n;refine jD (α:=Int) (λa i=>[iv a,iv i]) 1 (L (gd w.init.eB.ak k).bk) (λi a Y'=>(a=if i=0 then-1 else gd (gd w.init.eB.ak k).bk (i-1))/\Y'=q) (s0:= -1) ⟨O,A⟩ ?_;rintro i _ _ hi ⟨rfl,rfl⟩;simp+contextual only[qz 103,gJ,bh];refine⟨λd=>⟨vp d,?_⟩,λd=>?_⟩;obtain⟨v,r2⟩:=C i<|aL d;have u:Q (gd (gd w.init.eB.ak k).bk i<=if i=0 then-1 else gd (gd w.init.eB.ak k).bk (i-1))=I:=(by simp only[nO,bN] at v;have:=(dX.1 v.1).1;grind);refine Dq (λb=>Dc t j ?_) X;simp+contextual only[eQ,u,v,eE,im];refine dR (mk:=λa i=>[iv a,iv i]) (p:=1) (s:=if i=0 then-1 else gd (gd w.init.eB.ak k).bk (i-1)) (s':=gd (gd w.init.eB.ak k).bk i) (λ_ _=>A) (aL d) Z ?_;simp;grind [oL,aL,Fr.trans]);(focus simp only[yS] at o;refine Dq (λb=>Dc r g ?_) (λb=>?_);all_goals rw[b] at o;(try simp only[iw,fK] at o);simp+contextual only[gg,r,dc,b,o,jN,Bc,eE,im];refine pQ (L w.init.eB.ay) [10] (λk=>True) trivial λi M hi _ G=>?_;have e1:box M (1,1)=V ⟨45,15,U,U,[w.c]⟩:=btO;simp+contextual only[qz 181,qy 14,gJ,bh];refine⟨λd=>⟨vp d,?_⟩,λ_=>trivial⟩;refine eF A rfl H bkb λN K R=>?_;have S:box N (1,1)=V ⟨45,15,U,U,[w.c]⟩:=btO;have D:=hS i<|aL d;simp only[pX,bN,eH] at D;have m:=D.1;simp+contextual only[qz 16,eT,R];refine Dq (λb=>Dc S (by rw[K.1,G.1,g]) ?_) (λb=>?_);rw[b] at m;simp only[iw,fK] at m;simp+contextual only[eQ,b,m,eE,im];grind [oL,aL,Fr.trans];simp+contextual only[u0,b,jN,Bc,eE,im];grind [oL,aL,Fr.trans])
def Gt:FT:=mT Qa
def azN:=oK Gt Qa (j:=bs5)
def apk:dO:=(141,EX)::(79,Gp)::(225,Gk)::(279,Fu)::(148,Ff)::(239,E8)::(152,E7)::(150,Fc)::(153,E9)::(82,Gt)::apj
def Rd:eJ apk:=asq (aCb NJ)<|asq (aCb PY)<|asq (aCb PT)<|asq (Rt bBX)<|asq (tE Of)<|asq (tE Oa)<|asq (tE NZ)<|asq (tE Oe)<|asq (aCb Ob)<|asq (pg Qa)<|rf
def aBm:=ai @axX<|ai @azK<|ai @azF<|ai @ayv<|ai @ayg<|ai @ayc<|ai @ayb<|ai @al5<|ai @ayd<|ai @azN<|@rW
def aJV{a}:=y0 Rd func100 at1 [a]
def atx:=I9 11 [(1,([0,2],[])),(4,([0,2],[])),(7,([0,2],[]))]
def aKY{a}:=y0 Rd func181 atx [a]
def brH(x):Ct 100 [iv x] (·=bv I):=aJV λs0 b a=>by simp only[eQ,btD,bFD,bqF]
def BO:FT:=lH brH
def axT:=np BO brH
def avZ{a b:Int}:bc4 .geq 0 [] (.s<|.int .u64 a) (.s<|.int .u64 b)=V (bv<|Q<|b<=a):=rfl
def Oo(n)(g:0<=n/\n<=12):Ct 181 [.s<|.int .u64 n] (λr=>∃k:Int,r=iv k):=aKY λs0 f e=>by obtain⟨m,rfl⟩:∃m:Nat,n=m:=⟨n.toNat,Z⟩;have d:m<=12:=Z;have a:Q (4294967296<=(m:Int))=I:=NA;have b:Q (65536<=(m:Int))=I:=NA;have c:Q (256<=(m:Int))=I:=NA;simp+contextual only[qz 45,qz 47,qz 27,qz 29,qz 9,qz 11,bh0,u0,avZ,a,b,c,aI,↓iB];match m,d with|0,_=>exact⟨A,_,A⟩|1,_=>exact⟨A,_,A⟩|2,_=>exact⟨A,_,A⟩|3,_=>exact⟨A,_,A⟩|4,_=>exact⟨A,_,A⟩|5,_=>exact⟨A,_,A⟩|6,_=>exact⟨A,_,A⟩|7,_=>exact⟨A,_,A⟩|8,_=>exact⟨A,_,A⟩|9,_=>exact⟨A,_,A⟩|10,_=>exact⟨A,_,A⟩|11,_=>exact⟨A,_,A⟩|12,_=>exact⟨A,_,A⟩
def Fo:FT:=om Oo
def ayo:=aUy Fo Oo
def apm:dO:=(100,BO)::(181,Fo)::apk
def Re:eJ apm:=asq (nH brH)<|asq (rj Oo)<|Rd
def La:=ai @axT<|ai @ayo<|@aBm
def aJU{a a1}:=y0 Re func314 at1 [a,a1]
def atw:=I9 4 []
def aKX{a}:=y0 Re func99 atw [a]
def NE(x y):Ct 314 [iv x,iv y] (·=bv (Q<|x<y)):=aJU λs0 b a=>by simp+contextual only[hZ,La,lG,jN,jA,Bc]
def BN:FT:=bsk NE
def axS:=f200 BN NE
def Om(n)(a:0<=n/\n<=12):Ct 99 [.s<|.int .u64 n] (λr=>∃k:Int,r=iv k):=aKX λs0 c b=>by simp+contextual only[u0,ar,La,eE,fL];refine⟨a,?_⟩;rintro r ⟨k,rfl⟩;exact⟨.inl A,A,k,A⟩
def Fm:FT:=om Om
def ayn:=aUy Fm Om
def apn:dO:=(314,BN)::(99,Fm)::apm
def wR:eJ apn:=asq (nI NE)<|asq (rj Om)<|Re
def ut:=ai @axS<|ai @ayn<|@La
def au5:=I9 23 [(6,([3],[0])),(14,([3,5],[0,4])),(17,([3],[0,4,5]))]
def aMy{a}:=yB wR func233 au5 [a]
def avb:=I9 10 [(1,([6],[0,1,2])),(6,([7],[0,1,2,6]))]
def aME{a a1 b}:=yB wR func308 avb [a,a1,b]
def aMB{a a1}:=yB wR func281 au9 [a,a1]
def aK2{a a1}:=yB wR func235 at1 [a,a1]
def atF:=I9 13 [(4,([7,13],[1,2,3,11,12])),(7,([7],[1,2,3,11,12,13])),(10,([],[7]))]
def aK7{c0 a1 b}:=yB1 39 4 3 wR func236 atF c0 [.a c0,a1,b]
def atG:=I9 12 [(4,([5,11],[1,2,9,10])),(7,([5],[1,2,9,10,11]))]
def aK8{c0 a1}:=yB1 39 4 2 wR func237 atG c0 [.a c0,a1]
theorem axp(n c)(w)(R)(a:R (.returned<|.slice J 0 0) w):Calls aS 166 #[.slice J n c] w R:=by have:=λ(W:World)=>run_eql_slice_nil (P:=aS) W 25 3 J n c a7c;go_enter func166,Tryz.ntmps166;go_wp2;exact a
theorem axt(a)(n c)(w)(R)(d:(nU Tryz.f166).wp aS (bodyPost aS Tryz.f166 R) {tmps:=#[.slice (V a) n c,undef, .slice J 0 0, .slice (V a) n c, .bool I,undef,undef,undef],defers:=[]} w):Calls aS 166 #[.slice (V a) n c] w R:=by have:=λ(W:World)=>run_eql_slice_nil (P:=aS) W 25 3 (V a) n c a7c;go_enter func166,Tryz.ntmps166;generalize b:(BM 3 _ I).seq ET=T;go_wp2;subst b;exact d
def aCM{bA}(g:∀r∈bA,L r=1)(q:L bA<1000000):∃r a,lI a 3 1 r bA/\cZ aS GG 166 [.l bA I I] eK r a/\(bA=[]->r= .l [] U U):=by have h:=DX (fn:=166) (f:=Tryz.f166) (an:=[J,J]) func166 A rfl (by grind [axp]) (by grind [axt]) a7c a7c (bA:=bA) (R:=λr a=>lI a 3 1 r bA/\(bA=[]->r= .l [] U U/\a=eK)) (aND (show Zq aS GG [] [J,J] (nU Tryz.f166) 0 (tO aS Tryz.f166 λr a=>lI a 3 1 r bA/\(bA=[]->r= .l [] U U/\a=eK)) (gt<|xE<|.l bA I I) eK=(eV (aX bH 0 eK []) λk i=>eV (apA 3 fB 8 i 7 k<|.l bA I I) λt4 j=>aRf (λr a=>lI a 3 1 r bA/\(bA=[]->r= .l [] U U/\a=eK)) j [t4]) by kernel_rfl) ?_) (λr a h=>h.2);obtain⟨r,a,b,d⟩:=h;exact⟨r,a,b.1,d,λe=>(b.2 e).1⟩;simp only[nS,bQ];by_cases c:bA=[];subst c;simp only[apA,gL,bhZ,a6F,eV,aRf,aoz];grind [lI.nil];refine gD (e:=3) (new:=bA) lI.nil A H (by rw[show L eK=4096 from oA ..];decide) O g X λn Y' o m p _=>?_;grind [aRf,aoz,absurd]
def bvf{p:Prop}(h:p:=by simp[Go.Ab.aA,Go.Ab.lA,Go.Ab.bK]):p:=h
def Kr{Y}{d:Nat}{K bA x}(p:dG Y x= .l bA I I)(o:∀r∈bA,L r=1)(n:L bA<1000000)(q:bA.all (λr=>r.all gY)=U)(c:d<L Y)(e:∀a Y',lI Y' 3 1 a bA->Fx Y Y' []->(∀k∈aA a,bK Y k/\k.1=d)->K a Y'):cN 166 [x] Y d K:=by obtain⟨r,i,g,h,_⟩:=aCM o n;have f:[x].map (dG Y)=[.l bA I I]:=(by simp[p]);refine .inl ⟨by rw[f];rfl,by simp[vg,c],r,i,by rwa [f],?_⟩;obtain⟨j,rfl⟩|⟨b,rfl,m⟩:=g;exact .inl ⟨A,e _ _ (.inl ⟨j,A⟩) (Fx.refl _ _) aBY⟩;refine .inr ⟨b,_,_,A,m,?_,e _ _ (.inr ⟨lA Y d,A,iy c⟩) (kH c) bvf⟩;grind [qA]
theorem axo(n c)(w)(R)(a:R (.returned<|.slice J 0 0) w):Calls aS 188 #[.slice J n c] w R:=by have:=λ(W:World)=>run_eql_slice_nil (P:=aS) W 36 4 J n c a7c;go_enter func188,Tryz.ntmps188;go_wp2;exact a
theorem axs(a)(n c)(w)(R)(d:(nU Tryz.f188).wp aS (bodyPost aS Tryz.f188 R) {tmps:=#[.slice (V a) n c,undef, .slice J 0 0, .slice (V a) n c, .bool I,undef,undef,undef],defers:=[]} w):Calls aS 188 #[.slice (V a) n c] w R:=by have:=λ(W:World)=>run_eql_slice_nil (P:=aS) W 36 4 (V a) n c a7c;go_enter func188,Tryz.ntmps188;generalize b:(BM 3 _ I).seq ET=T;go_wp2;subst b;exact d
def aCL{bA}(g:∀r∈bA,L r=1)(q:L bA<1000000):∃r a,lI a 4 1 r bA/\cZ aS GG 188 [.l bA I I] eK r a/\(bA=[]->r= .l [] U U):=by have h:=DX (fn:=188) (f:=Tryz.f188) (an:=[J,J]) func188 A rfl (by grind [axo]) (by grind [axs]) a7c a7c (bA:=bA) (R:=λr a=>lI a 4 1 r bA/\(bA=[]->r= .l [] U U/\a=eK)) (aND (show Zq aS GG [] [J,J] (nU Tryz.f188) 0 (tO aS Tryz.f188 λr a=>lI a 4 1 r bA/\(bA=[]->r= .l [] U U/\a=eK)) (gt<|xE<|.l bA I I) eK=(eV (aX BD 0 eK []) λk i=>eV (apA 4 BE 1 i 7 k<|.l bA I I) λt4 j=>aRf (λr a=>lI a 4 1 r bA/\(bA=[]->r= .l [] U U/\a=eK)) j [t4]) by kernel_rfl) ?_) (λr a h=>h.2);obtain⟨r,a,b,d⟩:=h;exact⟨r,a,b.1,d,λe=>(b.2 e).1⟩;simp only[nS,bQ];by_cases c:bA=[];subst c;simp only[apA,gL,bhZ,a6F,eV,aRf,aoz];grind [lI.nil];refine gD (e:=4) (new:=bA) lI.nil A H (by rw[show L eK=4096 from oA ..];decide) O g X λn Y' o m p _=>?_;grind [aRf,aoz,absurd]
def aw2{Y}{d:Nat}{K bA x}(p:dG Y x= .l bA I I)(o:∀r∈bA,L r=1)(n:L bA<1000000)(q:bA.all (λr=>r.all gY)=U)(c:d<L Y)(e:∀a Y',lI Y' 4 1 a bA->Fx Y Y' []->(∀k∈aA a,bK Y k/\k.1=d)->K a Y'):cN 188 [x] Y d K:=by obtain⟨r,i,g,h,_⟩:=aCL o n;have f:[x].map (dG Y)=[.l bA I I]:=(by simp[p]);refine .inl ⟨by rw[f];rfl,by simp[vg,c],r,i,by rwa [f],?_⟩;obtain⟨j,rfl⟩|⟨b,rfl,m⟩:=g;exact .inl ⟨A,e _ _ (.inl ⟨j,A⟩) (Fx.refl _ _) aBY⟩;refine .inr ⟨b,_,_,A,m,?_,e _ _ (.inr ⟨lA Y d,A,iy c⟩) (kH c) bvf⟩;grind [qA]
theorem axn(n c)(w)(R)(a:R (.returned<|.slice J 0 0) w):Calls aS 256 #[.slice J n c] w R:=by have:=λ(W:World)=>run_eql_slice_nil (P:=aS) W 37 69 J n c a7c;go_enter func256,Tryz.ntmps256;go_wp2;exact a
theorem axr(a)(n c)(w)(R)(d:(nU Tryz.f256).wp aS (bodyPost aS Tryz.f256 R) {tmps:=#[.slice (V a) n c,undef, .slice J 0 0, .slice (V a) n c, .bool I,undef,undef,undef],defers:=[]} w):Calls aS 256 #[.slice (V a) n c] w R:=by have:=λ(W:World)=>run_eql_slice_nil (P:=aS) W 37 69 (V a) n c a7c;go_enter func256,Tryz.ntmps256;generalize b:(BM 3 _ I).seq ET=T;go_wp2;subst b;exact d
def aCK{bA}(g:∀r∈bA,L r=3)(q:L bA<1000000):∃r a,lI a 69 3 r bA/\cZ aS GG 256 [.l bA I I] eK r a/\(bA=[]->r= .l [] U U):=by have h:=DX (fn:=256) (f:=Tryz.f256) (an:=[J,J]) func256 A rfl (by grind [axn]) (by grind [axr]) a7c a7c (bA:=bA) (R:=λr a=>lI a 69 3 r bA/\(bA=[]->r= .l [] U U/\a=eK)) (aND (show Zq aS GG [] [J,J] (nU Tryz.f256) 0 (tO aS Tryz.f256 λr a=>lI a 69 3 r bA/\(bA=[]->r= .l [] U U/\a=eK)) (gt<|xE<|.l bA I I) eK=(eV (aX bwO 0 eK []) λk i=>eV (apA 69 bwO 24 i 7 k<|.l bA I I) λt4 j=>aRf (λr a=>lI a 69 3 r bA/\(bA=[]->r= .l [] U U/\a=eK)) j [t4]) by kernel_rfl) ?_) (λr a h=>h.2);obtain⟨r,a,b,d⟩:=h;exact⟨r,a,b.1,d,λe=>(b.2 e).1⟩;simp only[nS,bQ];by_cases c:bA=[];subst c;simp only[apA,gL,bhZ,a6F,eV,aRf,aoz];grind [lI.nil];refine gD (e:=69) (new:=bA) lI.nil A H (by rw[show L eK=4096 from oA ..];decide) O g X λn Y' o m p _=>?_;grind [aRf,aoz,absurd]
def aw1{Y}{d:Nat}{K bA x}(p:dG Y x= .l bA I I)(o:∀r∈bA,L r=3)(n:L bA<1000000)(q:bA.all (λr=>r.all gY)=U)(c:d<L Y)(e:∀a Y',lI Y' 69 3 a bA->Fx Y Y' []->(∀k∈aA a,bK Y k/\k.1=d)->K a Y'):cN 256 [x] Y d K:=by obtain⟨r,i,g,h,_⟩:=aCK o n;have f:[x].map (dG Y)=[.l bA I I]:=(by simp[p]);refine .inl ⟨by rw[f];rfl,by simp[vg,c],r,i,by rwa [f],?_⟩;obtain⟨j,rfl⟩|⟨b,rfl,m⟩:=g;exact .inl ⟨A,e _ _ (.inl ⟨j,A⟩) (Fx.refl _ _) aBY⟩;refine .inr ⟨b,_,_,A,m,?_,e _ _ (.inr ⟨lA Y d,A,iy c⟩) (kH c) bvf⟩;grind [qA]
theorem axq(n c)(w)(R)(a:R (.returned<|.slice J 0 0) w):Calls aS 230 #[.slice J n c] w R:=by have:=λ(W:World)=>run_eql_slice_nil (P:=aS) W 40 2 J n c a7c;go_enter func230,Tryz.ntmps230;go_wp2;exact a
theorem axu(a)(n c)(w)(R)(d:(nU Tryz.f230).wp aS (bodyPost aS Tryz.f230 R) {tmps:=#[.slice (V a) n c,undef, .slice J 0 0, .slice (V a) n c, .bool I,undef,undef,undef],defers:=[]} w):Calls aS 230 #[.slice (V a) n c] w R:=by have:=λ(W:World)=>run_eql_slice_nil (P:=aS) W 40 2 (V a) n c a7c;go_enter func230,Tryz.ntmps230;generalize b:(BM 3 _ I).seq ET=T;go_wp2;subst b;exact d
def aCN{bA}(g:∀r∈bA,L r=1)(q:L bA<1000000):∃r a,lI a 2 1 r bA/\cZ aS GG 230 [.l bA I I] eK r a/\(bA=[]->r= .l [] U U):=by have h:=DX (fn:=230) (f:=Tryz.f230) (an:=[J,J]) func230 A rfl (by grind [axq]) (by grind [axu]) a7c a7c (bA:=bA) (R:=λr a=>lI a 2 1 r bA/\(bA=[]->r= .l [] U U/\a=eK)) (aND (show Zq aS GG [] [J,J] (nU Tryz.f230) 0 (tO aS Tryz.f230 λr a=>lI a 2 1 r bA/\(bA=[]->r= .l [] U U/\a=eK)) (gt<|xE<|.l bA I I) eK=(eV (aX zd2 0 eK []) λk i=>eV (apA 2 EN 8 i 7 k<|.l bA I I) λt4 j=>aRf (λr a=>lI a 2 1 r bA/\(bA=[]->r= .l [] U U/\a=eK)) j [t4]) by kernel_rfl) ?_) (λr a h=>h.2);obtain⟨r,a,b,d⟩:=h;exact⟨r,a,b.1,d,λe=>(b.2 e).1⟩;simp only[nS,bQ];by_cases c:bA=[];subst c;simp only[apA,gL,bhZ,a6F,eV,aRf,aoz];grind [lI.nil];refine gD (e:=2) (new:=bA) lI.nil A H (by rw[show L eK=4096 from oA ..];decide) O g X λn Y' o m p _=>?_;grind [aRf,aoz,absurd]
def alG{Y}{d:Nat}{K bA x}(p:dG Y x= .l bA I I)(o:∀r∈bA,L r=1)(n:L bA<1000000)(q:bA.all (λr=>r.all gY)=U)(c:d<L Y)(e:∀a Y',lI Y' 2 1 a bA->Fx Y Y' []->(∀k∈aA a,bK Y k/\k.1=d)->K a Y'):cN 230 [x] Y d K:=by obtain⟨r,i,g,h,_⟩:=aCN o n;have f:[x].map (dG Y)=[.l bA I I]:=(by simp[p]);refine .inl ⟨by rw[f];rfl,by simp[vg,c],r,i,by rwa [f],?_⟩;obtain⟨j,rfl⟩|⟨b,rfl,m⟩:=g;exact .inl ⟨A,e _ _ (.inl ⟨j,A⟩) (Fx.refl _ _) aBY⟩;refine .inr ⟨b,_,_,A,m,?_,e _ _ (.inr ⟨lA Y d,A,iy c⟩) (kH c) bvf⟩;grind [qA]
def jC(l:eu):Prop:=∀i,i+1<L l->gd l i<gd l (i+1)
def AD{l}(h:jC l):∀{i j:Nat},i<j->j<L l->gd l i<gd l j:=by intro i j c a;induction j with|zero=>omega|succ j d=>have:=h j a;grind
section
variable{Y:ae}{b:Id}{l:eu}{n:Nat}{K:J3}
theorem mx{e i o v bA}(a:box Y b=V ⟨e,1,o,v,bA⟩)(h:aF n i):rV (cz 1 Y (.m b n)<|iv i) K=K (.p b i.toNat 0):=by have:=h.1;have:i.toNat<n:=(be7 h.1 h.2);grind [cz,rV]
theorem ml{e o v}{k:Nat}(a:box Y b=V ⟨e,1,o,v,l.map ci⟩)(c:k<L l):sA J Y (.p b k 0)=V (iv<|gd l k):=by grind [sA,iE,aN,aNV]
end
theorem aIh{l:eu}{k x}:(l.map ci).set k ((ci<|gd l k).set 0<|iv x)=(l.set k x).map ci:=O
def Qo{Y b}{l:eu}{k:Nat}{x:Int}{K}(c:box Y b=V ⟨3,1,U,I,l.map ci⟩)(d:k<L l)(a:∀Y',Fx Y Y' [b]->box Y' b=V ⟨3,1,U,I,(l.set k x).map ci⟩->K Y'):sV (aK 1 Y (.p b k 0)<|iv x) K:=by have:(l.map ci)[k]?=V (ci<|gd l k):=(by grind [eC,aNV]);grind [wL,aIh]
def Dt{a b:eu}{k:Nat}(h:k<L a):gd (a++b) k=gd a k:=by grind [aNV,List.getElem_append_left]
def aBD{a:eu}{j k:Nat}(h:k<j)(c:k<L a):gd (a.take j) k=gd a k:=brU
theorem aBB{a d}{t:Int}:gd (a++t::d) (L a)=t:=brU
def aIA{r}{t:Int}{j:Nat}(c:0<j)(d:j<=L r):((r.take j++t::r.drop j).set j<|gd r<|j-1).set (j-1) t=r.take (j-1)++t::r.drop (j-1):=by obtain⟨i,rfl⟩:∃i,j=i+1:=⟨j-1,Z⟩;have a:i<L r:=Z;have:r.take (i+1)=r.take i++[gd r i]:=(by rw[iJ a,aNV a]);have:r.drop i=gd r i::r.drop (i+1):=(by rw[Cw a,aNV a]);have:L (r.take i)=i:=NA;simp_all
def aCw{Y b r}{t:Int}(p:jC r)(ht:t∉r)(hn:L r<12)(P:box Y b=V ⟨3,1,U,I,(r++[t]).map ci⟩)(hl:L Y=4096):∃y e,(y= .t []/\box e b=V ⟨3,1,U,I,(fk r t).map ci⟩/\Fx Y e [b])/\cZ aS GG 308 [.m b<|L r+1,iv 0,iv ((L r+1:Nat):Int)] Y y e:=aME hl<|by simp only[cS,aY];rw[show dq.wrap (0+1)=((1:Nat):Int) from A];refine AI (α:=Unit) (λ_ i=>[iv i]) 0 (L r+1) 1 Z (λi _ Y'=>1<=i/\box Y' b=V ⟨3,1,U,I,(if i<L r+1 then r++[t] else fk r t).map ci⟩/\Fx Y Y' [b]) (s0:=()) ⟨Z,?_,Fx.refl _ _⟩ ?_;split;exact P;have:r=[]:=vB;subst this;exact P;rintro i _ e hi ⟨ah,o,F1⟩;simp only[qz 7,au,eQ];constructor<;>intro h;have x:=aL h;rw[zg x] at o;have c:∀{k:Nat},k<L r+1->k<L (r++[t]):=λh=>NA;have nx:∀f,box f b=V ⟨3,1,U,I,(if i+1<L r+1 then r++[t] else fk r t).map ci⟩->Fx Y f [b]->yI (λ(_:Unit) i=>[iv i]) (L r+1) (λi _ Y'=>1<=i/\box Y' b=V ⟨3,1,U,I,(if i<L r+1 then r++[t] else fk r t).map ci⟩/\Fx Y Y' [b]) [iv<|dq.wrap<|(i:Int)+1] f/\gM 0 (L r+1) [iv<|dq.wrap<|(i:Int)+1] f<gM 0 (L r+1) [iv i] e:=λf R z=>yU x ⟨Z,R,z⟩;have W:Q ((0:Int)<(i:Int))=U:=NA;have D:∀j:Nat,0<j->j<100->dq.wrap ((j:Int)-1)=((j-1:Nat):Int):=brE;obtain q|q:=jj i<|L r;refine⟨λvs Y'=>vs=[iv i]/\Y'=e,λ_ _=>0,⟨A,A⟩,?_⟩;rintro vs Y' ⟨rfl,rfl⟩;have ab:Q (gd (r++[t]) i<gd (r++[t]) (i-1))=I:=(by rw[Dt q,Dt Z];have:=AD p (show i-1<i by omega) q;simp;omega);simp only[qz 37,au,hZ,W,jA,D i Z Z,mx o<|dJ<|show i<L r+1 by omega,mx o<|dJ<|show i-1<L r+1 by omega,bh,ml o<|c<|show i<L r+1 by omega,ml o<|c<|show i-1<L r+1 by omega,ut,ab,uO,aRa,eE,fL];simp_all;obtain rfl:i=L r:=Z;refine⟨λvs Y'=>∃j:Nat,j<=L r/\vs=[iv j]/\box Y' b=V ⟨3,1,U,I,(r.take j++t::r.drop j).map ci⟩/\(∀k,j<=k->k<L r->t<gd r k)/\Fx Y Y' [b],λvs _=>match gt vs 0 with| .s (.int _ i)=>i.toNat|_=>0,X,?_⟩;rintro vs Y' ⟨j,hj,rfl,g,ae,E⟩;have v:L (r.take j++t::r.drop j)=L r+1:=NA;have M:(∀k,k<j->gd r k<t)->box Y' b=V ⟨3,1,U,I,(if L r+1<L r+1 then r++[t] else fk r t).map ci⟩:=λB=>(by rw[za Z,g];congr 3;rw[QJ r t j hj B X,za];grind);obtain rfl|u:=oD j;simp only[qz 37,au,jZ,Int.lt_irrefl,Int.natCast_zero,bqF,jN,Bc,eE,aPZ,aQl];simp_all;have C:Q ((0:Int)<(j:Int))=U:=NA;have S:gd (r.take j++t::r.drop j) j=t:=(by have:=aBB (a:=r.take j) (d:=r.drop j) (t:=t);simp_all);have T:gd (r.take j++t::r.drop j) (j-1)=gd r (j-1):=(by rw[Dt NA,aBD Z Z]);simp only[qz 37,au,eQ,C,jA,D j u Z,mx g<|dJ<|show j<L r+1 by omega,mx g<|dJ<|show j-1<L r+1 by omega,bh,ml g (show j<_ by rw[v];omega),ml g (show j-1<_ by rw[v];omega),ar,ut,S,T,uO,aRa];constructor<;>intro w;have ag:=aNQ w;refine Qo g Z λf z F=>?_;simp only[qz 2,mx F<|dJ<|show j-1<L r+1 by omega,bh];refine Qo F NA λY3 F3 G=>?_;simp only[qz 4];refine dT A ?_;simp only[au,eQ,D j u Z];rw[aIA u hj] at G;refine⟨⟨j-1,Z,A,G,λk h1 h2=>?_,(E.trans<|z.trans F3).mono O⟩,Z⟩;grind;have ak:=bsX w;refine nx _ (M λk hk=>?_) E;have h1:gd r (j-1)<t:=(by grind [gd,dB]);obtain N|N:=jj k<|j-1;have:=AD p N Z;omega;grind;grind [bP,dge,aRf,aoz]
def aCq{Y b l}(f:jC l)(c:box Y b=V ⟨3,1,U,I,l.map ci⟩)(o:L Y=4096)(s:L l<1000):∃e g,(e= .m b (L l)/\g=Y)/\cZ aS GG 233 [.m b<|L l] Y e g:=aMy o<|by have d:fS Y (.m b<|L l)=V (iv<|L l):=(by simp[fS,c]);simp only[d,eQ];refine⟨λh=>by simp[aRf,aoz],λh=>?_⟩;show lV [iv ((1:Nat):Int)] _ _;refine AI (α:=Unit) (λ_ i=>[iv i]) 0 (L l) 1 X (λi _ Y'=>1<=i/\Y'=Y) (s0:=()) ⟨Z,A⟩ ?_;rintro i _ Y' r ⟨q,rfl⟩;simp only[qz 37,au,d,eQ];refine⟨λj=>?_,λj=>by simp[aRf,aoz]⟩;have a:=aL j;have p:dq.wrap ((i:Int)-1)=((i-1:Nat):Int):=brE;have k:Q (gd l i=gd l (i-1))=I:=(by have:=AD f (show i-1<i by omega) a;simp;omega);simp only[mx c<|dJ a,bh,ml c a,eQ,p,mx c<|dJ<|show i-1<L l by omega,ml c (show i-1<L l by omega),k,eE,im];exact yU a ⟨Z,A⟩
def alB{Y}{d:Nat}{K b}{t x:Int}{e}(c:box Y b=V ⟨e,1,U,U,[[iv t]]⟩)(g:L Y=4096)(a:K (bv<|Q<|x=t) Y):cF (.f 235 [] [.p b 0 0]) [iv x] Y d K:=by simp only[cF,btX];rw[za (show¬GG.nw 235=U by decide),zg<|show GG.imp 235=U by decide];refine(aS2 A (aK2 g ?_) a:cB 235 [iv x, .p b 0 0] Y d K);simp only[eQ,c,iF,aRf,aoz,ip];grind [Fx.refl]
def aCv{Y b c l}{t:Int}{e}(g:box Y b=V ⟨3,1,U,I,l.map ci⟩)(r:box Y c=V ⟨e,1,U,U,[[iv t]]⟩)(o:L Y=4096)(w:L l<1000):∃d i,(d=iv (oW l t)/\Fx Y i [])/\cZ aS GG 281 [.m b<|L l, .f 235 [] [.p c 0 0]] Y d i:=aMB o<|by have q:fS Y (.m b<|L l)=V (iv<|L l):=(by simp[fS,g]);simp only[q,u0];refine yV (L l) (λk _ Y'=>Y'=Y/\∀j,j<k->gd l j≠t) ⟨A,O⟩ ?_;rintro k _ Y' v ⟨rfl,u⟩;simp only[qz 19,au,eQ];constructor<;>intro h;have a:=aL h;simp only[mx g<|dJ a,bh,ml g a,aY];refine alB r o ?_;simp only[u0];refine⟨λs=>?_,λs=>yU a X⟩;grind [aRf,aoz,anR,Fx.refl];grind [aRf,aoz,anS,bpL,dge,Fx.refl]
def gH(s:aW)(eI lD:Int)(k:Nat):Int:=if eh s eI k=[] then-1 else if lD∈eh s eI k then lD else gd (eh s eI k) 0
theorem AN{s eI x k}:x∈eh s eI k↔∃i:Nat,i<k/\pe s eI i=U/\x=i:=by grind [eh]
theorem Li{s eI k}(h:eh s eI k≠[]):0<=gd (eh s eI k) 0/\gd (eh s eI k) 0<k:=by grind [dB,eh,aqS,AN]
def axd{s eI lD k}(h:0<=gH s eI lD k):gH s eI lD k<k/\eh s eI k≠[]:=by grind [gH,AN,Li]
def axe{s eI lD k}:gH s eI lD (k+1)=if(pe s eI k&&(Q (gH s eI lD k<0)||Q ((k:Int)=lD)))=U then(k:Int) else gH s eI lD k:=by have hs:=bub s eI k;cases i:pe s eI k with|false=>grind [eE,gH]|true=>rw[i,zg rfl] at hs;simp only[iw];by_cases c:eh s eI k=[];have e:gH s eI lD k= -1:=(by grind [gH]);rw[e,zg O,gH,hs,c];simp only[dW,List.cons_ne_nil,btd,cE];split;omega;rfl;have j:¬gH s eI lD k<0:=(by rw[gH,za c];split;grind [AN];simp_all [Li]);rw[show Q (gH s eI lD k<0)=I by grind,lG];rw[gH,hs,za O];by_cases g:(k:Int)=lD;simp_all;rw[za (show¬Q ((k:Int)=lD)=U by simpa using g),gH,za c];have d:lD∈eh s eI k++[(k:Int)]↔lD∈eh s eI k:=X;have f:gd (eh s eI k++[(k:Int)]) 0=gd (eh s eI k) 0:=Dt<|aqS.2 c;by_cases a:lD∈eh s eI k;rw[zg<|d.2 a,zg a];rw[za<|λh=>a<|d.1 h,za a,f]
def giT{Y a}{l:List aoC}{k:Nat}{K}(d:lI Y 69 3 a<|l.map aoC.c)(g:k<L l):(rV (cz 3 Y a<|iv k) λt=>rV (sA (V 3) Y t) K)=K (.a (gd l k).c):=by obtain⟨e,_⟩|⟨b,rfl,f⟩:=d;simp_all;simp_all [cz,rV,sA,iE,aN,aNV,aoC.c]
def DB{Y a}{l:List aoC}{i:Int}{j:Nat}{x}{K:AV->be}(r:lI Y 69 3 a<|l.map aoC.c)(e:aF (L l) i)(y:j<3)(g)(v:(gd l i.toNat).c.set j (.s x)=g.c)(t:∀b Y',aA a=[b]->Fx Y Y' (aA a)->lI Y' 69 3 a ((l.set i.toNat g).map aoC.c)->K (.p b i.toNat 0) (.p b i.toNat j) Y'):rV (cz 3 Y a<|iv i) λp=>rV (iQ j Y p) λq=>sV (aK 1 Y q<|.s x) (K p q):=by have o:i.toNat<L l:=(be7 e.1 e.2);obtain⟨w,_⟩|⟨b,rfl,d⟩:=r;simp_all;have f:cz 3 Y (.m b<|L<|l.map aoC.c) (iv i)=V (.p b i.toNat 0):=(by simp[cz,e.1,d,o]);rw[f];simp only[rV,rR,d,df,aj];have u:(l.map aoC.c)[i.toNat]?=V (gd l i.toNat).c:=(by grind [eC,aNV]);refine wL d u (by grind [aoC.c]) λY' h k=>t b Y' A h ?_;rw[v] at k;refine .inr ⟨b,O,?_⟩;simp_all
def aUw{p:Prop}(h:p:=by grind [Go.Ab.bK.no]):p:=h
def aCD(s)(eI lD:Int){x1 x2 g Y}(D:L Y=4096)(hn:L s.ay<1000)(hG:lI Y 69 3 g<|s.ay.map aoC.c):∃r f,(r=iv (gH s eI lD<|L s.ay)/\lI f 69 3 g ((if 0<=gH s eI lD (L s.ay) then s.ay.set (gH s eI lD<|L s.ay).toNat {gd s.ay (gH s eI lD<|L s.ay).toNat with cQ:=4} else s.ay).map aoC.c)/\Fx Y f (aA g))/\cZ aS GG 236 [.a [x1,iv s.tx,x2,g],iv eI,iv lD] Y r f:=aK7 D A λN v3 u ak nf w=>by have t:=u.fx [];have z:=hG.fx t O;have G:=u.len.trans D;simp only[eS,w,iF,nM,ip,lnI z,bJ];refine jD (α:=Int) (λa i=>[iv a,iv i]) 1 (L s.ay) (λk a Y'=>a=gH s eI lD k/\Fx N Y' []) (s0:= -1) ⟨by simp[gH,eh],Fx.refl _ _⟩ ?_;rintro k _ f hk ⟨rfl,e⟩;have B:=z.fx e O;have E:=e.len.trans G;have W:=e.kq w;simp only[qz 25,au,eQ];constructor<;>intro h;have o:=aL h;refine bsf (λd=>∀(a:Int) (y:ae),a=gH s eI lD (k+1)->Fx N y []->d [iv a] y) ?_ λd nx=>?_;rintro a y rfl F;simp only[qz 45,au,eQ];exact dR (mk:=λa i=>[iv a,iv i]) (p:=1) (s:=gH s eI lD k) (s':=gH s eI lD<|k+1) (λ_ _=>A) o Z ⟨A,F⟩;simp only[qz 47,qy 4,gt1,giT B o];refine zm E λv9 Y2 R N2 b9=>?_;refine stI (cs:=aoC.c<|gd s.ay k) b9 A rfl H λv S x=>?_;have q:box v (9,v9)=V ⟨69,3,U,U,[aoC.c<|gd s.ay k]⟩:=x;have j:Fx f v []:=(R.trans S).mono aUw;have:=axe (s:=s) (eI:=eI) (lD:=lD) (k:=k);have M:(Q ((gd s.ay k).cQ=3)&&Q ((gd s.ay k).cond=eI))=pe s eI k:=A;simp+contextual only[qz 6,oj,q,ut,M];refine⟨λhb=>nx _ _ ?_<|e.trans j,λhb=>nx _ _ ?_<|e.trans j⟩;simp_all;simp_all;obtain rfl:k=L s.ay:=X;have T:Fx Y f []:=(t.trans e).mono O;simp only[qz 65,qy 8,au,eQ];constructor<;>intro hc;have m:=aNQ hc;have C:=(axd m).1;simp only[W,eS,iF,nM,ip];refine DB B ⟨m,C⟩ H {gd s.ay (gH s eI lD<|L s.ay).toNat with cQ:=4} A λb Y' ah P g'=>?_;simp only[qz 63,aI,au,aRf,aoz];refine⟨trivial,?_,(T.trans P).mono vB⟩;simp_all;simp only[qz 63,aI,au,aRf,aoz];grind [Fx.mono]
abbrev mH(s:aW)(l:eu):aW:=l.foldl (λs u=>aNU s u {fA s u with cQ:=4}) s
def anr:∀(l) (s),L (mH s l).ay=L s.ay
 |[],s=>rfl
 |u::l,s=>by
  show L (mH (aNU s u _) l).ay=_
  rw[anr l];simp[aNU]
theorem anq:∀(l) (s) (k),(∀u∈l,u.toNat≠k)->gd (mH s l).ay k=gd s.ay k
 |[],s,k,_=>rfl
 |u::l,s,k,h=>by
  show gd (mH (aNU s u _) l).ay k=_
  rw[anq l _ k vB]
  grind [aNU,gd]
def aD2(s)(l)(u):mH s (l++[u])=aNU (mH s l) u {fA (mH s l) u with cQ:=4}:=by simp[mH]
def bt2{p:Prop}(h:p:=by grind [Go.Ab.dJ]):p:=h
def aCE(s)(eI:Int){x1 x2 d Y}(G:L Y=4096)(hn:L s.ay<1000)(t:lI Y 69 3 d<|s.ay.map aoC.c):∃r g,(r=iv (L<|fO s eI)/\lI g 69 3 d ((mH s<|fO s eI).ay.map aoC.c)/\Fx Y g (aA d))/\cZ aS GG 237 [.a [x1,iv s.tx,x2,d],iv eI] Y r g:=aK8 G A λs2 v3 z am nf m=>by have y:=z.fx [];have D:=t.fx y O;have N:=z.len.trans G;have v:∀{S:ae} {l:List aoC} {w:Id} {x:bY},lI S 69 3 d (l.map aoC.c)->box S w=V x->x.var=U->w∉aA d:=λt hw hx hm=>(by obtain⟨_,rfl⟩|⟨b,rfl,u⟩:=t;simp[aA] at hm;grind [aA,cE]);simp only[eS,m,iF,nM,ip,lnI D,bJ];refine jD (α:=Int) (λa i=>[iv a,iv i]) 1 (L s.ay) (λk a Y'=>a=(L (eh s eI k):Int)/\lI Y' 69 3 d ((mH s<|eh s eI k).ay.map aoC.c)/\Fx s2 Y' (aA d)) (s0:=0) (by grind [eh,Fx.refl]) ?_;rintro k _ g hk ⟨rfl,q,f⟩;have M:=f.len.trans N;have b2:=f.keep _ _ (v D m A) m;have P:=anr (eh s eI k) s;have:=wU s eI k;simp only[qz 25,au,eQ];constructor<;>intro h;have j:=aL h;have F:gd (mH s<|eh s eI k).ay k=gd s.ay k:=(by grind [anq,AN]);simp only[qz 47,qy 4,gt1,giT q (by rwa [P]),F];refine zm M λv9 Y2 W N2 b9=>?_;refine stI (cs:=aoC.c<|gd s.ay k) b9 A rfl H λB F3 C=>?_;have o:box B (7,v9)=V ⟨69,3,U,U,[aoC.c<|gd s.ay k]⟩:=C;have e:Fx g B []:=(W.trans F3).mono aUw;have E:=q.fx e O;have b3:=e.kq b2;have hs:=bub s eI k;have R:(Q ((gd s.ay k).cQ=3)&&Q ((gd s.ay k).cond=eI))=pe s eI k:=A;simp+contextual only[qz 6,qy 8,fQ,o,ut,R];constructor<;>intro u;rw[u,zg A] at hs;simp only[b3,eQ,iF,nM,ip];refine DB E bt2 H {fA (mH s<|eh s eI k) k with cQ:=4} A λb Y' al T g'=>?_;simp only[qz 45,au,eQ];refine dR (mk:=λa i=>[iv a,iv i]) (p:=1) (s:=(L (eh s eI k):Int)) (s':=dq.wrap<|(L (eh s eI k):Int)+1) (λ_ _=>A) j Z ?_;refine⟨?_,?_,(f.trans<|e.trans T).mono vB⟩;grind [fX];rwa [hs,aD2];rw[u] at hs;simp only[eE,btd,cL] at hs;simp only[qz 45,au,eQ];refine dR (mk:=λa i=>[iv a,iv i]) (p:=1) (s:=(L (eh s eI k):Int)) (s':=(L (eh s eI k):Int)) (λ_ _=>A) j Z ?_;rw[hs];exact⟨A,E,(f.trans e).mono vB⟩;obtain rfl:k=L s.ay:=X;simp only[aRf,aoz];exact⟨A,q,(y.trans f).mono vB⟩
def apl:dO:=apn
def yR:eJ apl:=wR
def aBn:=@ut
def atE:=I9 13 [(4,([13],[1,2,3,11,12]))]
def aK6{c0}:=yB1 39 4 1 yR func231 atE c0 [.a c0]
def avc:=I9 34 [(2,([1,2,3,8,9],[0])),(10,([3],[0,1,2,8,9,10])),(14,([11,12],[0,1,2,3,8,9,10])),(18,([],[0,1,2,3,8,9,10,11]))]
def aMF{a a1 b c}:=yB yR func280 avc [a,a1,b,c]
def ava:=I9 1 []
def aMD{a}:=yB yR func232 ava [a]
def au7:=I9 16 [(7,([5,6],[0,1])),(10,([5],[0,1,6]))]
def aMA{a a1}:=yB yR func234 au7 [a,a1]
def atB:=I9 12 []
def aK3{c0 b c d e}:=y2 34 6 5 39 4 6 yR func226 atB c0 b [.a c0, .a b,c,d,e]
def bvg{p:Prop}(h:p:=by grind [Go.Ab.aRf,Go.Ab.aoz]):p:=h
def aCG{Y b r}{t d:Int}(e:jC r)(k:t∉r)(j:L r<12)(i:box Y b=V ⟨3,1,U,I,(r++[t]).map ci⟩)(f:L Y=4096):∃a c,(a= .t []/\box c b=V ⟨3,1,U,I,(fk r t).map ci⟩/\Fx Y c [b])/\cZ aS GG 280 [.m b<|L r+1,iv 0,iv ((L r+1:Nat):Int),iv d] Y a c:=aMF f<|by refine⟨λvs Y'=>vs=[iv 0,iv ((L r+1:Nat):Int),iv d,bv U,bv U]/\Y'=Y,λ_ _=>0,⟨A,A⟩,?_⟩;rintro vs Y' ⟨rfl,rfl⟩;have g:Q (((L r+1:Nat):Int)<=12)=U:=NA;simp only[qz 13,qy 2,au,eQ,Int.sub_zero,eM (x:=((L r+1:Nat):Int)) Z Z,g,↓iC];refine jH A (aCw e k j i f) ?_;rintro a c ⟨rfl,l,h⟩;exact⟨h.len,bvg⟩
def aCO{Y b r}{t:Int}(d:jC r)(l:t∉r)(j:L r<12)(e:box Y b=V ⟨3,1,U,I,(r++[t]).map ci⟩)(g:L Y=4096):∃a c,(a= .t []/\box c b=V ⟨3,1,U,I,(fk r t).map ci⟩/\Fx Y c [b])/\cZ aS GG 232 [.m b<|L r+1] Y a c:=aMD g<|by have h:fS Y (.m b<|L r+1)=V (iv ((L r+1:Nat):Int)):=(by simp[fS,e]);have f:sO (V .u64) (iv ((L r+1:Nat):Int))=V (.s<|.int .u64 ((L r+1:Nat):Int)):=(by show V (AV.s<|.int .u64<|IntKind.u64.wrap _)=_;grind [IntKind.wrap_u64]);simp only[qy 2,h,aY,f,ar,ut];refine⟨Z,?_⟩;rintro k ⟨n,rfl⟩;refine⟨.inl A,?_⟩;refine jH A (aCG d l j e g) ?_;rintro a c ⟨rfl,o,i⟩;exact⟨i.len,bvg⟩
def apJ{l}{t:Int}{j:Nat}(h:j<L l):fJ (l.take<|j+1) t=fJ (l.take j) t++if gd l j≠t then[gd l j] else[]:=by grind [fJ,iJ,aNV]
theorem aE6{l}{t:Int}(h:t∈l):∃i:Nat,oW l t=i/\i<L l/\gd l i=t/\∀j,j<i->gd l j≠t:=by have:(l.findIdx? λx=>Q<|x=t).isSome=U:=vB;grind [zz,List.findIdx?_eq_some_iff_getElem,oW,aNV]
def aCs{Y b c l}{t:Int}{e}(hm:t∈l)(C:box Y b=V ⟨3,1,U,I,l.map ci⟩)(E:box Y c=V ⟨e,1,U,U,[[iv t]]⟩)(z:L Y=4096)(hn:L l<1000):∃x n,(x= .m b (L<|fJ l t)/\box n b=V ⟨3,1,U,I,(fJ l t++er (L l-L (fJ l t)) 0).map ci⟩/\Fx Y n [b])/\cZ aS GG 234 [.m b<|L l, .f 235 [] [.p c 0 0]] Y x n:=aMA z<|by have D:c≠b:=X;refine aS2 A (aCv C E z hn) ?_;obtain⟨v,hp,R,P,ah⟩:=aE6 hm;rw[hp];have W:Q ((v:Int)= -1)=I:=O;simp only[qz 2,eQ,W,eE,im];rw[fX Z];have ad:fJ (l.take<|v+1) t=l.take v:=(by rw[apJ R,za (by simp[P]),cL,fJ,GA];grind [ou,aNV]);refine AI (α:=Nat) (λa i=>[iv (a:Int),iv i]) 1 (L l) (v+1) Z (λj a Y'=>∃d:eu,a=L (fJ (l.take j) t)/\a<j/\L d=L l/\d.take a=fJ (l.take j) t/\d.drop j=l.drop j/\box Y' b=V ⟨3,1,U,I,d.map ci⟩/\Fx Y Y' [b]) (s0:=v) ⟨l,?_,Z,A,?_,A,C,Fx.refl _ _⟩ ?_;grind;rw[ad];rintro j a n hj ⟨d,B,an,G,ht,N,o,r⟩;have S:=r.len.trans z;have c1:=r.keep _ _ (by simpa using D) E;have T:fS n (.m b<|L l)=V (iv<|L l):=(by simp[fS,o]);simp only[qz 43,au,T,eQ];constructor<;>intro h;have q:=aL h;have M:gd d j=gd l j:=(by have:(d.drop j)[0]?=(l.drop j)[0]?:=(by rw[N]);grind [eC,aNV]);have w:=apJ (t:=t) q;simp only[qz 65,qy 6,au,gt1,mx o<|dJ q,bh,ml o (show j<L d by omega),aY,M];refine alB c1 S ?_;simp only[eQ];constructor<;>intro hv;have u:gd l j≠t:=X;rw[zg u] at w;simp only[mx o<|dJ<|show a<L l by omega,bh];refine Qo o Z λY2 F2 b2=>?_;simp only[qz 63,au,eQ];rw[fX (k:=a) Z];refine dR (mk:=λ(a:Nat) i=>[iv (a:Int),iv i]) (p:=1) (s:=a) (s':=a+1) (λ_ _=>A) q Z ?_;refine⟨d.set a<|gd l j,vB,Z,by simp[G],?_,?_,b2,(r.trans F2).mono O⟩;grind [iJ,List.take_set_of_le];rw[List.drop_set_of_lt Z];have:d.drop (j+1)=(d.drop j).drop 1:=O;simp_all;have u:gd l j=t:=X;rw[za (by simp[u]),cL] at w;simp only[qz 63,au,eQ];refine dR (mk:=λ(a:Nat) i=>[iv (a:Int),iv i]) (p:=1) (s:=a) (s':=a) (λ_ _=>A) q Z ?_;refine⟨d,vB,Z,G,vB,?_,o,r⟩;have:d.drop (j+1)=(d.drop j).drop 1:=O;simp_all;obtain rfl:j=L l:=X;rw[gV] at B ht;have ab:fo 1 n (.m b<|L l) (V<|iv (a:Int)) J J=V (.g 2 b a<|L l-a):=(by simp only[fo,lM];grind [qY,bh]);simp only[ab,aY];have F:pA (.int .i64 0) n (.g 2 b a<|L l-a)=V (wr n b ⟨3,1,U,I,(d.take a++er (L l-a) 0++d.drop (L l)).map ci⟩):=(by simp only[pA,o];rw[zg ⟨trivial,Z⟩];congr 3;rw[show a+(L l-a)=L l by omega];simp);simp only[F,aoq,qz 8,au];have y:=lO (x':=⟨3,1,U,I,(d.take a++er (L l-a) 0++d.drop (L l)).map ci⟩) o;have aa:fo 1 (wr n b ⟨3,1,U,I,(d.take a++er (L l-a) 0++d.drop (L l)).map ci⟩) (.m b<|L l) J (V<|iv (a:Int)) J=V (.m b a):=(by simp only[fo,lM];rw[zg Z];simp only[qY,y,a6X,bh,mi];rw[zg ⟨trivial,trivial,Z⟩]);simp only[aa,aY,aRf,aoz];have K:d.drop (L l)=[]:=X;rw[K,cL,ht] at y;subst B;rw[show d.take (L<|fJ l t)++er (L l-L (fJ l t)) 0++d.drop (L l)=fJ l t++er (L l-L (fJ l t)) 0 by simp_all];exact⟨A,y,(r.trans<|wc o).mono O⟩
def anf{Y a b x}(c:Fx Y a [b])(h:box a b=V x):LoC b x Y a:=⟨c.len,c.ver,bsq,h⟩
def awP{Y}{d:Nat}{K b l}(e:jC l)(c:box Y b=V ⟨3,1,U,I,l.map ci⟩)(j:L Y=4096)(k:L l<1000)(i:∀Y',Fx Y Y' [b]->box Y' b=V ⟨3,1,U,I,l.map ci⟩->K (.m b<|L l) Y'):cN 233 [.m b<|L l] Y d K:=by refine .inr (.inl ⟨.m b<|L l,b,_,⟨3,1,U,I,l.map ci⟩,L l,A,c,(by grind [qA,gY]), .inr ⟨_,A⟩,λg f n=>?_,i _ (wc c)<|lO c⟩);have a:box g b=V ⟨3,1,U,I,l.map ci⟩:=(by grind [nQ,pP,dC,dK]);obtain⟨r,o,⟨rfl,rfl⟩,h⟩:=aCq e a (f.trans j) k;exact⟨_,h,anf (Fx.refl _ _) a⟩
def awR{Y}{d:Nat}{K b c l}{t:Int}{e}(u:t∈l)(a:box Y b=V ⟨3,1,U,I,l.map ci⟩)(y:box Y c=V ⟨e,1,U,U,[[iv t]]⟩)(s:L Y=4096)(v:L l<1000)(q:∀Y',Fx Y Y' [b]->box Y' b=V ⟨3,1,U,I,(fJ l t++er (L l-L (fJ l t)) 0).map ci⟩->K (.m b<|L<|fJ l t) Y'):cN 234 [.m b<|L l, .f 235 [] [.p c 0 0]] Y d K:=by have:L (fJ l t)<=L l:=fZ _ _;refine .inr (.inl ⟨.m b<|L<|fJ l t,b,_,⟨3,1,U,I,(fJ l t++er (L l-L (fJ l t)) 0).map ci⟩,L l,A,a,(by grind [qA,gY]), .inr ⟨_,A⟩,λg k w=>?_,q _ (wc a)<|lO a⟩);have i:box g b=V ⟨3,1,U,I,l.map ci⟩:=(by grind [nQ,pP,dC,dK]);have j:box g c=V ⟨e,1,U,U,[[iv t]]⟩:=(by grind [nQ,pP,dC,dK]);obtain⟨r,x,⟨rfl,n,o⟩,h⟩:=aCs u i j (k.trans s) v;exact⟨_,h,anf o n⟩
theorem Ny{x l}:jC (x::l)↔(∀y∈l.head?,x<y)/\jC l:=by constructor;intro h;refine⟨λy a=>?_,λi b=>by have:=h (i+1) NA;grind [gd]⟩;(cases l with|nil=>simp at a|cons z l=>simp only[List.head?_cons,Option.mem_def,aOe] at a;subst a;have:=h 0 O;grind [gd]);rintro⟨d,c⟩ i b;cases i with|zero=>(cases l with|nil=>simp at b|cons z l=>simp_all [gd])|succ i=>have:=c i vB;grind [gd]
def aE9{l t}:∀y∈(fk l t).head?,y=t\/y∈l.head?:=by cases l with|nil=>simp[fk]|cons x l=>grind [fk]
theorem Nz:∀{l t},jC l->jC (fk l t)
 |[],t,_=>by intro i c;simp[fk] at c
 |x::l,t,h=>by
  have b:=Ny.1 h
  simp only[fk]
  split
  ·rename_i d
   refine Ny.2 ⟨λy a=>?_,Nz b.2⟩
   obtain rfl|a:=aE9 y a
   ·exact d
   simp_all
  grind [Ny]
def an0:∀{l t},(∀x∈l,x<t)->fk l t=l++[t]
 |[],t,_=>rfl
 |x::l,t,h=>by
  simp only[fk,zg<|h x O,zn]
  rw[an0 vB]
def an3{l}(h:jC l):∀k,k<=L l->jh [] l k=l.take k
 |0,_=>rfl
 |k+1,e=>by
  have a:k<L l:=Z
  have hs:jh [] l (k+1)=fk (jh [] l k) (gd l k):=by
   grind [jh,iJ,aNV]
  rw[hs,an3 h k Z,iJ a,<-aNV a]
  refine an0 λx c=>?_
  obtain⟨j,d,rfl⟩:=ou c
  have b:j<k:=X
  have:=AD h b a
  grind [aNV]
theorem Ro{l t}(h:jC l):mP l [t]=fk l t:=by show jh (jh [] l<|L l) [t] 1=_;rw[an3 h _<|dA _,gV];rfl
def boY(n:Nat)(f:Nat->dM):List (dM):=(aH n).map f
theorem aH0{n:Nat}{f}:L (boY n f)=n:=by simp[boY]
def uU{n f k}(h:k<n):(boY n f)[k]?=V (f k):=by simp[boY,h]
def yC{n f g}(h:∀i,i<n->f i=g i):boY n f=boY n g:=ja λi a=>h i<|fq.1 a
def Bl{n f k x}:(boY n f).set k x=boY n λi=>if i=k then x else f i:=biF (by simp[boY]) λj a b=>by grind [boY]
def Q0{n x}:er n x=boY n λ_=>x:=biF (by simp[boY]) λj a b=>by simp[boY]
def aH1{α}[Inhabited α]{l}{g:α->dM}:(l.map g)=boY (L l) λi=>g (gd l i):=biF (by simp[boY]) λj a b=>by grind [boY,aNV]
def qg(Y:ae)(e:TypeId)(z:Nat)(a:AV)(bA:List<|dM):Prop:=(bA=[]/\a= .l [] U U)\/∃b c,a= .m b (L bA)/\box Y b=V ⟨e,z,U,I,c⟩/\c.take (L bA)=bA
theorem qg.fx{Y Y' ks e z a bA}(i:qg Y e z a bA)(g:Fx Y Y' ks)(j:∀b∈aA a,b∉ks):qg Y' e z a bA:=by obtain h|⟨b,c,rfl,d,f⟩:=i;exact .inl h;exact .inr ⟨b,c,A,g.keep b _ (j b aBY) d,f⟩
def lI.x{Y e z a bA}(d:lI Y e z a bA):qg Y e z a bA:=by obtain h|⟨b,rfl,c⟩:=d;exact .inl h;exact .inr ⟨b,bA,A,c,gV⟩
theorem qg.ids{Y e z a bA}(d:qg Y e z a bA):∀k∈aA a,∃c,box Y k=V ⟨e,z,U,I,c⟩:=by obtain⟨_,rfl⟩|⟨b,c,rfl,f,g⟩:=d;simp[aA];grind [aA,cE]
theorem qg.ce{Y e z a bA}(c:qg Y e z a bA):eY a=V [a]:=by obtain⟨_,rfl⟩|⟨b,_,rfl,_⟩:=c<;>rfl
theorem qg.fr{Y e a l}(f:qg Y e 1 a<|l.map ci):frN Y a=sl ci l:=by obtain⟨h,rfl⟩|⟨b,g,rfl,c,d⟩:=f;simp at h;subst h;rfl;simp only[frN,aOn,c,a6F,gK];rw[d];rfl
def vC(Y:ae)(a:AV)(ls:List cg):Prop:=∃(b:Id) (f:Nat->AV),a= .m b (L ls)/\box Y b=V ⟨191,2,U,U,boY (L ls) λi=>[iv (gd ls i).aPo,f i]⟩/\(∀i,i<L ls->lI Y 3 1 (f i) ((gd ls i).bk.map ci))/\(∀i j,i<L ls->j<L ls->i≠j->∀k∈aA (f i),k∉aA (f j))/\∀i,i<L ls->∀k∈aA (f i),k.1=24
def sC(Y:ae)(a:AV)(ls:List cg):Prop:=∃(b:Id) (f:Nat->AV),a= .m b (L ls)/\box Y b=V ⟨191,2,U,U,boY (L ls) λi=>[iv (gd ls i).aPo,f i]⟩/\(∀i,i<L ls->qg Y 3 1 (f i) ((gd ls i).bk.map ci))/\∀i j,i<L ls->j<L ls->i≠j->∀k∈aA (f i),k∉aA (f j)
def Bp{Y b}{i j z y:Nat}{e o bA r cs x K}(a:box Y b=V ⟨e,z,o,U,bA⟩)(g:bA[i]?=V r)(h:eY x=V cs)(k:L cs=y)(f:j+y<=L r)(d:∀Y',Fx Y Y' [b]->box Y' b=V ⟨e,z,o,U,bA.set i<|r.take j++cs++r.drop (j+y)⟩->K Y'):sV (aK y Y (.p b i j) x) K:=by have c:aK y Y (.p b i j) x=V (wr Y b ⟨e,z,o,U,bA.set i<|r.take j++cs++r.drop (j+y)⟩):=(by grind [aK,aBG,pW]);rw[c];exact d _ (wc a)<|lO a
def AP{e zs}{by' d n:Nat}{Y K}(i:0<L zs)(h:zs.all eN=U)(a:d<L Y)(j:n*(by'+1)<=1099511627776)(g:∀b Y',b.1=d->bK Y b->Fx Y Y' []->box Y' b=V ⟨e,L zs,U,uj zs,er n<|mz zs⟩->K (.m b n) Y'):eV (qO e zs by' Y d (iv n)<|iv n) K:=by have c:qO e zs by' Y d (iv n) (iv n)=V (.m (lA Y d) n,put Y d ⟨e,L zs,U,uj zs,er n<|mz zs⟩):=(by have f:(n:Int)*((by':Int)+1)<=((1099511627776:Nat):Int):=X;simp only[qO];rw[zg ⟨Z,Int.le_refl _,i,h,by simp[vg,a],f⟩];simp);rw[c];exact g _ _ A (qQ Y d) (kH a)<|iy a
def aqw(s:aW)(r:AV)(e Y:ae):Prop:=∃a1 d b,r= .a [a1,iv s.tx,d,b]/\vC Y a1 s.ak/\lI Y 4 1 d (s.done.map cb)/\lI Y 69 3 b (s.ay.map aoC.c)/\(∀k∈aA a1++aA d++aA b,bK e k)/\∀k∈aA b,k.1≠7/\k.1≠8
def bv8{p:Prop}(h:p:=by grind [Go.Ab.dB]):p:=h
def bv9{p:Prop}(h:p:=by simp[Go.Ab.gY]):p:=h
def aCp(s){Y}(hl:L Y=4096)(hp:L s.ak<1000/\L s.done<1000/\L s.ay<1000/\∀l∈s.ak,L l.bk<1000):∃r Y1,(aqw s r Y Y1/\Fx Y Y1 [])/\cZ aS GG 231 [.a s.c] Y r Y1:=aK6 hl A λs2 n K2 bv bw b1=>by have D:=K2.fx [];have aq:=K2.len.trans hl;refine zm aq λN Y2 R N2 b2=>?_;have d1:=R.kq b1;have a6:=R.len.trans aq;simp only[qz 4,eT,d1];refine AP H H Z Z λg Y3 bu NL F3 aV=>?_;have:box Y3 g=V ⟨191,2,U,U,boY (L s.ak) λ_=>[iv 0, .l [] U U]⟩:=(by rw[aV,Q0];rfl);have e1:=F3.kq d1;simp only[qz 6,eT,e1];refine yV (L s.ak) (λk _ Y'=>Fx Y2 Y' []/\∃f:Nat->AV,box Y' g=V ⟨191,2,U,U,boY (L s.ak) λi=>if i<k then[iv (gd s.ak i).aPo,f i] else[iv 0, .l [] U U]⟩/\(∀i,i<k->lI Y' 3 1 (f i) ((gd s.ak i).bk.map ci))/\(∀i j,i<k->j<k->i≠j->∀q∈aA (f i),q∉aA (f j))/\(∀i,i<k->∀q∈aA (f i),q≠g)/\∀i,i<k->∀q∈aA (f i),q.1=24) vB ?_;rintro k _ G hk ⟨E,f,aZ,ab,aU,bt,aX⟩;have ac:=E.len.trans a6;have g1:=E.kq d1;have g2:=E.kq b2;simp only[qz 25,qy 8,au,fD,bh,g1];refine⟨λh=>⟨vp h,?_⟩,λh=>?_⟩;have ad:=aL h;refine zm ac λv5 Y5 o N5 b5=>?_;refine stI (cs:=cg.c<|gd s.ak k) b5 A rfl H λY6 t T=>?_;have aR:box Y6 (5,v5)=V ⟨191,2,U,U,[cg.c<|gd s.ak k]⟩:=T;have C:Fx G Y6 []:=(o.trans t).mono aUw;have:=C.len.trans ac;simp only[qz 10,eT,aR];refine Kr (bA:=(gd s.ak k).bk.map ci) A fF bv8 bv9 Z λK Y7 g7 u N7=>?_;have a0:bM bu0 bqW [(0,iv (gd s.ak k).aPo),(1,K)]=V (.a [iv (gd s.ak k).aPo,K]):=(by simp[bM,aly,ms g7,zU]);have ap:=u.kq<|C.kq aZ;have a1:cz 2 Y7 (.m g<|L s.ak) (iv k)=V (.p g k 0):=(by simp[cz,ap,ad]);simp only[qz 12,a0,aY,a1,au];refine Bp ap (uU ad) (x:= .a [iv (gd s.ak k).aPo,K]) A rfl O λY8 F W=>?_;simp only[qz 14];refine dT A ?_;simp only[au,eQ];have:∀q∈aA K,q≠g:=X;have:∀i,i<k->∀q∈aA (f i),q∉aA K:=λi y q d a8=>(by obtain⟨v,b⟩:=(ab i y).x.ids q d;exact(N7 q a8).1.no _<|C.kq b);have aG:Fx G Y8 [g]:=(C.trans<|u.trans F).mono O;refine yU ad ⟨(E.trans aG).mono aUw,λi=>if i=k then K else f i,?_,?_,?_,?_,?_⟩;rw[W,Bl];congr 2;refine yC λi y=>?_;grind;intro i y;by_cases h1:i=k;grind [lI.fx];grind [lI.fx];grind;grind;grind;obtain rfl:k=L s.ak:=X;have aF:box G g=V ⟨191,2,U,U,boY (L s.ak) λi=>[iv (gd s.ak i).aPo,f i]⟩:=(by simp_all [yC]);have:=(NL.ne d1).symm;refine stI (cs:=[.m g<|L s.ak]) g1 A rfl (by simp[aW.c]) λY5 o b5=>?_;have an:box Y5 (1,n)=V ⟨39,4,U,U,[[.m g<|L s.ak,iv s.tx,sl cb s.done,sl aoC.c s.ay]]⟩:=b5;have a7:=o.len.trans ac;simp only[qz 16,eS,an,iF,nM,ip];refine aw2 (bA:=s.done.map cb) A X NA bv9 Z λB Y6 g6 t N6=>?_;have T:=t.kq an;simp only[qz 18,eS,T];refine stI (cs:=[B]) T (ms g6) A O λY7 u b7=>?_;have ao:box Y7 (1,n)=V ⟨39,4,U,U,[[.m g<|L s.ak,iv s.tx,B,sl aoC.c s.ay]]⟩:=b7;have:=u.len.trans<|t.len.trans a7;simp only[qz 20,eS,ao,iF,nM,ip];refine aw1 (bA:=s.ay.map aoC.c) A (qW (f:=aoC.c) λ_=>A) NA (by simp[gY,aoC.c]) Z λM Y8 g8 F N8=>?_;have W:=F.kq ao;simp only[qz 22,eS,W];refine stI (cs:=[M]) W (ms g8) A O λY9 F9 b9=>?_;have aT:box Y9 (1,n)=V ⟨39,4,U,U,[[.m g<|L s.ak,iv s.tx,B,M]]⟩:=b9;have ah:Fx G Y9 [(1,n)]:=(o.trans<|t.trans<|u.trans<|F.trans F9).mono O;have:(2,N)≠(1,n):=O;have g9:=ah.kq g2;simp only[qz 24,qy 26,eQ,aT,uS];refine stI (cs:=[.m g<|L s.ak,iv s.tx,B,M]) g9 A rfl H λam P aQ=>?_;have az:box am (2,N)=V ⟨39,4,U,U,[[.m g<|L s.ak,iv s.tx,B,M]]⟩:=aQ;simp only[eQ,az,uS,aRf,aoz];have al:Fx Y G []:=(D.trans<|R.trans E).mono O;have S:Fx G am [(1,n),(2,N)]:=(ah.trans P).mono O;have hv:∀{q:Id} {e:TypeId} {z:Nat} {v:List (dM)} {τ:ae},box τ q=V ⟨e,z,U,I,v⟩->∀{w:Id} {x:bY},box τ w=V x->x.var=U->q≠w:=X;have k1:∀i,i<L s.ak->∀q∈aA (f i),q∉[(1,n),(2,N)]:=λi y q d=>(by obtain⟨v,b⟩:=(ab i y).x.ids q d;simp only[eW,ql,brT,not_or];grind);have i2:∀q∈aA B,q∉[(1,n)]/\q∉[(2,N)]:=λq d=>(by obtain⟨v,b⟩:=g6.x.ids q d;have aa:=t.kq<|o.kq g2;exact⟨by simpa using hv b T A,by simpa using hv b aa A⟩);have:∀q∈aA M,q∉[(1,n)]/\q∉[(2,N)]:=λq d=>(by obtain⟨v,b⟩:=g8.x.ids q d;have aa:=F.kq<|u.kq<|t.kq<|o.kq g2;exact⟨by simpa using hv b W A,by simpa using hv b aa A⟩);refine⟨⟨_,B,M,A,⟨g,f,A,?_,λi y=>(ab i y).fx S<|k1 i y,aU,aX⟩,?_,?_,?_,λk hk=>by have:=(N8 k hk).2;omega⟩,?_⟩;refine S.keep _ _ ?_ aF;simp only[eW,ql,brT,not_or];grind;exact((g6.fx u λq d=>(i2 q d).1).fx F O).fx (F9.trans P) X;exact g8.fx (F9.trans P) X;intro q d;simp only[dF,aA,cE] at d;obtain(rfl|d)|d:=d;exact NL.old<|D.trans R;exact rC (gl (al.ver _)<|o.ver _) (N6 q d).1;exact rC (gl (al.ver _)<|gl (o.ver _)<|gl (t.ver _)<|u.ver _) (N8 q d).1;refine((D.trans R).trans<|E.trans S).mono ?_;simp only[dW,eW,ql,brT];rintro q (rfl|rfl);grind;exact .inr λx hx=>N2.no _<|D.kq hx
def Ov(w)(s)(t kind eI:Int)(v:lh w s=U/\L w.bC<=2/\(∀l∈s.ak,L l.bk<100000)):Ct 226 [.a w.c, .a s.c,iv t,iv kind,iv eI] (·=bv (jm w s t kind eI)):=aK3 A rfl λN K h i E=>by obtain⟨b,k,n⟩:=v;obtain⟨z,B,C,D⟩:=iY b;simp+contextual only[qy 6,ie,ut,h,i,b,k,lG];rcases g:dh t (L w.ay) with _|_;simp[jm,g];rcases d:named w kind eI with _|_;simp[jm,g,d];have f:aF (L s.ay) t:=btB;simp only[fh,kz,f,im,eE];refine eF A rfl H Z λY F o=>?_;have p:=F.bt h;have q:=F.bt i;have m:jm w s t kind eI=lc w s t kind eI:=(by simp[jm,b,g,d]);rw[m,axG];simp+contextual only[qz 8,↓iS,gj,ut,o,p,q];obtain⟨x,M,r,P,y⟩:=D0 b d;refine⟨λu=>?_,λu=>⟨λe=>?_,λe=>⟨λ_=>⟨b,d,f,n⟩,?_⟩⟩⟩;rfl;have:=aNQ e;have j:=r Z Z;exact⟨λ_ _=>j,λ_ _=>x j,A⟩;simp only[bih];rcases G:Q ((gd s.ay t.toNat).cQ=2) with _|_<;>simp_all
def BU:FT:=bpg Ov
def ays:=KQ BU Ov
def Rm:dO:=(226,BU)::apl
def ape:eJ Rm:=asq (Rt Ov)<|yR
def aml:=ai @ays<|@aBn
def ak9:=I9 31 [(6,([15],[7,12])),(10,([42],[4,5,6,7,8,12,15,27])),(12,([51],[4,5,6,7,8,12,15,27]))]
def Ii c b a d e f g R:=(.mk _:NR Rm ak9 Tryz.f147 [.u, .u, .u,d,e,f] [c,b,a] g R).p
def aK1{c0:dM}{e:dM}{d f g i:AV}{R:J3}(l0:L c0=6)(l1:L e=4)(w:eY d=V [d])(h:∀b:ae,L b=4096->box b (6,1)=V ⟨34,6,U,U,[c0]⟩->box b (7,1)=V ⟨39,4,U,U,[e]⟩->box b (8,1)=V ⟨3,1,U,U,[[d]]⟩->(∀k,k≠6->k≠7->k≠8->aZ b k=mO)->Ii (.p (6,1) 0 0) (.p (7,1) 0 0) (.p (8,1) 0 0) f g i b R):Fn aS GG 147 [.a c0, .a e,d,f,g,i] R:=by refine uq ready ape func147 (an:=ak9) a7c (aND (show ZF aS GG Rm ak9 Tryz.f147 [.a c0, .a e,d,f,g,i] R=(eV (bxA 34 6 (ly Tryz.f147) 6<|.a c0) λo l=>eV (bxA 39 4 l 7<|.a e) λn m=>eV (bxA 3 1 m 8 d) λc b=>Ii o n c f g i b R) by kernel_rfl) ?_);refine mY (N:=4096) A l0 H H uB (by rw[i8]) λl x B D g0=>?_;refine mY (N:=4096) A l1 H H x (by rw[g0 _ H,i8]) λm y C r g1=>?_;refine mY (N:=4096) w A H H y (by rw[g1 _ H,g0 _ H,i8]) λb z q j s=>?_;exact h b z (by rwa [j _ _ H,r _ _ H]) (by rwa [j _ _ H]) q (λk t u v=>by rw[s k v,g1 k u,g0 k t];exact i8 _ k)
def aCn{B}{b:(aG)->Prop}(Q:aG)(c:∀a,(∀vs Y',Q vs Y'->a vs Y')->b a)(d:∀vs Y',Q vs Y'->B vs Y'):b B:=c B d
structure Sz(Y:ae)(s:aW)(a1 a2 a3:AV):Prop where
 bx:box Y (7,1)=V ⟨39,4,U,U,[[a1,iv s.tx,a2,a3]]⟩
 g1:sC Y a1 s.ak
 g2:lI Y 4 1 a2 (s.done.map cb)
 g3:lI Y 69 3 a3 (s.ay.map aoC.c)
theorem lI.ids{Y e z a bA}(c:lI Y e z a bA):∀k∈aA a,box Y k=V ⟨e,z,U,I,bA⟩:=by obtain⟨_,rfl⟩|⟨b,rfl,d⟩:=c;simp[aA];grind [aA,cE]
def vC.g{Y a ls}(h:vC Y a ls):sC Y a ls:=by obtain⟨b,f,c,d,e,j,_⟩:=h;exact⟨b,f,c,d,λi k=>(e i k).x,j⟩
theorem vC.fx{Y Y' ks a ls}(h:vC Y a ls)(c:Fx Y Y' ks)(o:∀k∈ks,(∃x,box Y k=V x/\((x.var=U/\x.elem≠191)\/(x.var=I/\x.elem≠3)))\/∀x,box Y k≠V x):vC Y' a ls:=by obtain⟨b,f,rfl,l,d,g,j⟩:=h;refine⟨b,f,A,c.keep _ _ (λm=>?_) l,λi e=>(d i e).fx c λq n m=>?_,g,j⟩;grind;have:=(d i e).ids q n;grind
theorem sC.fx{Y Y' ks a ls}(e:sC Y a ls)(c:Fx Y Y' ks)(m:∀k∈ks,(∃x,box Y k=V x/\((x.var=U/\x.elem≠191)\/(x.var=I/\x.elem≠3)))\/∀x,box Y k≠V x):sC Y' a ls:=by obtain⟨b,f,rfl,h,g,d⟩:=e;refine⟨b,f,A,c.keep _ _ (λl=>?_) h,λi j=>(g i j).fx c λq n l=>?_,d⟩;grind;grind [qg.ids]
theorem sC.fr{Y a ls}(j:sC Y a ls):dQ Y a= .l (ls.map cg.c) I U:=by obtain⟨b,f,rfl,m,e,k⟩:=j;have:∀i,i<L ls->([iv (gd ls i).aPo,f i].map<|frN Y)=cg.c (gd ls i):=λi d=>(by simp only[ji,mU,(e i d).fr,cg.c];rfl);have:(boY (L ls) λi=>[iv (gd ls i).aPo,f i]).map (·.map (frN Y))=ls.map cg.c:=(by rw[aH1 (l:=ls) (g:=cg.c)];grind [boY,vA,ja]);have:((boY (L ls) λi=>[iv (gd ls i).aPo,f i]).all λr=>r.all λc=>eN<|frN Y c)=U:=(by rw[dV];intro r h;simp only[boY,dN,fq] at h;obtain⟨i,d,rfl⟩:=h;simp only[List.all_cons,List.all_nil,(e i d).fr,Bool.and_true];rfl);have:(boY (L ls) λi=>[iv (gd ls i).aPo,f i]).take (L ls)=boY (L ls) λi=>[iv (gd ls i).aPo,f i]:=(by grind [oB,aH0]);grind [dQ]
def lI.frD{Y e z a bA}(c:lI Y e z a bA):∃t o,dQ Y a= .l bA t o:=by obtain⟨rfl,rfl⟩|⟨b,rfl,d⟩:=c;exact⟨_,_,A⟩;simp_all [dQ]
section
variable{Y:ae}{s:aW}{a1 a2 a3:AV}
theorem Sz.fx{Y'}(S:Sz Y s a1 a2 a3)(a:Fx Y Y' []):Sz Y' s a1 a2 a3:=⟨a.kq S.bx,S.g1.fx a O,S.g2.fx a O,S.g3.fx a O⟩
theorem Sz.th{i:Int}{j:Nat}{x}{K:AV->be}(S:Sz Y s a1 a2 a3)(n:aF (L s.ay) i)(o:j<3)(d)(r:(gd s.ay i.toNat).c.set j (.s x)=d.c)(m:∀b Y',Fx Y Y' (aA a3)->Sz Y' (aNU s i d) a1 a2 a3->aA a3=[b]->K (.p b i.toNat 0) (.p b i.toNat j) Y'):rV (cz 3 Y a3<|iv i) λp=>rV (iQ j Y p) λq=>sV (aK 1 Y q<|.s x) (K p q):=by refine DB S.g3 n o d r λb Y' h a l=>m b Y' a ⟨?_,?_,?_,l⟩ h;refine a.keep _ _ (λf=>?_) S.bx;have:=S.g3.ids _ f;rw[S.bx] at this;cases this;exact S.g1.fx a λk e=> .inl ⟨_,S.g3.ids k e, .inr ⟨A,O⟩⟩;exact S.g2.fx a λk e f=>by have g:=S.g2.ids _ e;rw[S.g3.ids _ f] at g;cases g
theorem Sz.lk{i o:Int}{K:AV->be}(S:Sz Y s a1 a2 a3)(e:aF (L s.ak) i)(n:∀b Y',Fx Y Y' (aA a1)->Sz Y' (lC s i {cH s i with aPo:=o}) a1 a2 a3->aA a1=[b]->K (.p b i.toNat 0) (.p b i.toNat 0) Y'):rV (cz 2 Y a1<|iv i) λp=>rV (iQ 0 Y p) λq=>sV (aK 1 Y q<|iv o) (K p q):=by have h:i.toNat<L s.ak:=(be7 e.1 e.2);obtain⟨b,f,rfl,d,t,r⟩:=S.g1;have j:cz 2 Y (.m b<|L s.ak) (iv i)=V (.p b i.toNat 0):=(by simp[cz,e.1,d,h]);rw[j];simp only[rV,rR,d,df,aj];refine Bp d (uU h) (x:=iv o) A rfl O λY' c l=>n b Y' c ⟨?_,?_,?_,?_⟩ A;refine c.keep _ _ (λg=>?_) S.bx;simp only[cE] at g;have:=S.bx;simp_all;refine⟨b,f,by simp[lC],?_,λk a=>?_,?_⟩;rw[l,Bl];simp only[lC,zq];congr 2;refine yC λk a=>?_;grind [gd,cH,oq];have:k<L s.ak:=(by grind [lC]);have:(gd (lC s i {cH s i with aPo:=o}).ak k).bk=(gd s.ak k).bk:=(by grind [lC,cH,gd,oq]);grind [qg.fx,qg.ids];grind [lC];exact S.g2.fx c λk a g=>(by have:=S.g2.ids _ a;simp_all);exact S.g3.fx c λk a g=>by have:=S.g3.ids _ a;simp_all
theorem Sz.dn{i:Int}{v K}(S:Sz Y s a1 a2 a3)(e:aF (L s.done) i)(f:∀Y',Fx Y Y' (aA a2)->Sz Y' {s with done:=s.done.set i.toNat v} a1 a2 a3->K Y'):rV (cz 1 Y a2<|iv i) λp=>sV (aK 1 Y p<|bv v) K:=by have n:i.toNat<L s.done:=(be7 e.1 e.2);refine ixI S.g2 X λb d g=>?_;have j:(s.done.map cb)[i.toNat]?=V (cb<|gd s.done i.toNat):=(by grind [eC,aNV]);refine wL g j O λY' l m=>?_;have F:Fx Y Y' (aA a2):=(by rwa [d]);refine f Y' F ⟨?_,?_,?_,?_⟩;grind [Fx.keep,lI.ids,Sz.g2,Sz.bx];exact S.g1.fx F λk a=> .inl ⟨_,S.g2.ids k a, .inr ⟨A,O⟩⟩;refine .inr ⟨b,by rw[d];simp,?_⟩;simp_all;exact S.g3.fx F λk a h=>by have c:=S.g3.ids _ a;rw[S.g2.ids _ h] at c;cases c
theorem Sz.tx{x K}(S:Sz Y s a1 a2 a3)(d:∀Y',Fx Y Y' [(7,1)]->Sz Y' {s with tx:=x} a1 a2 a3->K Y'):sV (aK 1 Y (.p (7,1) 0 1)<|iv x) K:=by refine stI (cs:=[iv x]) S.bx A rfl O λY' F c=>d Y' F ⟨c,?_,?_,?_⟩;exact S.g1.fx F (by grind [Sz.bx]);exact S.g2.fx F λk a b=>(by simp only[cE] at b;have:=S.g2.ids _ a;grind [Sz.bx]);exact S.g3.fx F λk a b=>by simp only[cE] at b;have:=S.g3.ids _ a;grind [Sz.bx]
end
theorem sC.ids{Y a ls}(c:sC Y a ls):∀k∈aA a,∃bA,box Y k=V ⟨191,2,U,U,bA⟩:=by obtain⟨b,f,rfl,d,_⟩:=c;grind [aA,cE]
theorem Sz.no{Y s a1 a2 a3}(S:Sz Y s a1 a2 a3){c x}(b:box Y c=V x)(e:x.var=U)(d:x.elem≠191):c∉aA a1/\c∉aA a2/\c∉aA a3:=by refine⟨λh=>?_,λh=>?_,λh=>?_⟩;obtain⟨bA,a⟩:=S.g1.ids _ h;grind;have:=S.g2.ids _ h;grind;have:=S.g3.ids _ h;grind
def Bk{a b c d}:aN J ([a,b,c,d].drop 3)=V d:=rfl
def aHW{a b c d}:aN J ([a,b,c,d].drop 2)=V c:=rfl
def bte{p:Prop}(h:p:=by grind [Go.Ab.cU]):p:=h
def Ou(w)(s)(t kind eI lD:Int)(hp:jm w s t kind eI=U/\L w.bC<=2/\(∀l∈s.ak,L l.bk<12)/\(∀l∈s.ak,jC l.bk)/\L s.ak<1000/\L s.done<1000/\L s.ay<1000):Ct 147 [.a w.c, .a s.c,iv t,iv kind,iv eI,iv lD] (λr=>∃f,r= .t [.a<|eD (cU w s t kind eI lD).1 f,iv (cU w s t kind eI lD).2,bv U]):=aK1 A rfl rfl λs6 hl b1 b2 b3 h0=>by obtain⟨he,cD,bg,cJ,dx,dy,bH⟩:=hp;have bu:=he;simp only[jm,bN] at bu;obtain⟨hf,hi,hn,am⟩:=bu;obtain⟨f1,f2,f3,f4⟩:=iY hf;obtain⟨mI,lk,cd,th,dn⟩:=D0 hf hn;have an:aF (L s.ay) t:=btB;simp only[Ii];refine mo hl λs8 F8 b8=>?_;have c1:=F8.bt b1;have c2:box s8 (7,1)=V ⟨39,4,U,U,[s.c]⟩:=btO;have c3:box s8 (8,1)=V ⟨3,1,U,U,[[iv t]]⟩:=btO;have bz:L s8=4096:=(by rw[F8.1,hl]);generalize(aZ s6 12).ver+1=af at*;have cc:lh w s=U/\L w.bC<=2/\∀l∈s.ak,L l.bk<100000:=⟨hf,cD,λl hl=>by have:=bg l hl;omega⟩;simp+contextual only[qz 8,oj,c1,c2,c3,iF,ip,aml,he,eE,fL];refine⟨cc,?_⟩;refine jH A (aCp s bz X) ?_;rintro r Y1 ⟨⟨a1,a2,a3,rfl,g1,g2,g3,hN,bG⟩,F1⟩;refine⟨F1.len,?_⟩;have d1:=F1.kq c1;have d2:=F1.kq c2;have d3:=F1.kq c3;have d8:=F1.kq b8;simp only[qz 12];refine stI (cs:=[a1,iv s.tx,a2,a3]) d2 A rfl (by simp[aW.c]) λG F2 e2=>?_;have br:vC G a1 s.ak:=(by grind [vC.fx]);have S:Sz G s a1 a2 a3:=(by refine⟨e2,g1.g.fx F2 λk hk=>?_,g2.fx F2 λk hk N=>?_,g3.fx F2 λk hk N=>?_⟩;simp_all;simp only[cE] at N;have y:=g2.ids _ hk;simp_all;grind);have e1:=F2.kq d1;have e3:=F2.kq d3;have e8:box G (12,af)=V ⟨39,4,U,U,[btW]⟩:=F2.kq d8;have aD:=F2.len.trans<|F1.len.trans bz;simp only[qz 14,di];refine aCn (λvs Y'=>vs=[iv (cU w s t kind eI lD).2]/\Sz Y' (cU w s t kind eI lD).1 a1 a2 a3/\∃bA,box Y' (12,af)=V ⟨39,4,U,U,[bA]⟩/\L bA=4) (λo hJ=>?_) ?_;have az:∀(sv:aW×Int) Y',cU w s t kind eI lD=sv->Sz Y' sv.1 a1 a2 a3->(∃bA,box Y' (12,af)=V ⟨39,4,U,U,[bA]⟩/\L bA=4)->o [iv sv.2] Y':=X;have r0:∃bA,box G (12,af)=V ⟨39,4,U,U,[bA]⟩/\L bA=4:=⟨_,e8,A⟩;have rK:∀{Y Y':ae} {s':aW} {ks:List Id},Sz Y s' a1 a2 a3->(∃bA,box Y (12,af)=V ⟨39,4,U,U,[bA]⟩/\L bA=4)->Fx Y Y' ks->(ks=aA a1\/ks=aA a2\/ks=aA a3\/ks=[(7,1)])->(∃bA,box Y' (12,af)=V ⟨39,4,U,U,[bA]⟩/\L bA=4):=(by rintro Y Y' s' ks R ⟨bA,y,B⟩ F dv;obtain⟨n1,n2,n3⟩:=R.no y A O;refine⟨bA,F.keep _ _ ?_ y,B⟩;grind);simp+contextual only[qz 41,qy 16,qy 18,eS,S.bx,e3,Bk,iF,ip];refine⟨λk1=>?_,λk1=>⟨λk2=>?_,λk2=>?_⟩⟩;have dz:=aNQ k1;exact S.th an H {fA s t with cQ:=2} A bte;have dB:=aNQ k2;exact S.th an H {fA s t with cQ:=5} A bte;simp only[qz 65,iM,aY,sw];simp+contextual only[qz 63,qy 20,au,eS,S.bx,e3,iF,ip];constructor<;>intro k6;simp only[fH,awG] at k6;exact S.lk X bte;simp only[qz 77,iM,aY,sw];simp+contextual only[qz 75,qy 22,qy 24,qy 38,qy 40,qy 42,qy 44,qy 58,qy 60,qy 62,qy 64,au,eS,S.bx,e1,e3,Bk,aHW,iF,ip];constructor<;>intro k7;simp only[fH,awG] at k7;exact S.lk X bte;refine⟨λk8=>?_,λk8=>⟨λk9=>?_,λk9=>⟨λbI=>?_,λbI=>⟨λbM=>?_,λbM=>⟨λbO=>?_,λbO=>⟨λbR=>?_,λbR=>⟨λbS=>?_,λbS=>⟨λbT=>?_,λbT=>⟨λbU=>?_,λbU=>⟨λbV=>?_,λbV=>⟨λbW=>?_,λbW=>⟨λbX=>?_,λbX=>?_⟩⟩⟩⟩⟩⟩⟩⟩⟩⟩⟩⟩;have k:=aNQ k8;have P:=lk Z Z;have M:=qI P;obtain⟨C,f,rfl,W,hX,hD,hP⟩:=br;have hc:=hX _ M;have aQ:=cJ _<|ii P;have bi:=bg _<|ii P;have bF:t∉(gd s.ak eI.toNat).bk:=(by rw[lc] at am;simp[k] at am;exact am.2.2);have be:cz 2 G (.m C<|L s.ak) (iv eI)=V (.p C eI.toNat 0):=(by simp[cz,P.1,W,M]);have bf:sA J G (.p C eI.toNat 1)=V (f eI.toNat):=(by simp only[sA,iE,W,a6X,uU M,df];rfl);simp only[be,aY,rR,W,df,aj,bf,iz,bQ];refine gD (new:=[ci t]) hc A H Z fF O NA λa' Y3 aw D cG cI=>?_;have cy:(gd s.ak eI.toNat).bk.map ci++[ci t]=((gd s.ak eI.toNat).bk++[t]).map ci:=O;rw[cy] at aw;obtain⟨z,rfl,ba⟩:∃z,a'= .m z (L (gd s.ak eI.toNat).bk+1)/\box Y3 z=V ⟨3,1,U,I,((gd s.ak eI.toNat).bk++[t]).map ci⟩:=(by obtain⟨y,_⟩|⟨z,y,B⟩:=aw;simp at y;exact⟨z,by rw[y];simp,B⟩);have bc:z.1≠7:=(by obtain h|h:=cI z aBY;grind;omega);have bs:=cG z aBY;simp only[qz 26];refine dT (by simp[eL,lb,aNG,dC,dK]) ?_;refine jH A (aCO aQ bF bi ba<|D.len.trans aD) ?_;rintro r Y4 ⟨rfl,cB,F4⟩;refine⟨F4.len,?_⟩;have nv:∀{q:Id} {x:bY},box G q=V x->x.elem≠3\/x.var=U->q∉aA (f eI.toNat)/\q≠z:=λ{q x} v hx=>(by have y:q∉aA (f eI.toNat):=λN=>(by rw[hc.ids _ N] at v;grind);grind [bK.no]);have b5:∀{q:Id} {x:bY},box G q=V x->x.elem≠3\/x.var=U->box Y4 q=V x:=λ{q x} v hx=>(by obtain⟨n1,n2⟩:=nv v hx;exact F4.keep _ _ (by simpa using n2)<|D.keep _ _ n1 v);simp only[qz 28,eS,b5 S.bx<|.inl O,ip,iF];have ck:L (fk (gd s.ak eI.toNat).bk t)=L (gd s.ak eI.toNat).bk+1:=(by have:=QK (gd s.ak eI.toNat).bk t;have h0:∀{l:eu} {t:Int},t∉l->L (fk l t)=L l+1:=(by intro l;induction l with|nil=>intro t _;rfl|cons x l ih=>intro t ht;simp only[eW,not_or] at ht;simp only[fk];split;simp[ih ht.2];grind);exact h0 bF);have bD:=λK=>awP (d:=76) (K:=K) (Nz aQ) cB (F4.len.trans<|D.len.trans aD) Z;simp only[ck] at bD;refine bD _ λY5 F5 cC=>?_;have b6:∀{q:Id} {x:bY},box G q=V x->x.elem≠3\/x.var=U->box Y5 q=V x:=λ{q x} v hx=>F5.keep _ _ (by simpa using(nv v hx).2) (b5 v hx);have aN:=b6 W<|.inl O;have ch:cz 2 Y5 (.m C<|L s.ak) (iv eI)=V (.p C eI.toNat 0):=(by simp[cz,P.1,aN,M]);simp only[qz 30,ch,aY,rR,aN,df,aj];refine Bp aN (uU M) (x:= .m z<|L (gd s.ak eI.toNat).bk+1) A rfl O λY6 F6 bb=>?_;simp only[qz 32];have nL:∀{q:Id} {x:bY},box G q=V x->x.elem≠191->q≠C:=X;have T:∀{q:Id} {x:bY},box G q=V x->x.elem≠3\/x.var=U->x.elem≠191->box Y6 q=V x:=λ{q x} v hx hL=>F6.keep _ _ (by simpa using nL v hL)<|b6 v hx;have aL:z≠C:=X;have S6:Sz Y6 (lC s eI {cH s eI with bk:=mP (cH s eI).bk [t]}) (.m C<|L s.ak) a2 a3:=(by refine⟨T S.bx (.inr A) O,⟨C,λi=>if i=eI.toNat then .m z (L (gd s.ak eI.toNat).bk+1) else f i,by simp[lC],?_,λi hi=>?_,λi j hi hj bE q v=>?_⟩,?_,?_⟩;rw[bb,Bl];simp only[lC,zq];congr 2;refine yC λi hi=>?_;by_cases h:i=eI.toNat;subst h;simp[gd,M,cH];have:gd (s.ak.set eI.toNat {cH s eI with bk:=mP (cH s eI).bk [t]}) i=gd s.ak i:=(by simp only[gd,btc];rw[oq<|λe=>h e.symm]);grind;have E:i<L s.ak:=(by simpa[lC] using hi);by_cases h:i=eI.toNat;subst h;have:(gd (lC s eI {cH s eI with bk:=mP (cH s eI).bk [t]}).ak eI.toNat).bk=fk (gd s.ak eI.toNat).bk t:=(by rw[show gd (lC s eI {cH s eI with bk:=mP (cH s eI).bk [t]}).ak eI.toNat={cH s eI with bk:=mP (cH s eI).bk [t]} from by simp[lC,gd,M]];exact Ro aQ);simp only[this,↓reduceIte];refine .inr ⟨z,(fk (gd s.ak eI.toNat).bk t).map ci,X,F6.keep _ _ (by simpa using aL) cC,gV⟩;have:gd (lC s eI {cH s eI with bk:=mP (cH s eI).bk [t]}).ak i=gd s.ak i:=(by simp only[lC,gd,btc];rw[oq<|λe=>h e.symm]);simp only[this,za h];have q0:∀q∈aA (f i),q∉aA (f eI.toNat)/\q≠z/\q≠C:=λq v=>(by have y:=hD i eI.toNat E M h q v;have B:=(hX i E).ids q v;refine⟨y,?_,X⟩;rintro rfl;obtain h3|h3:=bs;exact y h3;exact h3.no _ B);exact((((hX i E).fx D λq v=>(q0 q v).1).fx F4 λq v=>by simpa using(q0 q v).2.1).fx F5 λq v=>by simpa using(q0 q v).2.1).fx F6 (λq v=>by simpa using(q0 q v).2.2)|>.x;have E:i<L s.ak:=(by simpa[lC] using hi);have aT:j<L s.ak:=(by simpa[lC] using hj);have aC:∀m,m<L s.ak->m≠eI.toNat->z∉aA (f m):=λm N bB v=>(by obtain h3|h3:=bs;grind;exact h3.no _<|(hX m N).ids _ v);by_cases y:i=eI.toNat;have B:j≠eI.toNat:=Z;simp only[zg y,aA,cE] at v;subst v;simp only[za B];exact aC j aT B;simp only[za y] at v;by_cases B:j=eI.toNat;simp only[zg B,aA,cE];rintro rfl;exact aC i E y v;simp only[za B];exact hD i j E aT bE q v;obtain h|⟨q,y,B⟩:=S.g2;exact .inl h;exact .inr ⟨q,y,T B (.inl O) O⟩;obtain h|⟨q,y,B⟩:=S.g3;exact .inl h;exact .inr ⟨q,y,T B (.inl O) O⟩);obtain⟨bA,r1,r2⟩:=r0;refine dT (by simp[eL,lb,aNG,dC,dK,bc.symm]) (az (_,0) Y6 (by simp[cU,lC,k]) S6 ⟨bA,T r1 (.inr A) O,r2⟩);have k:=aNQ k9;have P:=lk Z Z;have M:=qI P;obtain⟨C,f,rfl,W,hX,hD,hP⟩:=br;have hc:=hX _ M;have bi:=bg _<|ii P;have N:t∈(gd s.ak eI.toNat).bk:=(by rw[lc] at am;simp[k] at am;exact am.2);obtain⟨z,bw,ba⟩:∃z,f eI.toNat= .m z (L (gd s.ak eI.toNat).bk)/\box G z=V ⟨3,1,U,I,(gd s.ak eI.toNat).bk.map ci⟩:=(by obtain⟨y,_⟩|⟨z,y,B⟩:=hc;simp at y;grind;grind);have bd:aA (f eI.toNat)=[z]:=(by rw[bw];rfl);have bc:z.1≠7:=X;have be:cz 2 G (.m C<|L s.ak) (iv eI)=V (.p C eI.toNat 0):=(by simp[cz,P.1,W,M]);have bf:sA J G (.p C eI.toNat 1)=V (f eI.toNat):=(by simp only[sA,iE,W,a6X,uU M,df];rfl);simp only[be,aY,rR,W,df,aj,bf,bw];refine awR N ba e3 aD Z λY3 D cA=>?_;have nv:∀{q:Id} {x:bY},box G q=V x->x.elem≠3\/x.var=U->q≠z:=X;have b0:∀{q:Id} {x:bY},box G q=V x->x.elem≠3\/x.var=U->box Y3 q=V x:=λ{q x} v hx=>D.keep _ _ (by simpa using nv v hx) v;have aM:=b0 W<|.inl O;have cg:cz 2 Y3 (.m C<|L s.ak) (iv eI)=V (.p C eI.toNat 0):=(by simp[cz,P.1,aM,M]);simp only[qz 34,cg,aY,rR,aM,df,aj];refine Bp aM (uU M) (x:= .m z<|L<|fJ (gd s.ak eI.toNat).bk t) A rfl O λY6 F6 bb=>?_;simp only[qz 36];have nL:∀{q:Id} {x:bY},box G q=V x->x.elem≠191->q≠C:=X;have T:∀{q:Id} {x:bY},box G q=V x->x.elem≠3\/x.var=U->x.elem≠191->box Y6 q=V x:=λ{q x} v hx hL=>F6.keep _ _ (by simpa using nL v hL)<|b0 v hx;have aL:z≠C:=X;have S6:Sz Y6 (lC s eI {cH s eI with bk:=fJ (cH s eI).bk t}) (.m C<|L s.ak) a2 a3:=(by refine⟨T S.bx (.inr A) O,⟨C,λi=>if i=eI.toNat then .m z (L<|fJ (gd s.ak eI.toNat).bk t) else f i,by simp[lC],?_,λi hi=>?_,λi j hi hj bE q v=>?_⟩,?_,?_⟩;rw[bb,Bl];simp only[lC,zq];congr 2;refine yC λi hi=>?_;by_cases h:i=eI.toNat;subst h;simp[gd,M,cH];have:gd (s.ak.set eI.toNat {cH s eI with bk:=fJ (cH s eI).bk t}) i=gd s.ak i:=(by simp only[gd,btc];rw[oq<|λe=>h e.symm]);grind;have E:i<L s.ak:=(by simpa[lC] using hi);by_cases h:i=eI.toNat;subst h;have:(gd (lC s eI {cH s eI with bk:=fJ (cH s eI).bk t}).ak eI.toNat).bk=fJ (gd s.ak eI.toNat).bk t:=(by simp[lC,gd,M,cH]);simp only[this,↓reduceIte];refine .inr ⟨z,_,O,F6.keep _ _ (by simpa using aL) cA,?_⟩;simp;have:gd (lC s eI {cH s eI with bk:=fJ (cH s eI).bk t}).ak i=gd s.ak i:=(by simp only[lC,gd,btc];rw[oq<|λe=>h e.symm]);simp only[this,za h];have q0:∀q∈aA (f i),q≠z/\q≠C:=λq v=>(by have y:=hD i eI.toNat E M h q v;rw[bd] at y;have B:=(hX i E).ids q v;grind);exact(((hX i E).fx D X).fx F6<|λq v=>by simpa using(q0 q v).2).x;have E:i<L s.ak:=(by simpa[lC] using hi);have aT:j<L s.ak:=(by simpa[lC] using hj);have aC:∀m,m<L s.ak->m≠eI.toNat->z∉aA (f m):=λm N bB v=>hD m eI.toNat N M bB _ v X;by_cases y:i=eI.toNat;have B:j≠eI.toNat:=Z;simp only[zg y,aA,cE] at v;subst v;simp only[za B];exact aC j aT B;simp only[za y] at v;by_cases B:j=eI.toNat;simp only[zg B,aA,cE];rintro rfl;exact aC i E y v;grind;obtain h|⟨q,y,B⟩:=S.g2;exact .inl h;exact .inr ⟨q,y,T B (.inl O) O⟩;obtain h|⟨q,y,B⟩:=S.g3;exact .inl h;exact .inr ⟨q,y,T B (.inl O) O⟩);obtain⟨bA,r1,r2⟩:=r0;refine dT (by simp[eL,lb,aNG,dC,pP,dK,bc.symm]) (az (_,0) Y6 (by simp[cU,lC,k]) S6 ⟨bA,T r1 (.inr A) O,r2⟩);have k:=aNQ bI;exact S.tx bte;have k:=aNQ bM;exact S.tx bte;have k:=aNQ bO;exact S.th an H {fA s t with atomic:=U} A bte;have k:=aNQ bR;exact S.th an H {fA s t with atomic:=I} A bte;have k:=aNQ bS;have ab:=cd Z Z;simp only[gJ];refine⟨ab,?_⟩;refine S.lk (mI ab) λb Y' F' R bd=>?_;have n:=S.no e3 A O;have a8:=F'.keep _ _ n.1 e3;simp only[qz 46,eS,R.bx,a8,Bk,iF,ip];refine R.th (by grind [lC]) H {fA s t with cQ:=3} A λb3 Y3 D S3 aP=>?_;simp only[qz 48];refine S3.th (by grind [lC,aNU]) H {fA s t with cQ:=3,cond:=eI} (by simp only[aNU,lC];rw[Af an];rfl) λb4 Y4 F4 S4 cf=>?_;simp only[qz 50];refine dT ?_<|az (_,0) Y4 ?_ S4<|rK S3 (rK R (rK S r0 F' O) D O) F4 O;have:=bG b3 (by rw[aP];simp);simp[eL,lb,aNG,dC,dK,this.1.symm,this.2.symm];simp[cU,k,aNU,lC];have k:=aNQ bT;have ab:=cd Z Z;simp only[gJ];refine⟨ab,?_⟩;refine S.lk (mI ab) λb Y' F' R bd=>?_;have n:=S.no e3 A O;have a8:=F'.keep _ _ n.1 e3;simp only[qz 52,eS,R.bx,a8,Bk,iF,ip];refine R.th (by grind [lC]) H {fA s t with cQ:=2} A λb3 Y3 D S3 aP=>?_;simp only[qz 54];refine S3.th (by grind [lC,aNU]) H {fA s t with cQ:=2,cond:=0} (by simp only[aNU,lC];rw[Af an];rfl) λb4 Y4 F4 S4 cf=>?_;simp only[qz 56];refine dT ?_<|az (_,0) Y4 ?_ S4<|rK S3 (rK R (rK S r0 F' O) D O) F4 O;have:=bG b3 (by rw[aP];simp);simp[eL,lb,aNG,dC,dK,this.1.symm,this.2.symm];simp[cU,k,aNU,lC];have k:=aNQ bU;simp only[uS,aY];refine jH A (aCD s eI lD aD bH S.g3) ?_;rintro r Y3 ⟨rfl,aw,D⟩;have du:∀x:aW,x.ak=s.ak->x.tx=s.tx->x.done=s.done->lI Y3 69 3 a3 (x.ay.map aoC.c)->Sz Y3 x a1 a2 a3:=λx q1 q2 q3 q4=>(by have n:=S.no S.bx A O;refine⟨by grind [Fx.keep,Sz.bx],by rw[q1];exact S.g1.fx D λk hk=> .inl ⟨_,S.g3.ids k hk, .inr ⟨A,O⟩⟩,?_,q4⟩;rw[q3];exact S.g2.fx D λk hk N=>by have y:=S.g2.ids _ hk;rw[S.g3.ids _ N] at y;cases y);refine⟨D.len,?_⟩;by_cases hw:fO s eI=[];have hc:gH s eI lD (L s.ay)= -1:=(by rw[gH];exact zg hw);grind [cU];have hc:gH s eI lD (L s.ay)=tD s eI lD:=(by rw[gH];exact za hw);have h0:0<=tD s eI lD:=(by rw[<-hc,gH,za<|show¬eh s eI (L s.ay)=[] from hw];split;grind [AN];exact(Li hw).1);grind [cU,aNU,tD,fA];have k:=aNQ bV;simp only[uS,aY];refine jH A (aCE s eI aD bH S.g3) ?_;rintro r Y3 ⟨rfl,aw,D⟩;have n:=S.no S.bx A O;have N:∀(l:eu) (s:aW),(mH s l).ak=s.ak/\(mH s l).tx=s.tx/\(mH s l).done=s.done:=(λl=>by induction l with|nil=>simp|cons u l ih=>grind [aNU]);obtain⟨q1,q2,q3⟩:=N (fO s eI) s;refine⟨D.len,?_⟩;refine az (mH s<|fO s eI,L<|fO s eI) Y3 (by simp[cU,k]) ⟨?_,?_,?_,aw⟩<|rK S r0 D O;grind [Fx.keep,Sz.bx];rw[q1];exact S.g1.fx D λk hk=> .inl ⟨_,S.g3.ids k hk, .inr ⟨A,O⟩⟩;rw[q3];exact S.g2.fx D λk hk N=>(by have y:=S.g2.ids _ hk;rw[S.g3.ids _ N] at y;cases y);have k:=aNQ bW;exact S.th X H {fA s eI with cQ:=1} A bte;have k:=aNQ bX;exact S.dn X bte;grind [cP,decide_eq_false_iff_not,cU];rintro vs Y' ⟨rfl,R,bA,r1,r2⟩;have dw:(7:Nat)≠12:=H;simp only[qz 39,eQ,R.bx,uS];refine stI (cs:=[a1,iv (cU w s t kind eI lD).1.tx,a2,a3]) r1 A rfl Z λal a5 dt=>?_;have ct:box al (12,af)=V ⟨39,4,U,U,[[a1,iv (cU w s t kind eI lD).1.tx,a2,a3]]⟩:=vB;have n:=R.no r1 A O;have y:=R.g1.fx a5 vB;have B:=R.g2.fx a5 X;have h3:=R.g3.fx a5 X;simp only[qz 66,eQ,ct,uS];obtain⟨t2,o2,q2⟩:=B.frD;obtain⟨t3,o3,q3⟩:=h3.frD;have hr:jS al [.a [a1,iv (cU w s t kind eI lD).1.tx,a2,a3],iv (cU w s t kind eI lD).2,bv U]= .t [.a<|eD (cU w s t kind eI lD).1 (I,U,t2,o2,t3,o3),iv (cU w s t kind eI lD).2,bv U]:=(by show AV.t [.a [dQ al a1,dQ al<|iv (cU w s t kind eI lD).1.tx,dQ al a2,dQ al a3],_,_]=_;rw[y.fr,q2,q3];rfl);unfold aE;rw[hr];exact⟨A,_,A⟩
def BT:FT:=BL Ou
def ayr:=al4 BT Ou
def aYa:dO:=(147,BT)::Rm
def Bv:eJ aYa:=asq (apO Ou)<|ape
def rX:=ai @ayr<|@aml
def alc:=I9 21 [(8,([8],[3,4,5,6])),(15,([],[5,6,12]))]
def JW c b a d R:=(.mk _:NR aYa alc Tryz.f146 [.u, .u, .u] [c,b,a] d R).p
def aMI{c0:dM}{b:dM}{c:dM}{R:J3}(l0:L c0=6)(l1:L b=7)(d:L c=7)(h:H3 34 6 3 c0 42 7 4 b 71 7 5 c λf g i e=>JW f g i e R):Ct 146 [.a c0, .a b, .a c] R:=z3 alc Bv func146 l0 l1 d h
def ath:=I9 22 [(8,([32],[1,2,4,5,30,31])),(15,([8],[1,2,4,5,7,30,31,32]))]
def aKI{c0}:=y1 45 15 1 Bv func85 ath c0 [.a c0]
def atm:=I9 23 [(6,([25],[1,2,23,24])),(15,([53],[1,2,6,23,24,25,51,52]))]
def aKN{c0 a1}:=y1 172 16 2 Bv func149 atm c0 [.a c0,a1]
def asv:=I9 21 [(13,([62],[1,60,61]))]
def aJW{c0}:=y1 34 6 1 Bv func78 asv c0 [.a c0]
def NG(w)(B:mQ w=U):Ct 78 [.a w.c] (·=bv U):=aJW A λS R g N=>by have s:=B;simp only[mQ,bN,eH] at s;obtain⟨d,f⟩:=s;obtain⟨l,b⟩:∃l,lY w=V l:=X;rw[b] at f;simp only[bN,awG] at f;obtain⟨p,q,K⟩:=f;have G:=anD b;have n:(jv w.cells (L w.cells) 0 []).isSome=U/\l=wB w (zV w.cells):=(by unfold lY at b;unfold zV;cases z:jv w.cells (L w.cells) 0 [] with|none=>simp_all|some r=>rw[z] at b;simp only[df,aOe] at b;exact⟨A,b.symm⟩);obtain⟨m,rfl⟩:=n;simp only[wJ,cP,aPs] at d;obtain⟨⟨⟨⟨⟨⟨z1,z2⟩,z3⟩,C⟩,D⟩,E⟩,F⟩:=d;simp+contextual only[fQ,g,z1,z2,z3,C,D,E,F,bqF,eE,fL,rX,m];refine⟨Z,?_⟩;rintro r ⟨t,o,rfl⟩;refine⟨.inl A,?_⟩;simp+contextual only[oJ,pG,hZ,rX,eE,fL];refine⟨⟨p,Z⟩,?_⟩;refine pQ (L w.bC) [6] (λk=>True) trivial λk Y P _ y=>?_;have h:=y.bt g;simp+contextual only[qz 79,qy 4,gJ,h,bh];refine⟨λe=>⟨vp e,?_⟩,λe=>?_⟩;refine eF A rfl H bkb λM u v=>?_;have x:=u.bt h;have i:=q k<|aL e;simp only[uh,cP,aPs] at i;have j:dh (gd w.bC k).eg (L w.ak)=U:=(by rw[dX];exact⟨Z,Z⟩);simp+contextual only[qz 6,↓iS,fQ,v,x,rX,j,i.2,beq_self_eq_true,eE,fL];grind [oL,aL,Fr.trans];simp only[u1,ar,rX];grind
def EU:FT:=mT NG
def axU:=oK EU NG (j:=bs5)
theorem awz{w f e}(h:aOj w f e=U):wtK (gd w.ac e.toNat).kind=U:=by grind [aOj,wtK,decide,gd]
def Ds(l:eu):cJ:=⟨2,0,0,0,0,l⟩
def Od(x)(l)(B:nK x/\qx x.w (Ds l)=U):Ct 149 [.a x.c,sl ci l] (·=bv U):=aKN A λC M u D=>by obtain⟨z,s⟩:=B;have:=z.wo.ev;have n:box C (2,1)=V ⟨172,16,U,U,[x.w.c++[sl aW.c x.ss]]⟩:=u;simp only[qx,bN,eH,awG] at s;obtain⟨E,t,e⟩:=s;have d:(Ds l).cW=l:=A;have:2<=L l/\L l<=4:=(by grind [rO,cP,decide_eq_false_iff_not]);rw[d] at t e;have:∀j,j<L l->aF (L x.w.ac) (gd l j):=btB;have o:(l.all λi=>dh i<|L x.w.ac)=U:=(by grind [dV,RU,aNV]);have z1:¬((L l:Int)<2):=Z;have z2:¬((4:Int)<L l):=Z;have h:aN (V 16) (x.w.c++[sl aW.c x.ss])=V (.a x.c):=A;simp+contextual only[hZ,n,h,z1,z2,bqF,eE,fL,sG,rX,o];refine⟨Z,?_⟩;refine bid (L l) (λk=>True) trivial λk K G=>?_;have q:bc4 .rem 0 [] (iv<|dq.wrap<|(k:Int)+1) (iv<|L l)=V (iv (((k+1)%L l:Nat):Int)):=(by rw[fX Z];exact aod Z);have p:(k+1)%L l<L l:=Nat.mod_lt _ Z;simp+contextual only[qz 37,gJ,n,h,ar,sG,rX,bh,Int.toNat_zero,q];refine⟨λr=>?_,λr=>trivial⟩;have f:=aL r;obtain⟨y,F⟩:=e k f;have b:=y;simp only[rN,cP,fK,d,alP] at b;have:wtK (gd x.w.ac (gd l<|(k+1)%L l).toNat).kind=U:=(by grind [rN,cP,fK,awz]);simp+contextual only[b.1,b.2,eE,im,kz,aov,cT,u0];refine⟨dJ f,⟨Z,Z⟩,dJ p,vB,Z,?_⟩;have g:L (l.take k)=k:=vB;rw[bh,g];refine bid k (λm=>True) trivial λm N _=>?_;simp only[qz 91,fD,n,kj,bh,g];refine⟨λv=>?_,by grind [bkg]⟩;have:=aL v;grind [gd,aNV,sP,dJ,bkg]
def Fb:FT:=aIc Od
def ayf:=gX Fb Od (j:=bs5)
structure kQ(n:Nat)(s:aW):Prop where
 lo:L s.ak<=4
 dn:L s.done<=2
 th:L s.ay<=4
 rd:∀l∈s.ak,jC l.bk/\∀x∈l.bk,aF n x
def aB2{l}{n:Nat}(h:jC l)(b:∀x∈l,aF n x):∀i:Nat,i<L l->(i:Int)<=gd l i:=λi=>by induction i with|zero=>intro a;exact(b _<|dB a).1|succ i c=>intro a;have:=h i a;omega
def AC{l}{n:Nat}(h:jC l)(a:∀x∈l,aF n x):L l<=n:=by obtain b|b:=oD<|L l;omega;have:=aB2 h a (L l-1) Z;have:=(a _<|dB<|show L l-1<L l by omega).2;omega
structure vL(w:am):Prop where
 wo:kB w
 th:L w.aQ.ay<=4
 sy:∀k:Nat,k<L w.ac->kQ (L w.aQ.ay) (cY w k).eB
def awH{ds}{s:aW}{Y}(h:Lk ds s.c):aX byp 1 Y [(0, .a ds)]=V (.l [s.c] U U,Y):=by unfold aX;simp only[ji,mU,Cz,RN,cL,show nrm (eR Y<|.a ds)= .a s.c from h.arg Y,x9 h];rfl
def aDi{s f}:Lk (eD s f) s.c:=⟨A,A⟩
def aQv(w:am)(k:Nat):List aW:=(aH k).map λj=>(cY w j).eB
def aIv{w k}:aQv w (k+1)=aQv w k++[(cY w k).eB]:=by rw[aQv,qn,dg];rfl
theorem aIu{w}{k:Nat}:L (aQv w k)=k:=by simp[aQv]
def Kk{w}(h:vL w){k:Nat}(c:k<L w.ac):jm w.aQ (cY w k).eB (gd w.ac k).aq (gd w.ac k).kind (gd w.ac k).eI=U/\L w.aQ.bC<=2/\(∀l∈(cY w k).eB.ak,L l.bk<12)/\(∀l∈(cY w k).eB.ak,jC l.bk)/\L (cY w k).eB.ak<1000/\L (cY w k).eB.done<1000/\L (cY w k).eB.ay<1000:=by have:=(h.wo.en k c).2;have a:=h.sy k c;have:=h.th;have:=a.lo;have:=a.dn;have:=a.th;refine⟨?_,h.wo.co,λl b=>by have:=AC (a.rd l b).1 (a.rd l b).2;omega,λl b=>(a.rd l b).1,Z,Z,Z⟩;grind [bjf,aOL,eH,cP,fK]
def aoF{w}(h:vL w){k:Nat}(a:k<L w.ac):(cY w<|k+1).eB=(cU w.aQ (cY w k).eB (gd w.ac k).aq (gd w.ac k).kind (gd w.ac k).eI<|og<|gd w.ac k).1:=by have:=(h.wo.en k a).2;grind [cY,nD,oc]
def NX(w)(z:vL w):Ct 85 [.a w.c] (λr=>∃f o,r= .t [.a<|w.c++[.l ((aQv w<|L w.ac).map aW.c) f o],bv U]):=aKI A λs2 hl b1 h0=>by have:=z.wo.ev;have:=z.th;have z1:¬((16:Int)<L w.ac):=Z;have z2:¬((4:Int)<L w.aQ.ay):=Z;refine mo hl λs3 N b3=>?_;have c1:=N.bt b1;have r15:aN (V 15) w.c=V (.a w.c):=A;have aF:bM buZ [(0,15),(15,1)] [(0, .a w.c)]=V (.a<|w.c++[.l [] U U]):=A;simp only[qz 4,qy 6,eQ,c1,r15,aF];refine mo (N.1.trans hl) λM af ak=>?_;have al:box M (4,(aZ s3 4).ver+1)=V ⟨172,16,U,U,[buZ]⟩:=ak;have aG:L (w.c++[AV.l [] U U])=16:=buk;have E:L (buZ)=16:=A;have aK:4<L M:=bkb;refine gN al aK E aG λs4 ag b4=>?_;have P:=af.trans ag;have d1:=P.bt c1;have d3:=P.bt b3;simp+contextual only[qz 8,qy 10,qy 12,eT,d1,kP,z1,z2,bqF,eE,im];refine eF A rfl H bkb λs5 s b5=>?_;have e1:=s.bt d1;have e3:=s.bt d3;have e4:=s.bt b4;simp only[qz 14,eT,e1];generalize bo:(aZ s2 2).ver+1=v2 at e3⊢;generalize bp:(aZ s3 4).ver+1=v4 at e4⊢;generalize bq:(aZ s4 5).ver+1=v5 at b5⊢;have l5:L s5=4096:=(by rw[s.1,P.1,N.1,hl]);refine⟨λvs Y=>∃(k:Nat) (a:AV) (ds:dM),vs=[iv k]/\k<=L w.ac/\Lk ds (cY w k).eB.c/\box Y (5,v5)=V ⟨39,4,U,U,[ds]⟩/\box Y (4,v4)=V ⟨172,16,U,U,[w.c++[a]]⟩/\Gr Y [40] 39 4 a ((aQv w k).map aW.c)/\Fr s5 Y [4,5,7,9,40],fM<|L w.ac,⟨0,_,_,A,mh _,⟨A,A⟩,b5,e4,Gr.nil,Fr.refl _ _⟩,?_⟩;rintro vs Y ⟨k,a,ds,rfl,hk,v,aD,C,hG,u⟩;have f1:=u.bt e1;have f3:=u.bt e3;have aM:L Y=4096:=(by rw[u.1,l5]);have aJ:L ds=4:=(by have:=bss L v.1;grind [aW.c]);have K:aN (V 4) ds=V (.a ds):=(by show(if 4<=L ds then V (AV.a<|ds.take 4) else J)=_;grind);have G:aN (V 16) (w.c++[a])=V (.a<|w.c++[a]):=A;simp only[qz 49,qy 16,qy 34,gJ,bh];refine⟨λT=>⟨vp T,?_⟩,λT=>?_⟩;have q:=aL T;refine eF A rfl H Z λR e b7=>?_;have g1:=e.bt f1;have g4:=e.bt C;have g5:=e.bt aD;have G1:=hG.fr e H;generalize br:(aZ Y 7).ver+1=v7 at b7⊢;simp only[qz 18,qy 20,eS,g4,g5,kj,K,awH v];refine fP (new:=[(cY w k).eB.c]) G1 A H H bkb (λr B=>by obtain⟨y,_,rfl⟩:=dN.1 B;rfl) (λr B=>by simp at B;subst B;rfl) (by grind [bJ,aIu,bZ,bhZ]) λa' Y2 G2 m=>?_;have h1:=m.bt g1;have h4:=m.bt g4;have h5:=m.bt g5;have h7:=m.bt b7;simp only[qz 22,eS,h4];have aa:15<L (w.c++[a]):=X;refine Ev h4 bkb (uc G2) aa λS d i4=>?_;have aO:box S (4,v4)=V ⟨172,16,U,U,[w.c++[a']]⟩:=i4;have i1:=d.bt h1;have i5:=d.bt h5;have i7:=d.bt h7;have G3:=G2.fr d H;have l3:L S=4096:=(by rw[d.1,m.1,e.1,aM]);simp only[qz 24];refine bvP (λb=>b [iv<|og<|gd w.ac k]) ?_ λb x=>(by simp+contextual only[qz 95,eT,i7];constructor<;>intro h;simp only[awG] at h;rw[og,zg h] at x;exact x;simp only[aPs] at h;rw[og,za h] at x;exact x);simp only[qz 93,qy 26,au,eT,i1,i5,i7,K];simp only[jM,kU,jt,zN,tW,v.arg,rX];refine⟨Kk z q,?_⟩;rintro r ⟨f,rfl⟩;refine⟨.inl ?_,?_⟩;simp only[nA,Cu,Cv,x9 v];rfl;rw[<-aoF z q];simp only[oJ,pG,KM,aY];refine mo l3 λY4 g b9=>?_;generalize bs:(aZ S 9).ver+1=v9 at b9⊢;have F:Lk (eD (cY w<|k+1).eB f) (cY w<|k+1).eB.c:=aDi;generalize D:eD (cY w<|k+1).eB f=j at F⊢;have p:L j=4:=(by rw[<-D];rfl);have ae:aN (V 4) j=V (.a j):=(by rw[<-D];rfl);refine gN b9 bkb A p λY5 i ap=>?_;have j5:=i.bt<|g.bt i5;have j4:=i.bt<|g.bt aO;simp+contextual only[qz 28,qy 30,eQ,ap,ae,eE,im];refine gN j5 bkb aJ p λY6 n k5=>?_;have k4:=n.bt j4;simp only[qz 32,au,cS,aY];rw[fX Z];refine⟨⟨k+1,a',j,A,q,F,k5,k4,?_,?_⟩,?_⟩;rw[aIv,dg];exact((G3.fr g H).fr i H).fr n H;exact(((((u.trans<|e.mono H).trans<|m.mono H).trans<|d.mono H).trans<|g.mono H).trans<|i.mono H).trans<|n.mono H;grind [fM,cM,bh];obtain rfl:k=L w.ac:=X;simp only[C,G,eQ];have W:L (w.c++[a])=16:=X;refine gN f3 Z E W λR e b2=>?_;simp only[b2,G,eQ];obtain⟨f,o,hf⟩:=sU<|hG.fr e H;have ad:jS R [.a<|w.c++[a],bv U]= .t [.a<|w.c++[.l ((aQv w<|L w.ac).map aW.c) f o],bv U]:=(by show AV.t [.a<|(w.c++[a]).map<|dQ R,bv U]=_;rw[dg];simp only[ji,mU,hf];rfl);unfold aE;rw[ad];exact⟨A,_,_,A⟩
def E6:FT:=om NX
def aya:=aUy E6 NX (j:=bs5)
def Dw{Y e a l}{i:Int}{K}(f:lI Y e 1 a<|l.map ci)(c:aF (L l) i):(rV (cz 1 Y a<|iv i) λt=>rV (sA J Y t) K)=K (iv<|gd l i.toNat):=by have d:i.toNat<L l:=(be7 c.1 c.2);obtain⟨h,_⟩|⟨b,rfl,g⟩:=f;simp_all;simp[cz,c.1,g,d,rV,sA,iE,aN,aNV d]
def DA{Y e a}{l:eu}{i v:Int}{K:be}(j:lI Y e 1 a<|l.map ci)(c:aF (L l) i)(k:∀p Y',Fx Y Y' (aA a)->lI Y' e 1 a ((l.set i.toNat v).map ci)->K p Y'):rV (cz 1 Y a<|iv i) λp=>sV (aK 1 Y p<|iv v) (K p):=by have h:i.toNat<L l:=(be7 c.1 c.2);obtain⟨q,_⟩|⟨b,rfl,d⟩:=j;simp_all;have f:cz 1 Y (.m b<|L<|l.map ci) (iv i)=V (.p b i.toNat 0):=(by simp[cz,c.1,d,h]);rw[f];simp only[rV];have n:(l.map ci)[i.toNat]?=V [iv<|gd l i.toNat]:=(by grind [eC,aNV]);refine wL d n O λY' g o=>k _ Y' g ?_;refine .inr ⟨b,O,?_⟩;simp_all
def bno{p:Prop}(h:p:=by grind [Go.Ab.aA]):p:=h
def PR(w)(s)(e)(hp:bjf w s e=U/\L w.bC<=2/\L w.ay<=4/\kQ (L w.ay) s.eB/\L s.cells<1000/\L s.bU<1000/\L s.count<1000/\vo e):Ct 146 [.a w.c, .a s.c, .a e.c] (λr=>∃cs,r= .t [.a cs,bv U]/\Lk cs (oc w s e).c):=by refine aMI A rfl rfl λs6 n b1 b2 b3 h0=>?_;obtain⟨a3,p1,p2,p3,p4,p5,p6,p7⟩:=hp;have C:=a3;simp only[bjf,eH,cP] at C;obtain⟨q1,q2,q3,q4,q5⟩:=C;have al:=q1;simp only[aOL,cP,fK,aPs] at al;obtain⟨⟨⟨⟨hf,hi⟩,a1⟩,a2⟩,aZ⟩:=al;obtain⟨a0,hn⟩:lh w s.eB=U/\named w e.kind e.eI=U:=(by grind [jm]);have ae:=dX.1 hi;obtain⟨m1,m2,m3⟩:L s.cells=L w.cells/\L s.bU=L w.bU/\L s.count=L w.ay:=buj;have ad:aF (L s.count) e.aq:=vB;have z1:¬e.aq<0:=(aYF ae.1);have z2:¬((L w.ay:Int)<=e.aq):=(aYF ae.2);simp only[bip,cP,fK,awG] at q5;obtain⟨⟨n1,n2⟩,n3⟩:=q5;have a7:∀l∈s.eB.ak,L l.bk<12:=λl n=>(aYF<|AC (p3.rd l n).1 (p3.rd l n).2);have hP:yM w e=I/\yN e=I/\lZ e.dI (gd s.count e.aq.toNat)/\lZ e.ep (gd s.count e.aq.toNat)/\aF (L s.count) e.aq/\(e.kind=3\/e.kind=4->aF (L w.cells) e.eI)/\vo e:=(by grind [qP]);have hV:aO8 s e=U/\L s.eB.ay<1000000/\(e.kind=3->aF (L s.cells) e.eI)/\(e.kind=23->aF (L s.bU) e.eI):=(by grind [kQ.th,qP,oU]);have hE:lh w s.eB=U/\L w.bC<=2/\(∀l∈s.eB.ak,L l.bk<100000):=⟨a0,p1,λl n=>by have:=a7 l n;omega⟩;have hA:jm w s.eB e.aq e.kind e.eI=U/\L w.bC<=2/\(∀l∈s.eB.ak,L l.bk<12)/\(∀l∈s.eB.ak,jC l.bk)/\L s.eB.ak<1000/\L s.eB.done<1000/\L s.eB.ay<1000:=(by grind [kQ.rd,kQ.lo,kQ.dn,kQ.th]);simp only[JW];refine zm n λv7 s7 F N7 b7=>?_;have c1:=F.kq b1;have c2:=F.kq b2;have N:=F.kq b3;have af:=F.len.trans n;simp+contextual only[qz 8,qy 10,qy 12,hH,c1,c2,N,rX,hf,p1,hE,aZ,hP,hV,q2,z1,z2,a1,a2,bqF,eE,fL];refine⟨λ_ _=>trivial,O,O,?_⟩;refine bs6 (λb=>b [iv<|og e]) ?_ λb R=>(by simp+contextual only[qz 53,eT,N];constructor<;>intro h;simp only[awG] at h;rw[og,zg h] at R;exact R;simp only[aPs] at h;rw[og,za h] at R;exact R);simp only[qz 51,qy 14,au,fQ,c1,c2,N,rX];refine⟨hA,?_⟩;rintro r ⟨f,rfl⟩;refine⟨.inl A,?_⟩;simp only[oJ,pG,KM,aY];generalize a8:(cU w s.eB e.aq e.kind e.eI<|og e).1=sy';refine zm af λv9 Y1 F1 N1 d9=>?_;refine stI (y:=4) (cs:=eD sy' f) d9 A rfl H λY2 u aQ=>?_;have aB:box Y2 (9,v9)=V ⟨39,4,U,U,[eD sy' f]⟩:=aQ;have aa:Fx s7 Y2 []:=(F1.trans u).mono aUw;have l2:=aa.len.trans af;have e2:=aa.kq c2;have bm:aN (V 4) (eD sy' f)=V (.a<|eD sy' f):=A;simp+contextual only[qz 16,qy 18,eT,aB,e2,bm,eE,im];refine alG (bA:=s.cells.map ci) A fF NA bv9 Z λd K g4 v P4=>?_;have f2:=v.kq e2;have l3:=v.len.trans l2;simp only[qz 20,eT,f2];refine alG (bA:=s.bU.map ci) A fF NA bv9 Z λg Y4 g5 D P5=>?_;have h2:=D.kq f2;have l4:=D.len.trans l3;simp only[qz 22,eT,h2];refine Kr (bA:=s.count.map ci) A fF NA bv9 Z λi Y5 g6 E P6=>?_;have l5:=E.len.trans l4;have ac:bM bsF aon [(0, .a<|eD sy' f),(1,d),(2,g),(3,i)]=V (.a<|eD sy' f++[d,g,i]):=(by simp[bM,aly,ms g4,ms g5,ms g6,eD,show∀x,eY (.a x)=V x fromλ_=>A]);have ab:∀{q:Id} {x:bY},box s7 q=V x->box Y5 q=V x:=λhq=>E.kq<|D.kq bsq;simp only[qz 24,qy 26,ac,aY];refine zm l5 λbo Y6 F6 N6 aP=>?_;refine stI (y:=7) (cs:=eD sy' f++[d,g,i]) aP A rfl H λY7 aK az=>?_;have o:box Y7 (12,bo)=V ⟨42,7,U,U,[eD sy' f++[d,g,i]]⟩:=az;have j:Fx Y5 Y7 []:=(F6.trans aK).mono aUw;have:=j.len.trans l5;have G4:=((g4.fx D O).fx E O).fx j O;have G5:=(g5.fx E O).fx j O;have G6:=g6.fx j O;have i3:=j.kq<|ab N;have i7:=j.kq<|ab b7;have bf:=λk z=>(P4 k z).2;have bg:=λk z=>(P5 k z).2;have bi:=λk z=>(P6 k z).2;clear ac;simp only[qz 28];refine dT ?_ ?_;obtain⟨_,S⟩|⟨⟨k4,u4⟩,S,_⟩:=g4<;>obtain⟨_,T⟩|⟨⟨k5,u5⟩,T,_⟩:=g5<;>obtain⟨_,W⟩|⟨⟨k6,u6⟩,W,_⟩:=g6<;>(try(have h4:=bf (k4,u4) bno;simp only at h4;subst h4))<;>(try(have h5:=bg (k5,u5) bno;simp only at h5;subst h5))<;>(try(have h6:=bi (k6,u6) bno;simp only at h6;subst h6))<;>rw[S,T,W]<;>rfl;have S:∀{x:eu},aN J (aOz 4<|eD sy' f++[d,g,i])=V d:=A;have T:aN J (aOz 5<|eD sy' f++[d,g,i])=V g:=A;have W:aN J (aOz 6<|eD sy' f++[d,g,i])=V i:=A;have r7:aN (V 7) (eD sy' f++[d,g,i])=V (.a<|eD sy' f++[d,g,i]):=A;refine bpF (λb=>∀Y M P,Fx Y7 Y (aA d++aA g)->lI Y 2 1 d (M.map ci)->lI Y 2 1 g (P.map ci)->M=(if e.kind=4 then s.cells.set e.eI.toNat e.value else s.cells)->P=(if e.kind=22 then s.bU.set e.eI.toNat e.value else s.bU)->b [] Y) ?_ λb m=>?_;intro Y M P G H4 H5 e4 e5;have no:∀{q:Id},q.1≠98->q.1≠101->q∉aA d++aA g:=X;have m3:=G.keep _ _ X i3;have m7:=G.keep _ _ X i7;have ag:=G.keep _ _ X o;have H6:=G6.fx G λk z=>no X X;simp only[qz 93,eT,ag,m3,W,Dw H6 ad];refine DA H6 ad λp Y2 u K6=>?_;have ah:∀{q:Id},q.1≠104->q∉aA i:=X;have K4:=H4.fx u X;have K5:=H5.fx u X;have bc:=u.keep _ _ (ah O) ag;have n7:=u.keep _ _ (ah O) m7;simp only[qz 34,qy 36,eQ,bc,r7];refine stI (y:=7) (cs:=eD sy' f++[d,g,i]) n7 A rfl H λK v o7=>?_;have bd:box K (6,v7)=V ⟨42,7,U,U,[eD sy' f++[d,g,i]]⟩:=o7;simp only[bd,eQ,r7];have:∀{q:Id},q.1≠6->q∉[((6,v7):Id)]:=X;obtain⟨x4,o4,z4⟩:=(K4.fx v X).frD;obtain⟨x5,o5,z5⟩:=(K5.fx v X).frD;obtain⟨x6,o6,z6⟩:=(K6.fx v X).frD;have aJ:jS K [.a<|eD sy' f++[d,g,i],bv U]= .t [.a<|eD sy' f++[.l (M.map ci) x4 o4, .l (P.map ci) x5 o5, .l ((s.count.set e.aq.toNat<|dq.wrap<|gd s.count e.aq.toNat+1).map ci) x6 o6],bv U]:=(by show AV.t [.a<|(eD sy' f++[d,g,i]).map<|dQ K,bv U]=_;rw[dg];simp only[ji,mU,z4,z5,z6];rfl);unfold aE;rw[aJ];refine⟨A,_,A,?_,A⟩;simp only[oc,a8,<-e4,<-e5];rfl;simp+contextual only[qz 95,qy 30,qy 32,eT,i3,o,S (x:=[]),T];refine⟨λh=>?_,λh=>⟨λh'=>?_,λh'=>?_⟩⟩;have:=aNQ h;refine DA G4 X λp Y8 B K4=>?_;exact m _ _ _ (B.mono X) K4 (G5.fx B X) X (by rw[za Z]);have:=aNQ h';refine DA G5 (by grind [oU]) λp Y8 B K5=>?_;exact m _ _ _ (B.mono X) (G4.fx B X) K5 X X;exact m _ _ _ (Fx.refl _ _) G4 G5 X X
def Gi:FT:=vn PR
def azD:=zZ Gi PR (j:=bs5)
def apo:dO:=(78,EU)::(149,Fb)::(85,E6)::(146,Gi)::aYa
def Rf:eJ apo:=asq (pg NG)<|asq (aCb Od)<|asq (rj NX)<|asq (By PR)<|Bv
def Ac:=ai @axU<|ai @ayf<|ai @aya<|ai @azD<|@rX
def avl:=I9 32 [(5,([23],[1,3,4,21,22])),(16,([42],[1,3,4,6,7,21,22,23,41])),(22,([47],[1,3,4,6,7,21,22,23,41,42,45,46]))]
def aMQ{c0}:=y1 45 15 1 Rf func84 avl c0 [.a c0]
def aKQ{c0 b}:=y2 172 16 2 48 6 3 Rf func86 atB c0 b [.a c0, .a b]
def Lg{a Y K}:gF U a Y K=a K:=rfl
def Og(x)(g)(T:nK x/\qC x.w g=U):Ct 86 [.a x.c, .a g.c] (·=bv U):=aKQ A rfl λs4 hl R h h0=>by obtain⟨l,b⟩:=T;have j:box s4 (2,1)=V ⟨172,16,U,U,[x.w.c++[sl aW.c x.ss]]⟩:=R;have e:aN (V 16) (x.w.c++[sl aW.c x.ss])=V (.a x.c):=A;simp only[qC] at b;(cases f:Q<|g.kind=2);simp only[f,bih,bN] at b;obtain⟨⟨ia,W,ic,id⟩,b⟩:=b;have r:=dX.1 ia;have s:=dX.1 W;have E:=dX.1 ic;have F:=dX.1 id;(cases d:Q<|g.kind=1);simp only[d,bih] at b;(cases n:Q<|g.kind=3);simp only[n,bih] at b;(cases u:Q<|g.kind=4);simp only[u,bih] at b;cases b;simp only[u,aRa,tZ,bpK,vQ,bN,eH,cP,aPs,awG,fK,aNS] at b;obtain⟨⟨⟨y1,y2⟩,o⟩,⟨⟨⟨⟨p,N⟩,P⟩,y7⟩,y8⟩,y9,K⟩:=b;have G:((L g.cW:Int)=0):=Z;have y:([g.ea,g.eb,g.ec,g.ed].all λi=>dh i<|L x.w.ac)=U:=vB;have t:nK x/\aF (L x.w.ac) g.ea/\aF (L x.w.ac) g.eb/\g.ea<g.eb/\(gd x.w.ac g.eb.toNat).aq=(gd x.w.ac g.ea.toNat).aq/\(gd (cY x.w g.ea.toNat).eB.ay (gd x.w.ac g.ea.toNat).aq.toNat).atomic=U/\(∀k,k<g.eb.toNat->g.ea.toNat<=k->((gd x.w.ac k).aq≠(gd x.w.ac g.ea.toNat).aq\/(gd x.w.ac k).kind≠15)):=vB;have hC:kB x.w/\aF (L x.w.ac) g.ea/\aF (L x.w.ac) g.eb/\aF (L x.w.ac) g.ec/\aF (L x.w.ac) g.ed/\g.ec<=g.ed/\(rP x.w g).aq=(xI x.w g).aq/\(rP x.w g).aq≠(jn x.w g).aq/\nh (jn x.w g) (rP x.w g)=U/\nh (xI x.w g) (mB x.w g)=U:=(by grind [nK.wo]);simp+contextual only[fQ,j,h,e,d,f,n,u,G,vR,Lg,bqQ,sG,Ac,y,l,l.wo,r,s,E,F,sr,eE,fL];grind;simp only[n,aRa,wz,tm,bN,eH,cP,aPs,awG,fH,aNS,Bool.and_eq_false_imp] at b;obtain⟨⟨⟨⟨⟨⟨⟨⟨y1,y2⟩,o⟩,p⟩,N⟩,P⟩,y7⟩,y8⟩,y9,K,ak⟩:=b;have M:((L g.cW:Int)=0):=Z;have hL:nK x/\aF (L x.w.ac) g.ea/\aF (L x.w.ac) g.eb/\g.eb<g.ea/\((gd x.w.ac g.ea.toNat).kind=18\/(gd x.w.ac g.ea.toNat).kind=19)/\(gd x.w.ac g.eb.toNat).kind=16/\(gd x.w.ac g.ea.toNat).eI=(gd x.w.ac g.eb.toNat).eI/\(gd x.w.ac g.ea.toNat).aq≠(gd x.w.ac g.eb.toNat).aq/\(∀k,k<g.ea.toNat->g.eb.toNat<k->(gd x.w.ac k).aq≠(gd x.w.ac g.eb.toNat).aq)/\(gd (cY x.w g.ea.toNat).eB.ay (gd x.w.ac g.eb.toNat).aq.toNat).cQ=3/\((gd x.w.ac g.ea.toNat).kind=19\/(gd x.w.ac g.ea.toNat).value=(gd x.w.ac g.eb.toNat).aq):=X;have fl:=@al5 x g.ea g.eb;simp+contextual only[fQ,j,h,e,d,f,n,y1,y2,M,bqQ,sG,fl,sr,eE,fL];simp_all;simp only[d,aRa,Ek,bN,awG,eH] at b;obtain⟨v,S,m,q,C,z,D⟩:=b;simp+contextual only[hH,j,h,e,d,fL,S,m,q,bqQ,sG,Ac,sr,l.wo,r,s,v,z,C,D,btD,bCa];simp only[f,aRa] at b;have d:Q (g.kind=1)=I:=vB;have m:=b;simp only[qx,bN,eH,awG] at m;obtain⟨t,ah,q⟩:=m;simp only[rO,cP,aPs,aNS] at t;obtain⟨⟨⟨⟨⟨y1,y2⟩,o⟩,p⟩,N⟩,P⟩:=t;have B:qx x.w (Ds g.cW)=U:=(by rw[<-b];simp only[qx,rO,Ds,y1,y2,o,p];rfl);simp+contextual only[hH,j,h,e,d,f,y1,y2,o,p,bqQ,sG,Ac,l,B,sr,eE,fL]
def Fg:FT:=aIc Og
def bxk{p:Prop}(h:p:=by simp+contextual only[Go.Ab.ij,Go.Ab.j9]):p:=h
def ayh:=gX Fg Og (j:=bxk)
structure lJ(Y:ae)(b:Id)(e1 e:TypeId)(d n:Nat)(Lw:Nat->List (dM))(f:Nat->AV):Prop where
 bx:box Y b=V ⟨e1,1,U,U,boY n λi=>[f i]⟩
 gr:∀i,i<n->lI Y e 1 (f i) (Lw i)
 dj:∀i j,i<n->j<n->i≠j->∀q∈aA (f i),q∉aA (f j)
 pl:∀i,i<n->∀q∈aA (f i),q.1=d
def lJ.ix{Y b g e d n Lw f}(c:lJ Y b g e d n Lw f){i}(a:aF n i):cz 1 Y (.m b n) (iv i)=V (.p b i.toNat 0):=by have h:i.toNat<n:=(be7 a.1 a.2);simp[cz,a.1,c.bx,h]
def lJ.ld{Y b c e d n Lw f}(a:lJ Y b c e d n Lw f){i}(g:i<n):sA J Y (.p b i 0)=V (f i):=by simp[sA,iE,a.bx,uU g,aN]
theorem lJ.ln{Y b c e}{d n:Nat}{Lw f}(a:lJ Y b c e d n Lw f){i:Nat}(g:i<n):fS Y (f i)=V (iv<|L<|Lw i):=lnI<|a.gr i g
theorem lJ.keep{Y Y' b ks c e d n Lw f}(a:lJ Y b c e d n Lw f)(F:Fx Y Y' ks)(h:b∉ks)(j:∀i,i<n->∀q∈aA (f i),q∉ks):lJ Y' b c e d n Lw f:=⟨F.keep _ _ h a.bx,λi g=>(a.gr i g).fx F<|j i g,a.dj,a.pl⟩
theorem lJ.no{Y b c e d n Lw f}(a:lJ Y b c e d n Lw f){q x}(j:box Y q=V x)(k:x.var=U\/x.elem≠e){i}(g:i<n):q∉aA (f i):=λh=>by
 have:=(a.gr i g).ids q h
 grind
def anO{Y b C e}{d n by':Nat}{zs Lw f}{i:Int}{new t o}{K:AV->be}(c:lJ Y b C e d n Lw f)(D:aF n i)(hz:L zs=1)(hd:d<L Y)(hr:∀r∈Lw i.toNat,L r=1)(hn:∀r∈new,L r=1)(hb:(L (Lw i.toNat)+L new)*(by'+1)<=1099511627776)(hK:∀a p Y' M,lJ Y' b C e d n (λj=>if j=i.toNat then Lw j++new else Lw j) M->L Y'=L Y->(∀q x,box Y q=V x->q≠b->x.var=U\/x.elem≠e->box Y' q=V x)->(∀q∈aA a,q.1=d)->p= .p b i.toNat 0->Fx Y Y' (b::aA (f i.toNat))->(∀j,j<n->∀q∈aA (M j),q∈aA (f j)\/bK Y q)->K a p Y'):eV (apA e zs by' Y d (f i.toNat)<|.l new t o) λa v=>rV (cz 1 v (.m b n)<|iv i) λp=>sV (aK 1 v p a) (K a p):=by have w:i.toNat<n:=(be7 D.1 D.2);refine gD (c.gr _ w) hz H hd hr hn hb λa v T u z ag=>?_;have y:=c.no c.bx (.inl A) w;have F:=u.keep _ _ y c.bx;have N:cz 1 v (.m b n) (iv i)=V (.p b i.toNat 0):=(by simp[cz,D.1,F,w]);rw[N];have:b∉aA a:=λh=>(by obtain h|h:=z _ h;exact y h;exact h.no _ c.bx);have R:∀q∈aA a,q.1=d:=λq s=>(by grind [lJ.pl]);refine Bp F (uU w) (ms T) A O λE B W=>?_;have G:box E b=V ⟨C,1,U,U,boY n λj=>[if j=i.toNat then a else f j]⟩:=(by rw[W,Bl];grind);have:∀j,j<n->j≠i.toNat->∀q∈aA (f j),q∉aA a:=λj g P q s S=>(by obtain h|h:=z _ S;grind [lJ.dj];exact h.no _<|(c.gr j g).ids q s);refine hK a _ E _ ⟨G,λj g=>?_,λj k g hk P q s=>?_,λj g q s=>?_⟩ (B.len.trans u.len) (by grind [Fx.keep,lJ.no]) R A ((u.trans B).mono X) λj g q s=>?_;by_cases h:j=i.toNat;grind [lI.fx];simp only[za h];refine((c.gr j g).fx u<|by grind [lJ.dj]).fx B λq s e=>?_;grind [lJ.no,lJ.bx];grind [lJ.dj];grind [lJ.pl];grind
def giB{Y e a l}{i:Int}{K}(f:lI Y e 1 a<|l.map cb)(c:aF (L l) i):(rV (cz 1 Y a<|iv i) λt=>rV (sA J Y t) K)=K (bv<|gd l i.toNat):=by have d:i.toNat<L l:=(be7 c.1 c.2);obtain⟨h,_⟩|⟨b,rfl,g⟩:=f;simp_all;simp[cz,c.1,g,d,rV,sA,iE,aN,aNV d]
def fj(l:List aP)(t:Int)(k:Nat):eP:=(aH k).filter λj=>Q<|(gd l j).aq=t
theorem Bb{l t k}:fj l t (k+1)=fj l t k++if(gd l k).aq=t then[k] else[]:=by grind [fj,qn,gd]
theorem wF{l}{t:Int}{k:Nat}:L (fj l t k)<=k:=by grind [fZ,decide,gd,aH,fj]
def aOu(l:List aP)(k t:Nat):List Bool:=(fj l t k).map λj=>fR<|gd l j
structure buT(w:am):Prop where
 wo:vL w
 ev:∀e∈w.ac,vo e
 sn:∀k,k<L w.ac->L (cY w k).cells<1000/\L (cY w k).bU<1000/\L (cY w k).count<1000
 ct:L w.init.count=L w.aQ.ay/\∀c∈w.init.count,0<=c/\c<=400
 rd:∀k,k<L w.ac->∀x,x∈(gd w.ac k).dI\/x∈(gd w.ac k).ep-> -1000<=x/\x<=1000/\(gd w.init.count (gd w.ac k).aq.toNat<=x->x-gd w.init.count (gd w.ac k).aq.toNat<(L (aOu w.ac k (gd w.ac k).aq.toNat):Int)/\gd (aOu w.ac k (gd w.ac k).aq.toNat) (x-gd w.init.count (gd w.ac k).aq.toNat).toNat=U)
def bvh{p:Prop}(h:p:=by grind [Go.Ab.Fx.len]):p:=h
def PZ(w)(b:buT w):Ct 84 [.a w.c] (·=bv U):=by
 refine aMQ A λs2 hl b1 h0=>?_
 have bG:=b.wo.wo.ev
 simp only[qy 4,eT,b1]
 refine zm hl λM s3 F3 N3 b3=>?_
 refine stI (y:=7) (cs:=w.init.c) b3 A rfl H λs4 F4 b4=>?_
 have ar:box s4 (3,M)=V ⟨42,7,U,U,[w.init.c]⟩:=b4
 have c1:=F4.kq<|F3.kq b1
 have l4:=(F4.len.trans F3.len).trans hl
 have bL:=b.wo.th
 simp only[qz 6,eT,c1]
 refine AP H H (by rw[l4];decide) Z λF s5 bE NR R b5=>?_
 have d1:=R.kq c1
 have d3:=R.kq ar
 have l5:=R.len.trans l4
 simp only[qz 8,eT,d1]
 have W:((3,M):Id)≠F:=X
 have T:((1,1):Id)≠F:=X
 refine yV (L w.ac) (λk _ Y=>∃ds f,Lk ds (cY w k).c/\box Y (1,1)=V ⟨45,15,U,U,[w.c]⟩/\box Y (3,M)=V ⟨42,7,U,U,[ds]⟩/\lJ Y F 36 4 102 (L w.aQ.ay) (λt=>(aOu w.ac k t).map cb) f/\L Y=4096) ⟨w.init.c,λ_=> .l [] U U,⟨A,A⟩,d1,d3,⟨by rw[b5,Q0];rfl,λi _=>lI.nil,bno,bno⟩,l5⟩ ?_
 rintro k _ Y hk ⟨ds,f,G,e1,e3,Oq,P⟩
 have aX:=Bi<|oC G
 simp only[qz 31,qy 10,au,gJ,bh]
 refine⟨λh=>⟨vp h,?_⟩,λh=>trivial⟩
 have g:=aL h
 refine zm P λv6 Y1 F1 N1 g6=>?_
 refine stI (y:=7) (cs:=aP.c<|gd w.ac k) g6 A rfl H λS F2 ax=>?_
 have h6:box S (6,v6)=V ⟨71,7,U,U,[aP.c<|gd w.ac k]⟩:=ax
 have B:Fx Y S []:=(F1.trans F2).mono aUw
 have h1:=B.kq e1
 have C:=B.kq e3
 have O2:=Oq.keep B O O
 have l2:=B.len.trans P
 simp only[qz 12,qy 14,eT,h1,C,h6,aX]
 simp only[jM,kU,jt,zN,CU,G.arg,Ac]
 obtain⟨x1,x2,x3⟩:=b.sn k g
 have aJ:=(b.wo.wo.en k g).2
 refine⟨⟨aJ,b.wo.wo.co,b.wo.th,b.wo.sy k g,x1,x2,x3,b.ev _<|dB g⟩,?_⟩
 rintro r ⟨v,rfl,z⟩
 refine⟨.inl ?_,?_⟩
 ·simp only[nA,Cu,Cv,x9 G]
  rfl
 have aM:oc w.aQ (cY w k) (gd w.ac k)=cY w (k+1):=by grind [cY,nD]
 rw[aM] at z
 have ag:=Bi<|oC z
 simp only[oJ,pG,aY]
 refine zm l2 λv7 Y3 ak bB g7=>?_
 refine stI (y:=7) (cs:=v) g7 A (oC z) H λY4 am bC=>?_
 have i7:box Y4 (7,v7)=V ⟨42,7,U,U,[v]⟩:=by
  grind
 have u:Fx S Y4 []:=(ak.trans am).mono aUw
 have i1:=u.kq h1
 have i3:=u.kq C
 have K:=u.kq h6
 have s:=O2.keep u O O
 have aV:=u.len.trans l2
 have n:=(b.wo.wo.named g).2
 have o:(gd w.ac k).aq.toNat<L w.aQ.ay:=by have:=n.1;have:=n.2;omega
 have N:aF (L w.init.count) (gd w.ac k).aq:=by rwa [b.ct.1]
 simp+contextual only[qz 16,eT,K,eE,im,brl]
 refine bid 2 (λ_=>True) trivial λj hj _=>?_
 simp+contextual only[qz 97,qy 18,au,eQ]
 refine⟨λaC=>?_,λaC=>?_⟩
 ·have h2:j<2:=X
  rw[ax2 h2]
  have hx:∀x∈(if j=0 then(gd w.ac k).dI else(gd w.ac k).ep),x∈(gd w.ac k).dI\/x∈(gd w.ac k).ep:=by
   grind
  have bj:L (if j=0 then(gd w.ac k).dI else(gd w.ac k).ep)<4611686018427387904:=by have:=b.ev _<|dB g;split;exact this.1;exact this.2
  generalize(if j=0 then(gd w.ac k).dI else(gd w.ac k).ep)=l at*
  simp only[eQ]
  refine bid (L l) (λ_=>True) trivial λm hm _=>?_
  simp+contextual only[qz 133,au,eT,ix,i1,K,bh]
  refine⟨λC=>⟨vp C,?_⟩,by grind [bkg]⟩
  have aG:=aL C
  have aN:=b.rd k g _<|hx _<|dB aG
  have bF:=b.ct.2 _<|ii N
  generalize aE:gd l m-gd w.init.count (gd w.ac k).aq.toNat=m' at*
  have hw:dq.wrap m'=m':=brE
  have hO:=s.gr _ o
  simp only[eQ,ix,rk,dc,aE,hw]
  refine⟨N,?_⟩
  by_cases hz:0<=m'
  ·have E:=bsi hz
   obtain⟨y1,y2⟩:=aN.2.2 Z
   have ab:aF (L<|aOu w.ac k (gd w.ac k).aq.toNat) m':=⟨hz,y1⟩
   have aO:Q ((L (aOu w.ac k (gd w.ac k).aq.toNat):Int)<=m')=I:=vB
   simp only[eQ,E,jA,K,rk,s.ix n,s.ld o,s.ln o,bJ,aO,giB hO ab,y2,qc,eE,im]
   grind [bkg]
  ·have E:=bqN hz
   simp only[u0,E,jN,show∀x,mL (bv I) x (bv I)=V (bv I) fromλ_=>A,eE,im]
   grind [bkg]
 ·simp+contextual only[nq,K,s.ix n,s.ld o]
  have bK:L (aOu w.ac k (gd w.ac k).aq.toNat)<=k:=by grind [aOu,bJ,wF]
  refine anO (by':=1) (zs:=BE) (d:=102) (e:=4) (new:=[[bv<|fR<|gd w.ac k]]) s n A (by rw[aV];decide) (λr hr=>by obtain⟨y,_,rfl⟩:=dN.1 hr;rfl) O X λa p Y5 f5 O5 bM D ha bH _ _=>?_
  have j1:=D _ _ i1 T<|.inl A
  have j3:=D _ _ i3 W<|.inl A
  have aa:((7,v7):Id)≠F:=X
  have j7:=D _ _ i7 aa<|.inl A
  simp only[qz 22]
  refine dT ?_ ?_
  ·have aK:=s.pl _ o
   obtain⟨_,r4⟩|⟨⟨k4,u4⟩,r4,_⟩:=s.gr _ o
   ·rw[r4];rfl
   ·have h4:=aK (k4,u4) bno
    simp only at h4
    subst h4
    rw[r4];rfl
  simp only[eQ,j7,ag]
  refine stI (y:=7) (cs:=v) j3 A (oC z) (by rw[oC G];decide) λY6 F6 o3=>?_
  have aW:box Y6 (3,M)=V ⟨42,7,U,U,[v]⟩:=by
   grind [oC]
  have o1:=F6.kq j1
  have O6:=O5.keep F6 X (λi hi q hq bI=>by
   grind [lJ.pl])
  simp only[qz 24,au,cS,aY]
  refine yU g ⟨v,f5,z,o1,aW,?_,bvh⟩
  have bD:(λj=>if j=(gd w.ac k).aq.toNat then(aOu w.ac k j).map cb++[[bv<|fR<|gd w.ac k]] else(aOu w.ac k j).map cb)=λt=>(aOu w.ac (k+1) t).map cb:=by
   funext j
   have h0:=n.1
   simp only[aOu,Bb]
   by_cases hj:j=(gd w.ac k).aq.toNat
   ·rw[zg hj,zg Z];simp
   ·rw[za hj,za Z];simp
  grind
def Gq:FT:=mT PZ
def azL:=oK Gq PZ (j:=bxk)
def apq:dO:=(86,Fg)::(84,Gq)::apo
def Rh:eJ apq:=asq (aCb Og)<|asq (pg PZ)<|Rf
def Do:=ai @ayh<|ai @azL<|@Ac
def aMN{c0}:=y1 45 15 1 Rh func33 at1 c0 [.a c0]
def aKG{c0 b}:=y2 45 15 2 48 6 3 Rh func34 aur c0 b [.a c0, .a b]
def amF{l}:jC l↔l.Pairwise (·<·):=by rw[GN];refine⟨λh i j b c a=>?_,λh i b=>?_⟩;have:=AD h a c;grind [aNV];grind [aNV]
theorem an1:∀{l t x},x∈fk l t->x=t\/x∈l
 |[],t,x,h=>by grind [fk]
 |y::l,t,x,h=>by
  simp only[fk] at h
  split at h
  ·obtain h|h:=eW.1 h
   ·simp_all
   ·obtain h|h:=an1 h
    ·exact .inl h
    simp_all
  grind
theorem kQ.aNU{n s}(h:kQ n s)(i)(t):kQ n (aNU s i t):=⟨h.lo,h.dn,by simp[Ab.aNU];exact h.th,h.rd⟩
theorem kQ.lk{n s}(h:kQ n s)(i):jC (cH s i).bk/\∀x∈(cH s i).bk,aF n x:=by unfold cH gd;rw[btc];cases a:s.ak[i.toNat]? with|none=>exact⟨λi b=>aYx b (Nat.not_lt_zero _),λx a=>aYx a ql⟩|some x=>grind [kQ.rd]
theorem kQ.lC{n s}(h:kQ n s)(i)(l)(b:jC l.bk/\∀x∈l.bk,aF n x):kQ n (lC s i l):=by refine⟨by simp[Ab.lC];exact h.lo,h.dn,h.th,λx a=>?_⟩;simp only[Ab.lC] at a;grind [kQ.rd]
theorem kQ.marks{n}:∀{l:eu} {s},kQ n s->kQ n (l.foldl (λs u=>Ab.aNU s u {fA s u with cQ:=4}) s)|[],_,h=>h|u::l,s,h=>kQ.marks (l:=l)<|h.aNU u _
theorem kQ.apply{n s}(h:kQ n s)(w)(t kind eI lD)(v:aF n t):kQ n (cU w s t kind eI lD).1:=by unfold cU;by_cases o:kind=1;grind [kQ.aNU];rw[za o];by_cases p:kind=2;grind [kQ.aNU];rw[za p];by_cases q:kind=6\/kind=10;grind [kQ.lC,kQ.lk];rw[za q];by_cases r:kind=7\/kind=11;grind [kQ.lC,kQ.lk];rw[za r];by_cases u:kind=8;grind [kQ.lC,kQ.lk,Ro,Nz,an1];rw[za u];by_cases l:kind=9;rw[zg l];refine h.lC _ _ ⟨amF.2<|(amF.1 (h.lk eI).1).filter _,λx m=>?_⟩;exact(h.lk eI).2 x (jW.1 m).1;rw[za l];by_cases a:kind=12;rw[zg a];exact⟨h.lo,h.dn,h.th,h.rd⟩;rw[za a];by_cases b:kind=13;rw[zg b];exact⟨h.lo,h.dn,h.th,h.rd⟩;rw[za b];by_cases c:kind=14;grind [kQ.aNU];rw[za c];by_cases d:kind=15;grind [kQ.aNU];rw[za d];by_cases e:kind=16;grind [kQ.aNU,kQ.lC,kQ.lk];rw[za e];by_cases f:kind=17;grind [kQ.aNU,kQ.lC,kQ.lk];rw[za f];by_cases g:kind=18;grind [kQ.aNU];rw[za g];by_cases i:kind=19;grind [kQ.marks];rw[za i];by_cases j:kind=20;grind [kQ.aNU];rw[za j];by_cases k:kind=22;rw[zg k];exact⟨h.lo,by simp;exact h.dn,h.th,h.rd⟩;simp_all
theorem Bq{w}(h:bcV w=U):∀k,k<=L w.ac->kQ (L w.aQ.ay) (cY w k).eB:=by obtain⟨e,hs⟩:=aQA h;obtain⟨a,t,r,s,u⟩:=tC e;intro k;induction k with|zero=>intro _;have f:=e;simp only[oh,cP,fK,aPs] at f;have d:=f.2;simp only[ny,bN,awG] at d;have:L w.init.count=L w.aQ.ay:=buj;refine⟨a.sy.lo,a.sy.dn,a.sy.th,λl o=>?_⟩;have m:l∈w.init.eB.ak:=o;obtain⟨j,g,rfl⟩:=ou m;have c:=(d.1 j g).2;rw[aNV g] at c;refine⟨λi b=>?_,λx p=>?_⟩;have:=(c (i+1) b).2 Z;simp_all;obtain⟨i,b,rfl⟩:=ou p;have:=(c i b).1;grind [nO,dX,aNV]|succ k q=>intro v;have n:=hs k Z;simp only[cY,nD,n,aRa,oc];refine(q Z).apply _ _ _ _ _ ?_;grind [bjf,eH,cP,aOL,fK,dX]
def vd{w}(a:hU w)(h:bcV w=U):vL w:=by obtain⟨b,hs⟩:=aQA h;refine⟨Rr a h,?_,by grind [Bq]⟩;grind [oh,cP,fK,mQ,eH,wJ,decide_eq_false_iff_not]
def kJ(t:Int):List aP->Nat->eP|[],_=>[]|e::l,i=>(if e.aq=t then[i] else[])++kJ t l (i+1)
theorem QH{t:Int}:∀{a b} {i:Nat},kJ t (a++b) i=kJ t a i++kJ t b (i+L a)
 |[],b,i=>by simp[kJ]
 |e::a,b,i=>by
  simp only[zn,kJ,bje]
  rw[QH (a:=a)]
  grind
theorem Qz{t:Int}:∀{l} {i m:Nat},m<L (kJ t l i)->pS t l m i=((gd (kJ t l i) m:Nat):Int)
 |[],i,m,h=>by simp[kJ] at h
 |e::l,i,m,h=>by
  simp only[pS]
  by_cases a:e.aq=t
  ·rw[zg a]
   cases m with
   |zero=>simp[kJ,a,gd]
   |succ m=>
    rw[za Z,show((m+1:Nat):Int)-1=(m:Int) by omega]
    rw[Qz (l:=l) (i:=i+1) (m:=m)<|by grind [kJ]]
    simp[kJ,a,gd]
  ·rw[za a]
   rw[Qz (l:=l) (i:=i+1) (m:=m)<|by grind [kJ]]
   simp[kJ,a]
theorem anU{t:Int}{l}:∀{k:Nat},k<=L l->kJ t (l.take k) 0=fj l t k
 |0,_=>by simp[kJ,fj]
 |k+1,h=>by
  have a:k<L l:=Z
  rw[iJ a,<-aNV a,QH,anU (k:=k) Z,Bb]
  grind [gd,kJ]
theorem aEv{w}{t:Int}{k m:Nat}(a:k<=L w.ac)(b:m<L (fj w.ac t k)):oV w t m=(gd (fj w.ac t k) m:Nat):=by have:kJ t w.ac 0=fj w.ac t k++kJ t (w.ac.drop k) k:=(by(conv=>lhs;rw[<-List.take_append_drop k w.ac]);grind [QH,anU]);grind [oV,Qz,gd,List.getElem?_append_left]
theorem aBC{l i j}{v:Int}(h:i≠j):gd (l.set i v) j=gd l j:=by grind [gd,oq]
def axw{w}(h:bcV w=U){t:Int}(b:aF (L w.init.count) t):∀k,k<=L w.ac->gd (cY w k).count t.toNat=gd w.init.count t.toNat+(L (fj w.ac t k):Int)/\L (cY w k).count=L w.init.count:=by obtain⟨d,hs⟩:=aQA h;obtain⟨n,l,i,j,m⟩:=tC d;intro k;induction k with|zero=>grind [cY,fj]|succ k g=>intro p;obtain⟨q,f⟩:=g Z;have a:=hs k Z;have:=(wK d k Z).cn;have:t.toNat<L (cY w k).count:=(be7 b.1 b.2);simp only[cY,nD,a,aRa,oc,zq];refine⟨?_,f⟩;simp only[bjf,eH,cP] at a;have c:=a.1;simp only[aOL,cP,fK] at c;have e:=dX.1 c.1.1.1.2;have:=e.1;have:=b.1;rw[Bb];by_cases o:(gd w.ac k).aq=t;grind [a6G,GJ,dB,gd,cY,eM];grind [aBC]
def anT{w}(p:hU w)(h:bcV w=U):buT w:=by obtain⟨B,hs⟩:=aQA h;obtain⟨v,M,G,K,P⟩:=tC B;have C:=vd p h;have o:L w.init.count=L w.aQ.ay:=buj;have e:∀c∈w.init.count,0<=c/\c<=400:=λc D=>(aYF<|v.cn c D);refine⟨C,p.2.2.1,λk q=>?_,⟨o,e⟩,λk q x d=>?_⟩;grind [wK,vH.ce,vH.fu,vH.co];have g:=hs k q;simp only[bjf,eH,cP] at g;have n:=g.2.2.2.2;have m:=g.1;simp only[aOL,cP,fK] at m;have z:=dX.1 m.1.1.1.2;simp only[bip,cP,fK,awG] at n;obtain⟨⟨E,F⟩,S⟩:=n;have f:aF (L w.init.count) (gd w.ac k).aq:=vB;obtain⟨y,R⟩:=axw h f k Z;have:=e _<|ii f;have:=wF (l:=w.ac) (t:=(gd w.ac k).aq) (k:=k);have u:1<=x/\x<gd (cY w k).count (gd w.ac k).aq.toNat:=(by obtain d|d:=d;obtain⟨j,i,rfl⟩:=ou d;have:=E j i;grind [uJ,aNV];obtain⟨j,i,rfl⟩:=ou d;have:=F j i;grind [uJ,aNV]);rw[y] at u;refine⟨Z,Z,λN=>?_⟩;have s:=bsR z.1;have r:(x-gd w.init.count (gd w.ac k).aq.toNat).toNat<L (fj w.ac (gd w.ac k).aq k):=Z;have a:qU w (gd w.ac k).aq x=U:=(by grind [bcV,eH,xH,cP,fK]);simp only[qU] at a;rw[bqN Z,lG] at a;have b:=aEv (w:=w) (t:=(gd w.ac k).aq) (k:=k) Z r;rw[bsR Z] at b;rw[b] at a;simp only[bN,bh] at a;refine⟨?_,?_⟩;grind [aOu,bJ];simp only[aOu,s];rw[aNV X,List.getElem_map,<-aNV r];exact a.2
def PW(w)(v:bcV w=U/\hU w):Ct 33 [.a w.c] (·=bv U):=aMN A λR m p M=>by obtain⟨e,k⟩:=v;have g:=anT k e;have h:=e;simp only[bcV,bN,eH,awG] at h;obtain⟨f,E,_⟩:=h;obtain⟨d,D,C,i,F⟩:=tC f;have b:=f;simp only[oh,cP,fK,aPs] at b;obtain⟨⟨⟨⟨⟨x,y⟩,S⟩,B⟩,T⟩,n⟩:=b;have:=k;have:=g.wo.th;obtain⟨g1,G,q,K⟩:L w.init.count=L w.aQ.ay/\L w.init.eB.ay=L w.aQ.ay/\L w.init.eB.ak=L w.aQ.ak/\L w.init.eB.done=L w.aQ.bU:=(by grind [fN,iY]);have:L w.init.bU=L w.aQ.bU:=buj;have o:=n;simp only[ny,bN,awG] at o;have z:(L w.ac:Int)<=16:=Z;have r15:aN (V 15) w.c=V (.a w.c):=A;have r:L w.ac<1000000/\L w.init.count<1000000:=Z;have:=Bq e 0 Z;have u:uZ w=U/\(∀j,j<L w.init.eB.ay->pX w j=U)/\L w.init.count=L w.init.eB.ay/\L w.init.eB.ay<1000000/\L w.init.eB.ak=L w.aQ.ak/\(∀c∈w.aQ.bC,aF (L w.aQ.ak) c.eg):=vB;have t:ny w=U/\L w.init.eB.ak=L w.aQ.ak/\L w.aQ.ak<=4/\L w.init.eB.ay<=4/\(∀l∈w.init.eB.ak,L l.bk<=100):=⟨n,q,by have:=d.sy.lo;omega,Z,λl m=>by have:=d.sy.rd l m;omega⟩;have s:(∀j,j<L w.init.bU->L w.init.eB.done=L w.init.bU/\(gd w.init.eB.done j=I->gd w.init.bU j=0))/\L w.init.bU=L w.init.eB.done/\L w.init.bU<1000000:=(by refine⟨λj P=>⟨Z,λN=>?_⟩,Z,by have:=d.fu;omega⟩;grind [Ae,Bool.not_false,decide_eq_false_iff_not]);simp+contextual only[hH,p,r15,Do,x,y,B,i,z,r,u,t,s,g,bqQ,aQl,FA];grind
def xc:FT:=mT PW
def azI:=oK xc PW (j:=bxk)
def NV(w)(g)(C:vL w/\qC w g=U):Ct 34 [.a w.c, .a g.c] (·=bv U):=aKG A rfl λD B q t E=>by obtain⟨d,z⟩:=C;have r15:aN (V 15) w.c=V (.a w.c):=A;simp only[qy 6,hZ,q,r15,Do];refine⟨d,?_⟩;rintro r ⟨f,o,rfl⟩;refine⟨.inl A,?_⟩;simp only[oJ,pG,aY];have h:L (w.c++[AV.l ((aQv w<|L w.ac).map aW.c) f o])=16:=buk;have j:L (buZ)=16:=A;refine mo B λm n u=>?_;have b:box m (5,(aZ D 5).ver+1)=V ⟨172,16,U,U,[buZ]⟩:=u;have i:5<L m:=bkb;refine gN b i j h λF p v=>?_;have x:=p.bt<|n.bt t;have k:aN (V 16) (w.c++[AV.l ((aQv w<|L w.ac).map aW.c) f o])=V (.a<|w.c++[.l ((aQv w<|L w.ac).map aW.c) f o]):=A;have y:nK ⟨w,aQv w<|L w.ac⟩:=⟨d.wo,A⟩;have e:∀s:ae,dG s (.a<|w.c++[.l ((aQv w<|L w.ac).map aW.c) f o])= .a (jY.c ⟨w,aQv w<|L w.ac⟩):=λ_=>A;simp+contextual only[qz 8,gg,v,x,k,e,mj,Do,y,z]
def E5:FT:=aIc NV
def ax8:=gX E5 NV (j:=bxk)
def apr:dO:=(33,xc)::(34,E5)::apq
def apf:eJ apr:=asq (pg PW)<|asq (aCb NV)<|Rh
def amm:=ai @azI<|ai @ax8<|@Do
def aKZ{c0 a1}:=y1 45 15 2 apf func169 auF c0 [.a c0,a1]
def bwc(w)(q:Int)(e:bcV w=U/\hU w/\L w.ac<100000/\(aF (L w.ac) q->((gd w.ac q.toNat).kind=23->aF (L w.init.eB.done) (gd w.ac q.toNat).eI/\aF (L w.init.bU) (gd w.ac q.toNat).eI)/\((gd w.ac q.toNat).kind=3->aF (L w.init.cells) (gd w.ac q.toNat).eI))):Ct 169 [.a w.c,iv q] (λr=>∃t,r= .l ((dx w q).map ci) t U):=aKZ A λj i b h=>by obtain⟨f,d,p1,g⟩:=e;have r15:aN (V 15) w.c=V (.a w.c):=A;simp+contextual only[hZ,b,r15,amm,f,d,aNR,eE,fL];refine⟨⟨p1,g⟩,?_⟩;intro t;exact⟨A,t,A⟩
def Fp:FT:=pn bwc
def ayp:=f211 Fp bwc
def aps:dO:=(169,Fp)::apr
def apg:eJ aps:=asq (aN0 bwc)<|apf
def Dp:=ai @ayp<|@amm
def atc:=I9 62 [(4,([3,20],[1,19])),(10,([3,26],[1,4,19,20,25])),(13,([3],[1,4,19,20,25,26])),(18,([3,43],[1,42])),(25,([3,55],[1,53,54])),(28,([3],[1,53,54,55])),(33,([3,71],[1,69,70])),(36,([3],[1,69,70,71])),(41,([3,83],[1,9,69,70,71,81,82])),(48,([3,98],[1,96,97])),(51,([3],[1,96,97,98])),(56,([3,113],[1,13,96,97,98,111,112]))]
def aKD{c0}:=y1 45 15 1 apg func97 atc c0 [.a c0]
abbrev uF:eP:=[37,50,66,92,122]
abbrev nf2:eP:=[37,50,66,92,122,8,10,14]
def NT(w)(hp:kB w/\L w.init.eB.ay<=4/\fN w.aQ w.init=U/\bcV w=U/\hU w):Ct 97 [.a w.c] (λr=>∃t,r= .l ((m8 w).map aH8.c) t U):=by refine aKD A λs2 hl b1 h0=>?_;obtain⟨Hq,bm,S,aB,ax⟩:=hp;have be:=Hq.ev;simp+contextual only[eT,b1];have x:∀k m:Nat,k<=16->m<=100->k*m<=16*100:=λk m a b=>xn a b;refine iu (λa i=>[a,iv i]) 1 uF nf2 98 3 (L w.ac) (λk=>(lr (L w.ac) k).map aH8.c) (λ_=>True) trivial (.inl ⟨A,A⟩) λk a Y s _ hG hF=>?_;have c1:=hF.bt b1;have R:L Y=4096:=(by rw[hF.1,hl]);simp only[qz 25,eT,c1];constructor<;>intro h;have f:=aL h;have bg:=AS (L w.ac) k;have bi:=x k (L w.ac) Z Z;refine iu (λa i=>[a,iv i]) 1 uF nf2 98 3 (L w.ac) (λm=>(lr (L w.ac) k++nB k m).map aH8.c) (λ_=>True) trivial (by grind [nB]) λm a2 W hm _ q d=>?_;have C:L W=4096:=(by rw[d.1,R]);have bj:=Qu k m;simp only[qz 61,di,eQ,qz 83,qy 4,qy 6,xy];refine⟨λj=>⟨λy=>?_,λy=>?_⟩,λj=>?_⟩;refine rF ⟨1,k,m⟩ q H Z NA λa3 K g3 p=>?_;simp only[qz 81,aI,au,fE,cS,aY];refine hJ (aL j) ?_<|d.trans<|p.mono H;grind [nB,uP,bje];simp only[qz 81,aI,au,fE,cS,aY];refine hJ (aL j) ?_ d;grind [nB,uP];have o:m=L w.ac:=X;subst o;refine hJ f ?_<|hF.trans d;grind [lr,tq];have n:k=L w.ac:=X;subst n;have bb:=AS (L w.ac)<|L w.ac;have bc:=x (L w.ac) (L w.ac) Z Z;clear h s;refine iu (λa i=>[a,iv i]) 1 uF nf2 98 3 (L w.ac) (λk=>(lr (L w.ac) (L w.ac)++mK k).map aH8.c) (λ_=>True) trivial (by grind [mK]) λk a1 Y1 s _ N z=>?_;have c2:=z.bt c1;have ag:L Y1=4096:=(by rw[z.1,R]);simp only[qz 109,qy 8,eT,c2,CW];constructor<;>intro h;refine rF ⟨2,k,0⟩ N H Z (by simp[AT];omega) λa3 K g3 p=>?_;simp only[qz 10,au,fE,cS,aY];refine hJ (aL h) ?_<|z.trans<|p.mono H;grind [mK,an5,bje];have n:k=L w.ac:=X;subst n;clear h s;generalize aw:lr (L w.ac) (L w.ac)++mK (L w.ac)=T at N;have aR:L T<=1700:=(by rw[<-aw,a6G,AT];omega);refine iu (λa i=>[a,iv i]) 1 uF nf2 98 3 (L w.ac) (λk=>(T++kh w.ac k).map aH8.c) (λ_=>True) trivial (by grind [kh]) λk a2 W s _ q d=>?_;have c3:=d.bt c2;have C:L W=4096:=(by rw[d.1,ag]);simp only[qz 151,di,qz 173,qy 12,fD,c3,bh];refine⟨λh=>⟨vp h,?_⟩,λh=>?_⟩;refine eF A rfl H Z λK p b3=>?_;have bf:=AU w.ac k;simp+contextual only[qz 14,qy 16,qy 18,oj,b3,Dp,CW];constructor<;>intro y;refine rF ⟨3,k,0⟩ (q.fr p H) H bkb NA λa3 M g3 F4=>?_;simp only[qz 171,aI,au,fE,cS,aY];refine hJ (aL h) ?_<|d.trans<|(p.mono H).trans<|F4.mono H;grind [kh,uP,bje];simp only[qz 171,aI,au,fE,cS,aY];refine hJ (aL h) ?_<|d.trans<|p.mono H;rw[kh,uP,y];simpa[kh] using q.fr p H;have n:k=L w.ac:=X;subst n;clear h s;generalize a9:T++kh w.ac (L w.ac)=F at q;have aT:L F<=1800:=(by grind [AU,a6G]);refine iu (λa i=>[a,iv i]) 1 uF nf2 98 3 (L w.ac) (λk=>(F++ki w k).map aH8.c) (λ_=>True) trivial (by grind [ki]) λk a3 K s _ P u=>?_;have c4:=u.bt c3;have D:L K=4096:=(by rw[u.1,C]);simp only[qz 199,di,qz 221,qy 20,fD,c4,bh];refine⟨λh=>⟨vp h,?_⟩,λh=>?_⟩;refine eF A rfl H Z λY5 g b5=>?_;have f:=aL h;have c5:=g.bt c4;have bd:=vU w (k:Int);have bl:=AW w k;have aA:=x k (1+L w.ac) Z Z;have r15:aN (V 15) w.c=V (.a w.c):=A;simp+contextual only[qz 22,oj,b5,c5,r15,Dp,bh];constructor<;>intro y;simp only[qz 219,aI,au,fE,cS,aY];refine hJ f ?_<|u.trans<|g.mono H;have:dx w (k:Int)=[]:=(by grind [fR,gd,dx]);rw[ki,tq,this,mU,cL];exact P.fr g H;refine⟨⟨aB,ax,Z,λhq=>?_⟩,λt'=>?_⟩;obtain⟨bk,_⟩:=Hq.named (k:=k) f;simp only[fN,bN,awG] at S;obtain⟨f1,f2,f3,f4⟩:=iY S.1;grind [oU,qP];refine iu (λa i=>[a,iv i]) 1 uF nf2 98 3 (L<|dx w (k:Int)) (λm=>(F++ki w k++((dx w (k:Int)).take m).map λb=>(⟨4,(k:Int),b⟩:aH8)).map aH8.c) (λ_=>True) trivial (by grind [Gr.fr]) λm a4 M hm _ v e=>?_;have E:L M=4096:=(by rw[e.1,g.1,D]);simp only[qz 247,qy 24,gg,tf,bh,xy];refine⟨λj=>⟨vp j,?_⟩,λj=>?_⟩;have o:=aL j;refine rF ⟨4,k,gd (dx w (k:Int)) m⟩ v H Z NA λa5 a0 g5 ah=>?_;simp only[qz 26,au,fE,cS,aY];refine hJ o ?_<|e.trans<|ah.mono H;grind [EC];have o:m=L (dx w (k:Int)):=X;subst o;simp only[qz 219,aI,au,fE,cS,aY];refine hJ f ?_<|u.trans<|(g.mono H).trans e;grind [ki,tq,bje,gV];have n:k=L w.ac:=X;subst n;clear h s;generalize ba:F++ki w (L w.ac)=G at P;have aU:L G<=3500:=(by grind [AW,a6G]);have hN:m8 w=G++jp w (L w.ac):=(by grind [m8]);refine iu (λa i=>[a,iv i]) 1 uF nf2 98 3 (L w.ac) (λk=>(G++jp w k).map aH8.c) (λ_=>True) trivial (by grind [jp]) λk a4 M s _ v e=>?_;have c5:=e.bt c4;have E:L M=4096:=(by rw[e.1,D]);simp only[qz 289,di,qz 311,qy 28,gJ,bh];refine⟨λh=>⟨vp h,?_⟩,λh=>?_⟩;refine eF A rfl H Z λY5 g b5=>?_;have f:=aL h;have c6:=g.bt c5;have bo:=Qv w k;have aA:=x k (L w.init.eB.ay+L w.ac) Z Z;simp+contextual only[qz 30,fQ,b5,c6,Dp];refine⟨λy=>?_,λy=>⟨Z,λt'=>?_⟩⟩;simp only[qz 309,aI,au,fE,cS,aY];refine hJ f ?_<|e.trans<|g.mono H;have:pR w k=[]:=(by grind [pR]);rw[jp,tq,this,cL];exact v.fr g H;have a8:pN (gd w.ac k)=U:=X;have bn:=Rp w (gd w.ac k).eI (gd w.ac k).aq;refine iu (λa i=>[a,iv i]) 1 uF nf2 98 3 (L<|mR w (gd w.ac k).eI (gd w.ac k).aq) (λm=>(G++jp w k++((mR w (gd w.ac k).eI (gd w.ac k).aq).take m).map λb=>(⟨5,(k:Int),b⟩:aH8)).map aH8.c) (λ_=>True) trivial (by simpa using v.fr g H) λm a6 Y6 hm _ av B=>?_;have aW:L Y6=4096:=(by rw[B.1,g.1,E]);simp only[qz 337,qy 32,gg,tf,bh,xy];refine⟨λj=>⟨vp j,?_⟩,λj=>?_⟩;have o:=aL j;refine rF ⟨5,k,gd (mR w (gd w.ac k).eI (gd w.ac k).aq) m⟩ av H Z NA λa7 Y7 g7 F7=>?_;simp only[qz 34,au,fE,cS,aY];refine hJ o ?_<|B.trans<|F7.mono H;grind [EC];obtain rfl:m=L (mR w (gd w.ac k).eI (gd w.ac k).aq):=X;simp only[qz 309,aI,au,fE,cS,aY];refine hJ f ?_<|e.trans<|(g.mono H).trans B;simp_all [jp,tq,bje,pR,gV];obtain rfl:k=L w.ac:=X;rw[hN];grind [qV]
def BQ:FT:=om NT
def ax6:=aUy BQ NT
def apt:dO:=(97,BQ)::aps
def Ey:eJ apt:=asq (rj NT)<|apg
def Lb:=ai @ax6<|@Dp
def aJ4{c0}:=y1 45 15 1 Ey func36 auF c0 [.a c0]
def atd:=I9 19 [(4,([24],[1,3,22,23])),(7,([],[1,3,22,23,24])),(13,([52],[3,50,51]))]
def aKE{c0}:=yB1 45 15 1 Ey func154 atd c0 [.a c0]
def aKh{c b}:=yB1 98 3 3 Ey func167 at1 b [c, .a b]
def NP(w:am)(o:bcV w=U/\hU w):Ct 36 [.a w.c] (λr=>∃t,r= .l ((m8 w).map aH8.c) t U):=aJ4 A λx v j u=>by obtain⟨e,g⟩:=o;have r15:aN (V 15) w.c=V (.a w.c):=A;obtain⟨k,hs⟩:=aQA e;obtain⟨i,s,p,q,h⟩:=tC k;have m:kB w/\L w.init.eB.ay<=4/\fN w.aQ w.init=U/\bcV w=U/\hU w:=⟨Rr g e,i.sy.th,h,e,g⟩;simp+contextual only[hH,j,r15,Lb,e,g,m,eE,fL,↓uL];intro t;exact⟨.inl A,A,t,A⟩
def aSc:FT:=om NP
def ax3:=aUy aSc NP
abbrev ym:MT:=⟨U,[(0,0),(1,0),(2,0)], .int .i64<|Int.ofNat 0⟩
def btI(x:aH8):Value:= .agg #[.int .i64 x.kind, .int .i64 x.a, .int .i64 x.b]
def mC:Nat->List aH8->List (Value×Value)|_,[]=>[]|i,x::l=>(btI x, .int .i64 i)::mC (i+1) l
theorem amE:∀{l} {i:Nat} {x},mC i (l++[x])=mC i l++[(btI x, .int .i64 ((i+L l:Nat):Int))]
 |[],i,x=>rfl
 |y::l,i,x=>by
  simp only[zn,mC,bZ]
  rw[amE,show i+1+L l=i+(L l+1) by omega]
theorem Qd{x y}:pO ym (btI x) (btI y)=V (Q<|x=y):=by obtain⟨a,b,c⟩:=x;obtain⟨e,g,h⟩:=y;by_cases i:a=e<;>by_cases j:b=g<;>by_cases k:c=h<;>simp[pO,btI,nW,sS,i,j,k]
def al7{x}:∀{l i j},x∉l->lg ym (btI x) (mC i l) j=V J
 |[],_,_,_=>rfl
 |y::l,i,j,h=>by
  have c:¬x=y:=vB
  simp only[mC,lg,Qd,bqN c]
  exact al7 vB
def al9{x}:∀{l i j},x∈l->lg ym (btI x) (mC i l) j=V (V (j+l.idxOf x, .int .i64 ((i+l.idxOf x:Nat):Int)))
 |[],_,_,h=>by simp at h
 |y::l,i,j,h=>by
  by_cases c:x=y
  ·grind [mC,lg,Qd]
  ·have g:x∈l:=vB
   have e:(y::l).idxOf x=l.idxOf x+1:=by
    grind
   simp only[mC,lg,Qd,bqN c]
   rw[al9 (l:=l) (i:=i+1) (j:=j+1) g,e,show i+1+l.idxOf x=i+(l.idxOf x+1) by omega,show j+1+l.idxOf x=j+(l.idxOf x+1) by omega]
def am6{x}:ww U (.a<|aH8.c x)=V (btI x):=rfl
def KH:∀{c},xF (c.map ent)=V c
 |[]=>rfl
 |(k,v)::c=>by simp only[ji,ent,xF,KH];rfl
def anJ{x}:qR ym (btI x)=U:=by simp[qR,btI]
def luV{Y b t x l o n}(e:box Y b=V ⟨t,0,U,U,[(mC 0 l).map ent]⟩)(h:x∈l):oP ym Y (.g 0 b o n) (.a<|aH8.c x) I=V (iv<|l.idxOf x):=by simp only[oP,am6,e,a6X,ul,aNR,a6F,KH,anJ,al9 h,eE,btd,aj]
def muV{Y b t x l}{o n:Nat}{v:Int}{K}(e:box Y b=V ⟨t,0,U,U,[(mC 0 l).map ent]⟩)(h:x∉l)(j:v=L l)(i:∀Y',Fx Y Y' [b]->box Y' b=V ⟨t,0,U,U,[(mC 0<|l++[x]).map ent]⟩->K Y'):sV (muA ym Y (.g 0 b o n) (.a<|aH8.c x)<|iv v) K:=by simp only[muA,am6,e,ul,aNR,a6F,KH,anJ,al7 h];refine i _ (wc e) ?_;grind [lO,amE]
def mmI{t Y}{d:Nat}{K}(c:d<L Y)(h:∀v Y',Fx Y Y' []->bK Y (d,v)->box Y' (d,v)=V ⟨t,0,U,U,[[]]⟩->K (.g 0 (d,v) 0 0) Y'):eV (oS t Y d) K:=by have e:oS t Y d=V (.g 0 (lA Y d) 0 0,put Y d ⟨t,0,U,U,[[]]⟩):=(by simp[oS,vg,c]);rw[e];exact h _ _ (kH c) (qQ Y d)<|iy c
def bxI{e}{z d:Nat}{cs Y K}(j:L cs=z)(i:0<z)(c:d<L Y)(h:∀v Y',Fx Y Y' []->bK Y (d,v)->box Y' (d,v)=V ⟨e,z,U,U,[cs]⟩->K (.p (d,v) 0 0) Y'):eV (bxA e z Y d<|.a cs) K:=by have g:bxA e z Y d (.a cs)=V (.p (lA Y d) 0 0,put Y d ⟨e,z,U,U,[cs]⟩):=(by grind [bxA,eY,vg]);rw[g];exact h _ _ (kH c) (qQ Y d)<|iy c
def pT(w:am)(k t:Nat):List (dM):=(fj w.ac t k).map λ(j:Nat)=>[iv j]
structure bD(Y:ae)(b:Id)(w:am)(ns:List aH8)(out:List<|eu)(n wk a:AV)(bm bo:Id)(f:Nat->AV):Prop where
 bx:box Y b=V ⟨241,20,U,U,[w.c++[n, .g 0 bm 0 0,wk, .m bo<|L w.aQ.ay,a]]⟩
 nm:∃t o,n= .l (ns.map aH8.c) t o
 mp:∃t,box Y bm=V ⟨t,0,U,U,[(mC 0 ns).map ent]⟩
 gw:lI Y 98 3 wk ((aR ns 5).map aH8.c)
 ow:lJ Y bo 25 3 73 (L w.aQ.ay) (pT w<|L w.ac) f
 gr:lI Y 25 1 a (out.map λc=>[sl ci c])
 le:L Y=4096
 sb:b.1=18
 sm:bm.1=11
 so:bo.1=16
 sw:∀k∈aA wk,k.1=45
 sa:∀k∈aA a,k.1=12
theorem aEl{ns x}(h:x∈ns):dP ns x=(ns.idxOf x:Int)+1:=by rw[dP,zg h]
def aH4{w}{k t:Nat}:∀r∈pT w k t,L r=1:=λr c=>by obtain⟨y,_,rfl⟩:=dN.1 c;rfl
def bse{p:Prop}(h:p:=by grind [Go.Ab.bK.old]):p:=h
def aCA{w Y}(hl:L Y=4096)(hw:bcV w=U)(hf:hU w)(cB:(m8 w).Nodup)(cC:L (m8 w)<100000):∃r Y1,(∃b n wk bm bo f,r= .p b 0 0/\bD Y1 b w (m8 w) [] n wk (.l [] U U) bm bo f/\Fx Y Y1 []/\bK Y b/\bK Y bm/\bK Y bo)/\cZ aS GG 154 [.a w.c] Y r Y1:=aKE hl A λs2 v1 K2 cI cJ b1=>by have F:=K2.fx [];have bu:=K2.len.trans hl;obtain⟨hB,hs⟩:=aQA hw;obtain⟨I0,cy,cw,cx,bF⟩:=tC hB;have hN:kB w/\L w.init.eB.ay<=4/\fN w.aQ w.init=U/\bcV w=U/\hU w:=⟨Rr hf hw,I0.sy.th,bF,hw,hf⟩;have hW:=vd hf hw;have cH:=hW.th;have r15:aN (V 15) w.c=V (.a w.c):=A;simp only[hZ,b1,r15,Lb,hN,aNR];intro t;refine⟨.inl A,?_⟩;refine mmI Z λo s3 P N3 bd=>?_;have c1:=P.kq b1;have bv:=P.len.trans bu;simp only[qz 4,eT,c1];refine AP H H Z Z λbo s4 bq No R be=>?_;have d1:=R.kq c1;have dm:=R.kq bd;have bw:=R.len.trans bv;have bp:bM bys [(0,15),(15,1),(16,1),(17,1),(18,1),(19,1)] [(0, .a w.c),(1, .l ((m8 w).map aH8.c) t U),(2, .g 0 (11,o) 0 0),(4, .m bo<|L w.aQ.ay)]=V (.a<|w.c++[.l ((m8 w).map aH8.c) t U, .g 0 (11,o) 0 0, .l [] U U, .m bo<|L w.aQ.ay, .l [] U U]):=A;simp only[qz 6,bp,aY];refine bxI buk H Z λB D S N5 b5=>?_;have e1:=S.kq d1;have em:=S.kq dm;have eo:=S.kq be;have ag:=S.len.trans bw;have a4:Fx s2 D []:=((P.trans R).trans S);generalize cD:m8 w=ns at*;have bC:∃t' o',(AV.l (ns.map aH8.c) t U)= .l (ns.map aH8.c) t' o':=⟨_,_,A⟩;generalize bA:(AV.l (ns.map aH8.c) t U)=n0 at*;refine dT A ?_;have aD:((11,o):Id)≠bo:=X;have aB:((18,B):Id)≠bo:=X;simp only[bhO b5,gQ,b5];rw[<-bA];simp only[u0,gT];refine yV (L ns) (λk _ Y'=>∃wk,Fx D Y' [(18,B),(11,o)]/\box Y' (18,B)=V ⟨241,20,U,U,[w.c++[n0, .g 0 (11,o) 0 0,wk, .m bo<|L w.aQ.ay, .l [] U U]]⟩/\box Y' (11,o)=V ⟨239,0,U,U,[(mC 0<|ns.take k).map ent]⟩/\lI Y' 98 3 wk ((aR (ns.take k) 5).map aH8.c)/\∀q∈aA wk,bK D q/\q.1=45) ⟨.l [] U U,Fx.refl _ _,b5,em,lI.nil,aBY⟩ ?_;rintro k _ Y6 hk ⟨wk,T,f5,fm,gw,pw⟩;have bx:=T.len.trans ag;simp only[qz 25,au,gg,qz 47,qy 10,lX,bh];refine⟨λh=>⟨vp h,?_⟩,λh=>?_⟩;have z:=aL h;refine zm bx λv7 Y7 F7 N7 b7=>?_;refine stI (cs:=aH8.c<|gd ns k) b7 A rfl H λY8 F8 b8=>?_;have aw:box Y8 (5,v7)=V ⟨98,3,U,U,[aH8.c<|gd ns k]⟩:=b8;have E:Fx Y6 Y8 []:=(F7.trans F8).mono aUw;have g5:=E.kq f5;have gm:=E.kq fm;have bO:aN (V 3) (aH8.c<|gd ns k)=V (.a<|aH8.c<|gd ns k):=A;simp only[qz 12,bhO g5,gQ,g5,aw,bO];have bB:gd ns k∉ns.take k:=(by grind [ou,aNV,List.getElem_inj]);refine muV gm bB vB λY9 M cA=>?_;have ak:box Y9 (11,o)=V ⟨239,0,U,U,[(mC 0<|ns.take<|k+1).map ent]⟩:=(by grind [iJ,aNV]);have h5:=M.kq g5;have h8:=M.kq aw;have ae:=(gw.fx E O).fx M X;have aC:=Qg (ns:=ns) (kd:=5) z;have W:Fx D Y9 [(18,B),(11,o)]:=((T.trans E).trans M).mono O;have bz:=W.len.trans ag;simp+contextual only[qz 14,qy 16,eT,h8];constructor<;>intro hb;simp only[bhO h5,gQ,h5,Db];refine gD ae A H Z uT uT (by have:=fZ (λx:aH8=>Q<|x.kind=5)<|ns.take k;simp only[bJ,bZ,bhZ,aR] at*;grind) λG av ax u hi hp=>?_;have a1:((18,B):Id)∉aA wk:=X;have a0:((11,o):Id)∉aA wk:=X;have k5:=u.keep _ _ a1 h5;have km:=u.keep _ _ a0 ak;simp only[qz 18,bhO k5,eS,k5];refine stI (y:=1) (j:=17) (cs:=[G]) k5 (ms ax) A buk λa8 N m5=>?_;have bG:box a8 (18,B)=V ⟨241,20,U,U,[w.c++[n0, .g 0 (11,o) 0 0,G, .m bo<|L w.aQ.ay, .l [] U U]]⟩:=m5;have mm:=N.kq km;simp only[qz 20];refine dT A ?_;have aE:∀q∈aA G,bK D q/\q.1=45:=λq s=>bse;simp only[qz 45,au,aI,cS,aY];refine yU z ⟨G,?_,bG,mm,?_,aE⟩;refine((W.trans u).trans N).mono ?_;intro q s;simp only[dF,eW,ql,brT] at s⊢;grind [bK.no];have:=ax.fx N (λq s e=>by simp at e;subst e;have:=(aE _ s).2;simp at this);rw[aC,zg<|aNQ hb,dg];exact this;simp only[qz 45,au,aI,cS,aY];refine yU z ⟨wk,W,h5,ak,?_,pw⟩;rwa [aC,za<|bsX hb,cL];have bs:k=L ns:=X;subst bs;rw[gV] at fm gw;have bg:=T.kq e1;simp only[bg,eT];have cu:∀q:Id,q∈aA wk->q≠bo:=X;have O6:lJ Y6 bo 25 3 73 (L w.aQ.ay) (pT w 0) (λ_=> .l [] U U):=(by refine⟨?_,(by grind [pT,fj,lI.nil]),bno,bno⟩;have:=T.keep _ _ (by simp;exact⟨aB.symm,aD.symm⟩) eo;rw[this,Q0];rfl);refine yV (L w.ac) (λk _ Y'=>∃f,Fx D Y' [(18,B),(11,o),bo]/\box Y' (18,B)=V ⟨241,20,U,U,[w.c++[n0, .g 0 (11,o) 0 0,wk, .m bo<|L w.aQ.ay, .l [] U U]]⟩/\box Y' (11,o)=V ⟨239,0,U,U,[(mC 0 ns).map ent]⟩/\lI Y' 98 3 wk ((aR ns 5).map aH8.c)/\lJ Y' bo 25 3 73 (L w.aQ.ay) (pT w k) f/\∀i,i<L w.aQ.ay->∀q∈aA (f i),bK D q) ⟨_,T.mono O,f5,fm,gw,O6,bno⟩ ?_;rintro k _ Y7 cz ⟨f,F7,p5,pm,az,O7,cv⟩;have ah:=F7.len.trans ag;simp only[qz 79,qy 22,au,gJ,bh];refine⟨λh2=>⟨vp h2,?_⟩,λh2=>?_⟩;have z:=aL h2;refine zm ah λv8 Y8 F8 N8 b8=>?_;refine stI (y:=7) (cs:=aP.c<|gd w.ac k) b8 A rfl H λY9 M b9=>?_;have bc:box Y9 (7,v8)=V ⟨71,7,U,U,[aP.c<|gd w.ac k]⟩:=b9;have v:Fx Y7 Y9 []:=(F8.trans M).mono aUw;have q5:=v.kq p5;have qm:=v.kq pm;have ae:=az.fx v O;have O9:=O7.keep v O O;have bz:=v.len.trans ah;have C:=(hN.1.named z).2;have al:(gd w.ac k).aq.toNat<L w.aQ.ay:=(be7 C.1 C.2);simp only[qz 24,qy 26,bhO q5,nq,q5,bc,rkC,O9.ix C,O9.ld al];have cF:=wF (l:=w.ac) (t:=(gd w.ac k).aq.toNat) (k:=k);refine anO (by':=8) (zs:=fB) (d:=73) (e:=3) (new:=[[iv k]]) O9 C A bkb aH4 O (by simp only[pT,bJ,bZ,bhZ];omega) λa p av f' ap ch af ha ci u ce=>?_;have r5:=af _ _ q5 aB<|.inl A;have rm:=af _ _ qm aD<|.inl A;have aV:lI av 98 3 wk ((aR ns 5).map aH8.c):=(ae.fx u λq s cG=>by grind [lJ.pl]);simp only[qz 30];refine dT ?_ ?_;have bE:=O9.pl _ al;obtain⟨_,r4⟩|⟨⟨k4,u4⟩,r4,_⟩:=O9.gr _ al;rw[r4];rfl;have h4:=bE (k4,u4) bno;simp only at h4;subst h4;rw[r4];rfl;simp only[au,cS,aY];have bk:(λj=>if j=(gd w.ac k).aq.toNat then pT w k j++[[iv k]] else pT w k j)=pT w (k+1):=(by funext j;have h0:=C.1;simp only[pT,Bb];by_cases hj:j=(gd w.ac k).aq.toNat;rw[zg hj,zg Z];simp;rw[za hj,za Z];simp);rw[bk] at ap;refine yU z ⟨f',?_,r5,rm,aV,ap,λi hi q s=>?_⟩;refine((F7.trans v).trans u).mono ?_;intro q s;simp only[dF,eW,ql,brT] at s⊢;grind [bK.no];grind [bK.old];obtain rfl:k=L w.ac:=X;have Nb:=N5.old<|(F.trans P).trans R;have Nm:=N3.old F;have a6:=No.old<|F.trans P;refine⟨(18,B),n0,wk,(11,o),bo,f,A,⟨p5,bC,⟨239,pm⟩,az,O7,lI.nil,ah,A,A,bq,λq s=>(pw q s).2,aBY⟩,?_,Nb,Nm,a6⟩;refine((F.trans a4).trans F7).mono ?_;grind [bK.no]
theorem bD.fx{Y Y' b w ns out n wk a bm bo f}(C:bD Y b w ns out n wk a bm bo f)(F:Fx Y Y' []):bD Y' b w ns out n wk a bm bo f:=by obtain⟨t,c⟩:=C.mp;exact⟨F.kq C.bx,C.nm,bsq,C.gw.fx F O,C.ow.keep F O O,C.gr.fx F O,F.len.trans C.le,C.sb,C.sm,C.so,C.sw,C.sa⟩
section
variable{Y:ae}{b:Id}{w:am}{ns:List aH8}{out:List (eu)}{n wk a:AV}{bm bo:Id}{f:Nat->AV}{d:Nat}{K:be}
theorem aDD(C:bD Y b w ns out n wk a bm bo f)(q:L ns<100000){x}(m:x∈ns):∃r g,(r=iv (dP ns x)/\Fx Y g [])/\cZ aS GG 167 [.p b 0 0, .a<|aH8.c x] Y r g:=aKh C.le A λs u j o nf k=>by have i:=j.fx [];have e:=C.fx i;have bx:=e.bx;obtain⟨t,l⟩:=e.mp;have h:aN (V 3) (aH8.c x)=V (.a<|aH8.c x):=A;have:ns.idxOf x<L ns:=X;simp only[bhO bx,gQ,bx,k,h,luV l m,aRf,aoz];grind [fX,aEl]
def lq(C:bD Y b w ns out n wk a bm bo f)(g:L ns<100000){x}(h:x∈ns)(e:K (iv<|dP ns x) Y):cB 167 [.p b 0 0, .a<|aH8.c x] Y d K:=aS2 A (aDD C g h) e
end
def apu:dO:=(36,aSc)::apt
def sg:eJ apu:=asq (rj NP)<|Ey
def Lc:=ai @ax3<|@Lb
def aJ8{a a1 b}:=yB sg func95 at1 [a,a1,b]
def aKd{a a1}:=yB sg func94 at1 [a,a1]
def aKe{a a1}:=yB sg func164 at1 [a,a1]
def asF:=I9 0 []
def aJ6{a a1}:=yB sg func91 asF [a,a1]
def asY:=I9 7 []
def aKp{a a1}:=yB sg func165 asY [a,a1]
def asZ:=I9 12 [(4,([7,13],[0,1,11,12])),(7,([7],[0,1,11,12,13]))]
def CN a(I2:aG)(c:bu) f b d:=Rg->aV (gt a 1) (iv 1) λe=>I2 [gt b 0,e] d/\c [gt b 0,e] d<c a f
def bw8 a K d e a1(f:aG):=ao 1 a K (gt d 1) λM=>aM a M λN=>rV (cO a e) λi=>aB 0 a i λj=>aB 7 a j λk=>Qfl 6 a k λl=>ao 1 a l a1 λm=>aM a m λn=>aO .sub N n λc=>aO .geq c (iv 0) λb=>Qct b c λo=>Qct b e λp=>Qot b (rV<|cO a p) λq=>aT b 18 a q λr=>Qct b a1 λs=>Qot b (ao 1 a r s) λt=>Qot b (aM a t) λu=>Qot b (aJ a u) λv=>Qot b (aU o v) λw=>aD b w (bv I) λx=>ah x (rV (cO a e) λy=>Qfl 18 a y λz=>ao 1 a z a1 λB=>aM a B λC=>ao 1 a C c λD=>aM a D λE=>eV (aX bH 1 a [(0,E)]) λF g=>eV (apA 3 fB 8 g 54 (gt d 0) F) λG h=>f [G] h)<|f [gt d 0] a
def Xr t1 d c a1 R I2 e a b:=Rg->aU (gt a 1) t1 λt4=>ah t4 (jV 7 (CN a I2 e b)<|bw8 b d a c a1)<|aRf R b [gt a 0]
def HG b a1 a s0 R:=aJ s0 a λt1=>lV [.l [] U U,iv 0] s0<|Xr t1 a b a1 R
def aKq{a a1 b:AV}{s0:ae}{R:be}(hs:L s0=4096)(h:HG a a1 b s0 R):EB 163 [a,a1,b] s0 R:=zB asZ sg func163 h
def as9:=I9 11 [(4,([5,13],[0,1,11,12])),(7,([5],[0,1,11,12,13]))]
def aKA{a a1}:=yB sg func92 as9 [a,a1]
def as8:=I9 12 [(4,([7],[0,6]))]
def aKz{a a1}:=yB sg func90 as8 [a,a1]
def as2:=I9 16 [(4,([22],[5,20,21]))]
def aKt{a a1}:=yB sg func240 as2 [a,a1]
section
variable{Y:ae}{b:Id}{w:am}{ns:List aH8}{out:List (eu)}{n wk a:AV}{bm bo:Id}{f:Nat->AV}{d:Nat}{K:be}
def av9{k x y:Int}:bM mc aM7 [(0,iv k),(1,iv x),(2,iv y)]=V (.a<|aH8.c ⟨k,x,y⟩):=rfl
def als{k x:Int}:bM mc aM7 [(0,iv k),(1,iv x)]=V (.a<|aH8.c ⟨k,x,0⟩):=rfl
def aDw(C:bD Y b w ns out n wk a bm bo f)(e:L ns<100000){x y:Int}(g:(⟨1,x,y⟩:aH8)∈ns):∃r c,(r=iv (lB ns x y)/\Fx Y c [])/\cZ aS GG 95 [.p b 0 0,iv x,iv y] Y r c:=aJ8 C.le<|by simp only[qy 2,av9,aY];exact lq C e g ⟨A,Fx.refl _ _⟩
def kg(C:bD Y b w ns out n wk a bm bo f)(e:L ns<100000){x y:Int}(g:(⟨1,x,y⟩:aH8)∈ns)(c:K (iv<|lB ns x y) Y):cB 95 [.p b 0 0,iv x,iv y] Y d K:=aS2 A (aDw C e g) c
def aDA(C:bD Y b w ns out n wk a bm bo f)(e:L ns<100000){x:Int}(g:(⟨2,x,0⟩:aH8)∈ns):∃r c,(r=iv (lE ns x)/\Fx Y c [])/\cZ aS GG 94 [.p b 0 0,iv x] Y r c:=aKd C.le<|by simp only[qy 2,als,aY];exact lq C e g ⟨A,Fx.refl _ _⟩
def bpl(C:bD Y b w ns out n wk a bm bo f)(e:L ns<100000){x:Int}(g:(⟨2,x,0⟩:aH8)∈ns)(c:K (iv<|lE ns x) Y):cB 94 [.p b 0 0,iv x] Y d K:=aS2 A (aDA C e g) c
def aDB(C:bD Y b w ns out n wk a bm bo f)(e:L ns<100000){x:Int}(g:(⟨3,x,0⟩:aH8)∈ns):∃r c,(r=iv (lF ns x)/\Fx Y c [])/\cZ aS GG 164 [.p b 0 0,iv x] Y r c:=aKe C.le<|by simp only[qy 2,als,aY];exact lq C e g ⟨A,Fx.refl _ _⟩
def AQ(C:bD Y b w ns out n wk a bm bo f)(e:L ns<100000){x:Int}(g:(⟨3,x,0⟩:aH8)∈ns)(c:K (iv<|lF ns x) Y):cB 164 [.p b 0 0,iv x] Y d K:=aS2 A (aDB C e g) c
theorem bD.ne{q x}(C:bD Y b w ns out n wk a bm bo f)(c:box Y q=V x)(e:x.var=U\/x.elem≠25):q∉aA a:=λh=>by
 have:=C.gr.ids q h
 grind
def bD.na(C:bD Y b w ns out n wk a bm bo f):b∉aA a:=C.ne C.bx<|.inl A
theorem bD.upd{Y' out' e}(C:bD Y b w ns out n wk a bm bo f)(F:Fx Y Y'<|aA a++[b])(p:box Y' b=V ⟨241,20,U,U,[w.c++[n, .g 0 bm 0 0,wk, .m bo<|L w.aQ.ay,e]]⟩)(r:lI Y' 25 1 e<|out'.map λc=>[sl ci c])(o:∀k∈aA e,k.1=12):bD Y' b w ns out' n wk e bm bo f:=by have⟨t,s⟩:=C.mp;have j:∀{q:Id} {x:bY},box Y q=V x->x.var=U\/x.elem≠25->q.1≠18->q∉aA a++[b]:=(by grind [bD.ne,bD.sb]);refine⟨p,C.nm,(by grind [Fx.keep,bD.sm]),C.gw.fx F λq h=>j (C.gw.ids q h) (.inr O) (by grind [bD.sw]),C.ow.keep F (j C.ow.bx (.inl A)<|by rw[C.so];decide)<|λi l q h=>j ((C.ow.gr i l).ids q h) (.inr O)<|by rw[C.ow.pl i l q h];decide,r,F.len.trans C.le,C.sb,C.sm,C.so,C.sw,o⟩
theorem aDu(C:bD Y b w ns out n wk a bm bo f)(ho:L out<1000000000){x c}(hx:dG Y x= .l (c.map ci) I I)(hc:L c<1000000)(hp:(∃r t o,x= .l r t o)\/∃k m,x= .m k m/\k.1≠18):∃r u,(∃a1,r= .t []/\bD u b w ns (out++[c]) n wk a1 bm bo f/\Ad Y u b a a1)/\cZ aS GG 91 [.p b 0 0,x] Y r u:=aJ6 C.le<|by have bx:=C.bx;simp only[bhO bx,gQ,bx];refine Kr (bA:=c.map ci) hx fF X bv9 (by rw[C.le];decide) λz u g1 R F=>?_;have:=C.fx R;simp only[qz 2,qy 4];rw[show byk=[.l [] I I] from A];refine bsI g1 λY2 F2=>?_;have:∀k∈aA a,k∉aA z:=λk N s=>(F k s).1.no _<|C.gr.ids k N;have:b∉aA z:=λs=>(F b s).1.no _ C.bx;have D:Fx Y Y2 []:=(R.trans F2).mono aUw;have g:=C.fx D;refine gD g.gr A H (by rw[g.le];decide) O O NA λB Y3 W S hi hs=>?_;have G:=S.keep _ _ g.na g.bx;simp only[qz 6,bhO G,eS,G];refine stI (y:=1) (j:=19) (cs:=[B]) G (ms W) A buk λY4 T b4=>?_;simp only[qz 8];have E:=S.trans T;have M:∀q∈aA B,q∉[b]:=λq P e=>(by simp at e;subst e;obtain h|h:=hi q P;exact C.na h;exact h.no _ g.bx);have hA:Ad Y Y4 b a B:=(by refine⟨(D.trans E).mono ?_,bse⟩;grind);refine dT ?_ ⟨B,A,g.upd E b4 (out':=out++[c]) (by rw[dg];exact W.fx T M)<|λq P=>(hs q P).elim (g.sa q) id,hA⟩;have i:=C.sb;have⟨b1,b2⟩:=b;simp only at i;subst i;have aa:(∃r t o,z= .l r t o)\/∃v m,z= .m (10,v) m:=(by obtain⟨_,h⟩|⟨⟨k1,k2⟩,h,_⟩:=g1;grind;have:=(F (k1,k2)<|by rw[h];simp[aA]).2;grind);obtain⟨r,t,o,rfl⟩|⟨⟨k1,k2⟩,m,rfl,N⟩:=hp<;>obtain⟨r',t',o',rfl⟩|⟨v,m',rfl⟩:=aa<;>simp[eL,lb,aNG,dC,dK]<;>(try exactλe=>N e)<;>(omega)
def anw(C:bD Y b w ns out n wk a bm bo f)(s:L out<1000000000){x c}(v:dG Y x= .l (c.map ci) I I)(q:L c<1000000)(u:(∃r t o,x= .l r t o)\/∃k m,x= .m k m/\k.1≠18)(j:∀g e,bD e b w ns (out++[c]) n wk g bm bo f->Ad Y e b a g->K (.t []) e):cB 91 [.p b 0 0,x] Y d K:=jH A (aDu C s v q u)<|by rintro r e ⟨g,rfl,i,h⟩;exact⟨h.fx.len,j g e i h⟩
def bnk(C:bD Y b w ns out n wk a bm bo f)(j:L out<1000000000)(c)(i:L c<1000000){t o}(h:∀g e,bD e b w ns (out++[c]) n wk g bm bo f->Ad Y e b a g->K (.t []) e):cB 91 [.p b 0 0, .l (c.map ci) t o] Y d K:=anw C j A i O h
def avK{e z x bA}(h:lI Y e z x bA):dG Y x= .l bA I I:=by obtain⟨rfl,rfl⟩|⟨k,rfl,c⟩:=h;rfl;simp[dG,eR,aTH,c,nrm,gK]
theorem qB{x l}{k:Nat}{K}(e:lI Y 98 3 x<|l.map aH8.c)(i:k<L l):(rV (cz 3 Y x<|iv k) λt=>rV (sA (V 3) Y t) K)=K (.a<|aH8.c<|gd l k):=by obtain⟨g,_⟩|⟨b,rfl,h⟩:=e;simp_all;simp_all [cz,rV,sA,iE,aN,aNV,aH8.c]
def gO(ns l:List aH8)(y:Int):eu:=(l.filter λv=>Q<|v.b=y).map<|dP ns
theorem aMV{ns l}{y:Int}{k:Nat}(h:k<L l):gO ns (l.take<|k+1) y=gO ns (l.take k) y++(if(gd l k).b=y then[dP ns<|gd l k] else[]):=by grind [iJ,gO,aNV]
theorem aDX(C:bD Y b w ns out n wk a bm bo f)(S:L ns<100000)(y:Int):∃r g,(lI g 3 1 r ((gO ns (aR ns 5) y).map ci)/\Fx Y g []/\∀b∈aA r,bK Y b)/\cZ aS GG 92 [.p b 0 0,iv y] Y r g:=aKA C.le<|by have bx:=C.bx;have u:L (aR ns 5)<=L ns:=fZ _ _;have o:∀x∈aR ns 5,x∈ns:=λx T=>(jW.1 T).1;simp only[bhO bx,gQ,bx,lnI C.gw,bJ];have m:=C.gw;generalize aR ns 5=l at u o m;refine yW (L l) (λk r Y'=>lI Y' 3 1 r ((gO ns (l.take k) y).map ci)/\Fx Y Y' []/\∀b∈aA r,bK Y b) (s0:= .l [] U U) ⟨lI.nil,Fx.refl _ _,aBY⟩ ?_;rintro k r g R ⟨g1,i,s⟩;have z:=i.len.trans C.le;simp only[qz 25,au,eQ,qz 47,qy 2];constructor<;>intro h;have e:=aL h;rw[qB (m.fx i O) e];refine zm z λv Y2 D W M=>?_;refine stI (cs:=aH8.c<|gd l k) M A rfl H λq E N=>?_;have t:box q _=V ⟨98,3,U,U,[aH8.c<|gd l k]⟩:=N;have j:Fx g q []:=(D.trans E).mono aUw;have F:Fx Y q []:=i.trans j;have P:=g1.fx j O;have:=aMV (ns:=ns) (y:=y) e;have B:aN (V 3) (aH8.c<|gd l k)=V (.a<|aH8.c<|gd l k):=A;simp+contextual only[qz 4,eT,t,B];have:L (gO ns (l.take k) y)<=k:=(by grind [gO]);constructor<;>intro hb;refine lq (C.fx F) S (o _<|dB e) ?_;simp only[qz 6,qy 8,qy 10,iz,bQ,au];refine gD (new:=[[iv<|dP ns<|gd l k]]) P A H bkb fF O X λa4 Y4 g4 G hi _=>?_;simp only[qz 45,au,eQ];refine yX e ⟨?_,(F.trans G).mono aUw,λk R=>?_⟩;simp_all;grind [bK.old];simp only[qz 45,au,eQ];refine yX e ⟨?_,F,s⟩;simp_all;rw[oB<|dge h] at g1;exact⟨g1,i,s⟩
def anC(C:bD Y b w ns out n wk a bm bo f)(e:L ns<100000)(y:Int)(c:∀t,K (.l ((gO ns (aR ns 5) y).map ci) t U) Y):cB 92 [.p b 0 0,iv y] Y d K:=bvL A (aDX C e y) c
theorem aDO(C:bD Y b w ns out n wk a bm bo f)(hw:L w.ac<1000000){j:Int}(hj:aF (L w.ac) j):∃r m,(r=iv (kr w j)/\Fx Y m [])/\cZ aS GG 240 [.p b 0 0,iv j] Y r m:=aKt C.le<|by have bx:=C.bx;simp only[qy 2,bhO bx,jT,bx];refine⟨hj,?_⟩;refine zm C.le λv3 s3 G N3 P=>?_;refine stI (y:=7) (cs:=aP.c<|gd w.ac j.toNat) P A rfl H λt M R=>?_;have B:box t (5,v3)=V ⟨71,7,U,U,[aP.c<|gd w.ac j.toNat]⟩:=R;have l:Fx Y t []:=(G.trans M).mono aUw;have u:=C.fx l;have q:=u.bx;simp only[qz 4,bhO q,gQ,q];refine yV (L w.ac) (λk _ Y'=>Fx t Y' []/\∀i,i<k->pV (gd w.ac j.toNat) (gd w.ac i)=I) ⟨Fx.refl _ _,O⟩ ?_;rintro k _ m hk ⟨e,W⟩;have D:=e.len.trans u.le;have S:=e.kq B;simp+contextual only[qz 25,qy 6,au,gJ,bh];refine⟨λh=>⟨vp h,?_⟩,λh=>?_⟩;have E:=aL h;refine zm D λv Y2 F N2 N=>?_;refine stI (y:=7) (cs:=aP.c<|gd w.ac k) N A rfl H λo x z=>?_;have s:box o (7,v)=V ⟨71,7,U,U,[aP.c<|gd w.ac k]⟩:=z;have g:Fx m o []:=(F.trans x).mono aUw;have T:=g.kq S;simp+contextual only[qz 8,eT,s,T,aRf,aoz];have FF:Fx Y o []:=(l.trans e).trans g;have ae:pV (gd w.ac j.toNat) (gd w.ac k)=U->iv (k:Int)=iv (kr w j)/\Fx Y o []:=(by grind [kr,KW]);refine⟨(by grind [pV]),λh1=>⟨(by grind [pV]),λh2=>⟨(by grind [pV]),λh3=>?_⟩⟩⟩;exact yU E ⟨e.trans g,by grind [pV]⟩;have:=KX (p:=λi=>pV (gd w.ac j.toNat)<|gd w.ac i) (n:=L w.ac) (λi hi=>W i<|bpL hi<|dge h);simp only[kr,this,aRf,aoz];exact⟨trivial,l.trans e⟩
theorem aDW(C:bD Y b w ns out n wk a bm bo f)(hw:L w.ac<1000000){k:Int}(o:aF (L w.ac) k)(B:aF (L w.init.eB.ay) (gd w.ac k.toNat).aq)(R:L w.init.eB.ay<1000000):∃r e,((∃v,r= .t [iv v,bv (brz w k).2]/\((brz w k).2=U->v=(brz w k).1))/\Fx Y e [])/\cZ aS GG 90 [.p b 0 0,iv k] Y r e:=aKz C.le<|by have bx:=C.bx;have:=o.1;have:=o.2;have:=B.1;have:=B.2;simp only[bhO bx,jT,bx];refine⟨o,?_⟩;rw[eM Z Z];refine⟨λvs Y'=>∃i:Nat,vs=[iv<|(i:Int)-1]/\i<=k.toNat/\Fx Y Y' []/\bua w.ac (gd w.ac k.toNat).aq i=bua w.ac (gd w.ac k.toNat).aq k.toNat,λvs _=>match vs with|[.s (.int _ i)]=>(i+1).toNat|_=>0,(by grind [Fx.refl]),?_⟩;rintro vs e ⟨i,rfl,hi,m,W⟩;have q:=C.fx m;have j:=q.bx;simp only[qz 25,qy 2,au,bhO j,jT,j,dc];constructor<;>intro h;simp only[awG] at h;obtain⟨i,rfl⟩:∃P,i=P+1:=⟨i-1,Z⟩;have M:((i+1:Nat):Int)-1=(i:Int):=Z;rw[M];have z:aF (L w.ac) (i:Int):=⟨Z,Z⟩;refine⟨z,?_⟩;rw[bh];refine zm q.le λv T D S F=>?_;refine stI (y:=7) (cs:=aP.c<|gd w.ac i) F A rfl H λu E G=>?_;have x:box u (8,v)=V ⟨71,7,U,U,[aP.c<|gd w.ac i]⟩:=G;have g:Fx e u []:=(D.trans E).mono aUw;simp+contextual only[qz 4,eT,x,aRf,aoz];constructor<;>intro N;simp only[bN,awG] at N;have l:bua w.ac (gd w.ac k.toNat).aq k.toNat=V i:=(by grind [bua]);refine⟨⟨(i:Int),?_,λ_=>?_⟩,m.trans g⟩;simp[brz,l];simp[brz,l];rw[eM Z Z];refine⟨⟨i,A,Z,m.trans g,?_⟩,Z⟩;grind [bua];simp only[aPs] at h;obtain rfl:i=0:=Z;grind [bua,eM,aRf,aoz,brz]
def awL{fn xs}{Q:J3}(l:uQ.elem fn=U)(k:∀r,Q r->∃v u,r= .t [.s v, .s u])(h:∃r c,(Q r/\Fx Y c [])/\cZ aS GG fn xs Y r c)(j:∀r,Q r->K r Y):cB fn xs Y d K:=by have⟨r,c,⟨e,g⟩,i⟩:=h;obtain⟨v,u,rfl⟩:=k r e;refine⟨_,c,i,g.len,?_⟩;rw[zg<|show GG.rd fn=U from l];exact⟨g.kp,A,j _ e⟩
def aEi(C:bD Y b w ns out n wk a bm bo f)(g:L w.ac<1000000){j:Int}(e:aF (L w.ac) j)(c:K (iv<|kr w j) Y):cB 240 [.p b 0 0,iv j] Y d K:=aS2 A (aDO C g e) c
theorem anB(C:bD Y b w ns out n wk a bm bo f)(h:L w.ac<1000000){k:Int}(e:aF (L w.ac) k)(g:aF (L w.init.eB.ay) (gd w.ac k.toNat).aq)(c:L w.init.eB.ay<1000000)(i:∀v,((brz w k).2=U->v=(brz w k).1)->K (.t [iv v,bv (brz w k).2]) Y):cB 90 [.p b 0 0,iv k] Y d K:=awL (Q:=λr=>∃v,r= .t [iv v,bv (brz w k).2]/\((brz w k).2=U->v=(brz w k).1)) A vB (aDW C h e g c) vB
def be8(l:List aP)(t:Int)(k:Nat):eu:=(fj l t k).map λ(j:Nat)=>(j:Int)
theorem wE{l}{t:Int}{k:Nat}:L (be8 l t k)=L (fj l t k):=by simp[be8]
theorem Ba{l t k}:be8 l t (k+1)=be8 l t k++if(gd l k).aq=t then[(k:Int)] else[]:=by grind [be8,Bb]
theorem bww{w k t}:pT w k t=(be8 w.ac t k).map ci:=by simp[pT,be8,vA,Function.comp_def]
theorem QC{l t j}:∀{k},j<=k->∃r,be8 l t k=be8 l t j++r
 |0,h=>vB
 |k+1,h=>by
  obtain c|c:=jj j<|k+1
  ·have⟨r,e⟩:=QC (l:=l) (t:=t) (show j<=k by omega)
   grind [Ba]
  ·exact⟨[],X⟩
def aEY{l t k}:∀x∈be8 l t k,0<=x/\x<k:=λx e=>by obtain⟨j,c,rfl⟩:=dN.1 e;have:=fq.1 (jW.1 c).1;omega
theorem QI{l}{t:Int}:∀{k:Nat},qT l t k=if 0<L (be8 l t k) then gd (be8 l t k) (L (be8 l t k)-1) else-1
 |0=>by simp[qT,be8,fj]
 |k+1=>by
  rw[qT,Ba]
  by_cases h:(gd l k).aq=t
  ·grind [gd]
  ·rw[za h,za h,cL]
   exact QI
theorem aE5{c r}{x:Int}(h:x∉c):oW (c++x::r) x=L c:=by grind [oW]
def bxw{p:Prop}(h:p:=by rw[Go.Ab.wE];exact Go.Ab.wF):p:=h
theorem aDL(C:bD Y b w ns out n wk a bm bo f)(y:L w.ac<1000000){j:Int}(k:aF (L w.ac) j)(e:aF (L w.aQ.ay) (gd w.ac j.toNat).aq):∃r o,(r=iv (bs3 w.ac j)/\Fx Y o [])/\cZ aS GG 165 [.p b 0 0,iv j] Y r o:=aKp C.le<|by have bx:=C.bx;have g:(gd w.ac j.toNat).aq.toNat<L w.aQ.ay:=(be7 e.1 e.2);have v:=bsR e.1;have i:=C.ow.gr _ g;rw[bww,v] at i;have s:=k.1;have:=k.2;have u:=bsR s;obtain⟨r,c⟩:=QC (l:=w.ac) (t:=(gd w.ac j.toNat).aq) (show j.toNat+1<=L w.ac by omega);rw[Ba,zg A,bje,u] at c;have m:oW (be8 w.ac (gd w.ac j.toNat).aq<|L w.ac) j=L (be8 w.ac (gd w.ac j.toNat).aq j.toNat):=(by rw[c];exact aE5 λx=>by have:=(aEY _ x).2;omega);have:L (be8 w.ac (gd w.ac j.toNat).aq<|L w.ac)<=L w.ac:=bxw;have:L (be8 w.ac (gd w.ac j.toNat).aq j.toNat)<=j.toNat:=bxw;simp only[bhO bx,jT,bx];refine⟨k,?_⟩;simp only[C.ow.ix e,C.ow.ld g,aY,jM,kU,jt,tW,avK i];rw[show AV.l ((be8 w.ac (gd w.ac j.toNat).aq<|L w.ac).map ci) I I=sl ci (be8 w.ac (gd w.ac j.toNat).aq<|L w.ac) from A];simp only[Lc,AL,jZ,m];refine⟨Z,λh=>?_,λh=>?_⟩;simp only[awG] at h;rw[eM Z Z];have q:aF (L<|be8 w.ac (gd w.ac j.toNat).aq<|L w.ac) ((L (be8 w.ac (gd w.ac j.toNat).aq j.toNat):Int)-1):=(by rw[c];simp only[a6G,bZ];exact⟨Z,Z⟩);simp only[Dw i q,aRf,aoz];refine⟨?_,Fx.refl _ _⟩;rw[bs3,QI,zg Z,c];congr 1;have:(((L (be8 w.ac (gd w.ac j.toNat).aq j.toNat):Int)-1).toNat)=L (be8 w.ac (gd w.ac j.toNat).aq j.toNat)-1:=Z;grind [gd];grind [aRf,aoz,Fx.refl,bs3,QI]
def anA(C:bD Y b w ns out n wk a bm bo f)(h:L w.ac<1000000){j:Int}(e:aF (L w.ac) j)(g:aF (L w.aQ.ay) (gd w.ac j.toNat).aq)(c:K (iv<|bs3 w.ac j) Y):cB 165 [.p b 0 0,iv j] Y d K:=aS2 A (aDL C h e g) c
theorem alO{l}{u:Int}:∀{k:Nat},k<=L l->lU l u k=L (be8 l u k)
 |0,_=>by simp[lU,be8,fj]
 |k+1,h=>by
  rw[alN Z,Ba,a6G,alO Z]
  grind
theorem Q7{p k}:fw p (k+1)=fw p k++if p k=U then[(k:Int)] else[]:=by grind [fw,qn]
theorem Er{w}{u x:Int}:∀{k:Nat},k<=L w.ac->fw (lm w u x) k=if 0<=x-gd w.init.count u.toNat/\x-gd w.init.count u.toNat<(L (be8 w.ac u k):Int) then[gd (be8 w.ac u k) (x-gd w.init.count u.toNat).toNat] else[]
 |0,_=>by simp[fw,be8,fj]
 |k+1,h=>by
  have g:=Er (w:=w) (u:=u) (x:=x) (k:=k) Z
  have e:=alO (l:=w.ac) (u:=u) (k:=k) Z
  generalize o:x-gd w.init.count u.toNat=m at g⊢
  rw[Ba]
  by_cases c:(gd w.ac k).aq=u
  ·rw[zg c,a6G,GJ]
   by_cases i:m=L (be8 w.ac u k)
   ·have j:lm w u x k=U:=by simp only[lm,c,e,bqQ,iw,awG];omega
    rw[Q7,zg j,g,za Z,zg Z,i]
    simp[gd]
   ·have:lm w u x k=I:=by simp only[lm,c,e,bqQ,iw,aPs];omega
    grind [Q7,gd]
  grind [lm,Q7]
theorem DT{w}{u:Int}{l}{k:Nat}(h:k<L l):btu w u l (k+1)=btu w u l k++fw (lm w u<|gd l k) (L w.ac):=by grind [btu,iJ,aNV]
theorem aDM(C:bD Y b w ns out n wk a bm bo f)(hw:L w.ac<=16){u:Int}{l}(hl:L l<100000)(t:aF (L w.aQ.ay) u)(ab:L w.init.count=L w.aQ.ay)(aa:0<=gd w.init.count u.toNat/\gd w.init.count u.toNat<=400)(W:∀x∈l,-1000<=x/\x<=1000):∃r g,(lI g 3 1 r ((fg w u l).map ci)/\Fx Y g []/\∀b∈aA r,bK Y b)/\cZ aS GG 163 [.p b 0 0,iv u,sl ci l] Y r g:=aKq C.le<|by have y:u.toNat<L w.aQ.ay:=(be7 t.1 t.2);have G:=bsR t.1;simp only[HG,eQ,↓uL];refine yW (L l) (λk r Y'=>lI Y' 3 1 r ((btu w u l k).map ci)/\L (btu w u l k)<=k/\Fx Y Y' []/\∀b∈aA r,bK Y b) (s0:= .l [] U U) ⟨lI.nil,by simp[btu],Fx.refl _ _,aBY⟩ ?_;rintro k r g S ⟨g1,ad,s,B⟩;have j:=C.fx s;have bx:=j.bx;have ae:=j.le;have z:=j.ow.gr _ y;rw[bww,G] at z;have M:aF (L w.init.count) u:=vB;simp only[Xr,au,jT,bw8,bhO bx,bx,bh,dc,↓uL];refine⟨λh=>⟨vp h,M,?_⟩,λh=>?_⟩;have c:=aL h;have af:=W _<|dB c;have e:=Er (w:=w) (u:=u) (x:=gd l k) (k:=L w.ac)<|dA _;have T:L (be8 w.ac u<|L w.ac)<=L w.ac:=bxw;generalize hm:gd l k-gd w.init.count u.toNat=m at e⊢;have N:dq.wrap m=m:=brE;rw[N];have E:fS g (f u.toNat)=V (iv<|L<|be8 w.ac u<|L w.ac):=(by rw[lnI z,bJ]);have v:¬(0<=m/\m<(L (be8 w.ac u<|L w.ac):Int))->CN [r,iv k] (yI (λa i=>[a,iv i]) (L l) λk r Y'=>lI Y' 3 1 r ((btu w u l k).map ci)/\L (btu w u l k)<=k/\Fx Y Y' []/\∀b∈aA r,bK Y b) (gM 1<|L l) g [r] g:=(λF=>by simp only[CN,au,eQ,↓uL];refine yX c ⟨?_,?_,s,B⟩;rwa [DT c,e,za F,cL];rw[DT c,e,za F,cL];omega);by_cases q:0<=m;have P:=bsi q;simp only[gQ,P,bhO bx,bx,j.ow.ix t,j.ow.ld y,E];refine⟨λD=>?_,λD=>v vB⟩;have o:aF (L<|be8 w.ac u<|L w.ac) m:=⟨q,by simpa using D⟩;simp only[Dw z o,iz,bQ];refine gD (new:=[[iv<|gd (be8 w.ac u<|L w.ac) m.toNat]]) g1 A H Z fF O X λa4 Y4 g4 R hi _=>?_;simp only[CN,au,eQ,↓uL];refine yX c ⟨?_,?_,(s.trans R).mono aUw,λk S=>?_⟩;rwa [DT c,e,zg ⟨q,o.2⟩,dg];rw[DT c,e,zg ⟨q,o.2⟩];simp;omega;grind [bK.old];simp only[u0,bqN q,jN,show∀x,mL (bv I) x (bv I)=V (bv I) fromλ_=>A,eE,im];exact v Z;have:k=L l:=X;subst this;exact⟨g1,s,B⟩
def Qp(C:bD Y b w ns out n wk a bm bo f)(j:L w.ac<=16){u:Int}{l}(h:L l<100000)(i:aF (L w.aQ.ay) u)(e:L w.init.count=L w.aQ.ay)(c:0<=gd w.init.count u.toNat/\gd w.init.count u.toNat<=400)(k:∀x∈l,-1000<=x/\x<=1000)(g:∀t,K (.l ((fg w u l).map ci) t U) Y):cB 163 [.p b 0 0,iv u,sl ci l] Y d K:=bvL A (aDM C j h i e c k) g
end
def apv:dO:=apu
def tB:eJ apv:=sg
def aBo:=@Lc
def asX:=I9 32 [(3,([16],[0,2,15])),(9,([4],[0,2,3,15,16])),(15,([39],[0,2,38])),(18,([],[0,2,38,39])),(24,([66],[0,65])),(27,([],[0,65,66]))]
def aKo{a}:=yB tB func155 asX [a]
def as3:=I9 26 [(2,([],[0,4,5,6])),(8,([55],[0,4,5,6,53,54])),(15,([11],[0,4,5,6,10])),(18,([85],[0,4,5,6,10,11,83,84])),(21,([],[0,4,5,6,10,11,83,84,85]))]
def aKu{c b}:=yB1 98 3 3 tB func249 as3 b [c, .a b]
def aKf{d b c}:=yB2 319 4 4 319 4 5 tB func241 auF b c [d, .a b, .a c]
def aKb{d b c}:=yB2 319 4 4 319 4 5 tB func242 ato b c [d, .a b, .a c]
def asJ:=I9 12 [(1,([12],[0,10,11])),(7,([24],[0,2,10,11,12,22,23]))]
def aKa{a}:=yB tB func162 asJ [a]
def asG:=I9 19 [(1,([14],[0,12,13])),(4,([],[0,12,13,14])),(13,([46],[0,2,4,12,13,14,44,45])),(16,([],[0,2,4,12,13,14,44,45,46]))]
def aJ7{a}:=yB tB func160 asG [a]
def asI:=I9 31 [(2,([4],[0,3])),(7,([4,5,43],[0,3,41,42])),(10,([4,5],[0,3,41,42,43])),(12,([4],[0,3,5,7,41,42,43])),(18,([8,98],[0,3,4,5,96,97])),(25,([114],[0,3,4,112,113]))]
def aJ9{c b}:=yB1 98 3 3 tB func248 asI b [c, .a b]
def aKm{a a1}:=yB tB func89 aur [a,a1]
structure jb(w:am)(ns:List aH8):Prop where
 ln:L ns<100000
 bf:∀x y:Int,aF (L w.ac) x->aF (L w.ac) y->x≠y->(⟨1,x,y⟩:aH8)∈ns
 ex:∀x:Int,aF (L w.ac) x->(⟨2,x,0⟩:aH8)∈ns
 fx:∀x:Int,aF (L w.ac) x->fR (gd w.ac x.toNat)=U->(⟨3,x,0⟩:aH8)∈ns
def anX{l t}:∀{k},qT l t k<k
 |0=>by simp[qT]
 |k+1=>by
  rw[qT]
  split
  ·omega
  ·have:=anX (l:=l) (t:=t) (k:=k);omega
def anW{w:am}{j:Nat}:bs3 w.ac j<j:=by simp_all [anX,bs3]
def azY{p}:∀{n},0<=uo p n->uo p n<n/\p (uo p n).toNat=U:=by intro n h;by_cases m:∃i,i<n/\p i=U;obtain⟨i,o,q⟩:=m;have c:∃k,k<n/\p k=U/\∀j,j<k->p j=I:=(by induction i using Nat.strongRecOn with|_ i r=>grind);obtain⟨k,l,g,e⟩:=c;rw[KW l g e];simp_all;grind [KX]
def aIp{w}{j:Nat}(h:0<=kr w j):aF (L w.ac) (kr w j)/\kr w j≠j:=by obtain⟨c,g⟩:=azY h;refine⟨⟨h,c⟩,λe=>?_⟩;grind [pV,kr]
section
variable{Y:ae}{b:Id}{w:am}{ns:List aH8}{out:List (eu)}{n wk a:AV}{bm bo:Id}{f:Nat->AV}{d:Nat}{K:be}
def mS(Y:ae)(b:Id)(w:am)(ns:List aH8)(out cl:List<|eu)(n wk a:AV)(bm bo:Id)(f:Nat->AV):be:=λr c=>∃a1,r= .t []/\bD c b w ns (out++cl) n wk a1 bm bo f/\Ad Y c b a a1
def bs1{fn xs cl}(k:uQ.elem fn=I)(h:∃r c,mS Y b w ns out cl n wk a bm bo f r c/\cZ aS GG fn xs Y r c)(j:∀e c,bD c b w ns (out++cl) n wk e bm bo f->Ad Y c b a e->K (.t []) c):cB fn xs Y d K:=jH k h<|by rintro r c ⟨e,rfl,i,g⟩;exact⟨g.fx.len,j e c i g⟩
theorem aDI(C:bD Y b w ns out n wk a bm bo f)(M:jb w ns)(o:∀k,k<L w.ac->aF (L w.aQ.ay) (gd w.ac k).aq)(D:L w.ac<=16)(B:L out<100000000){x:Int}(c:aF (L w.ac) x):∃r g,mS Y b w ns out (jc ns w x) n wk a bm bo f r g/\cZ aS GG 89 [.p b 0 0,iv x] Y r g:=by have i:=M.ln;have q:=c.1;have:=c.2;have s:=bsR q;refine aKm C.le ?_;refine bpl C i (M.ex _ c) ?_;simp only[qz 2,qy 4,de i,aY,a5Y,bQ];refine bnk C Z [_] O λa1 g e l=>?_;simp only[qz 6];refine anA e Z c (o _ Z) ?_;simp only[qz 8,eQ];constructor<;>intro h;have v:=aNQ h;have m:=anW (w:=w) (j:=x.toNat);rw[s] at m;refine bpl e i (M.ex _ ⟨v,Z⟩) ?_;simp only[qz 10,qy 12,qy 14,a5Y,bQ];refine bnk e NA [_] O λu z y t=>?_;simp only[aRf,aoz];refine⟨u,A,?_,l.trans t⟩;grind [jc];simp only[aRf,aoz];refine⟨a1,A,?_,l⟩;grind [jc]
def anz(C:bD Y b w ns out n wk a bm bo f)(M:jb w ns)(g:∀k,k<L w.ac->aF (L w.aQ.ay) (gd w.ac k).aq)(j:L w.ac<=16)(i:L out<100000000){x:Int}(l:aF (L w.ac) x)(h:∀e c,bD c b w ns (out++jc ns w x) n wk e bm bo f->Ad Y c b a e->K (.t []) c):cB 89 [.p b 0 0,iv x] Y d K:=bs1 A (aDI C M g j i l) h
theorem bul{p:Prop}(h:p:=by grind [Go.Ab.Ad.refl]):p:=h
theorem bxx{p:Prop}(h:p:=by grind [Go.Ab.jb.bf,Go.Ab.dJ]):p:=h
theorem aDK(C:bD Y b w ns out n wk a bm bo f)(M:jb w ns)(an:∀k,k<L w.ac->aF (L w.aQ.ay) (gd w.ac k).aq)(hw:L w.ac<=16)(ho:L out+L (btr ns w)<1000000000):∃r F,mS Y b w ns out (btr ns w) n wk a bm bo f r F/\cZ aS GG 155 [.p b 0 0] Y r F:=by have e:=M.ln;refine aKo C.le ?_;have bx:=C.bx;simp only[btr,a6G] at ho;simp only[bhO bx,gQ,bx];refine yV (L w.ac) (λk _ Y'=>∃g,bD Y' b w ns (out++(aH k).flatMap (jy ns<|L w.ac)) n wk g bm bo f/\Ad Y Y' b a g) bul ?_;rintro k _ F u ⟨a1,C1,A1⟩;have:=fU (f:=jy ns<|L w.ac) u;simp only[qz 19,au,eQ];constructor<;>intro h;have S:=aL h;rw[fX Z];have aa:=fU (f:=jy ns<|L w.ac) (show k+1<=L w.ac by omega);rw[a6z,a6G] at aa;have:L ((aH<|L w.ac).flatMap<|my ns k)=L (jy ns (L w.ac) k):=A;refine AI (α:=Unit) (λ_ i=>[iv i]) 0 (L w.ac) (k+1) Z (λj _ Y'=>∃g,bD Y' b w ns (out++(aH k).flatMap (jy ns<|L w.ac)++(aH j).flatMap (my ns k)) n wk g bm bo f/\Ad Y Y' b a g/\k<j) (s0:=()) (by grind [aol,my]) ?_;rintro j _ Y2 hj ⟨G,o,q,am⟩;have:=fU (f:=my ns k) hj;simp only[qz 55,au,eQ];constructor<;>intro t;have R:=aL t;refine kg o e (M.bf _ _ ⟨Z,Z⟩ ⟨Z,Z⟩ Z) ?_;simp only[qz 2,au];refine kg o e (M.bf _ _ ⟨Z,Z⟩ ⟨Z,Z⟩ Z) ?_;simp only[qz 4,fi,bQ,qz 6];refine bnk o X [_,_] O λs N l m=>?_;simp only[qz 8,au,eQ];refine yU R ⟨s,?_,q.trans m,Z⟩;grind [a6z,my];refine yU S ⟨G,?_,q⟩;grind [a6z,jy];have v:k=L w.ac:=X;subst v;refine yV (L w.ac) (λk _ Y'=>∃g,bD Y' b w ns (out++(aH<|L w.ac).flatMap (jy ns<|L w.ac)++(aH k).flatMap (kY ns w)) n wk g bm bo f/\Ad Y Y' b a g) X ?_;rintro k _ Y2 u ⟨G,o,q⟩;have:=fU (f:=kY ns w) u;simp only[qz 91,au,eQ,qz 113];constructor<;>intro h;have c:=aL h;refine anA o Z (dJ c) vB ?_;have:=anW (w:=w) (j:=k);simp only[qz 10,eQ];constructor<;>intro t;have x:=aNQ t;have B:=fU (f:=kY ns w)<|show k+1<=L w.ac from c;have e2:kY ns w k=[[lB ns (bs3 w.ac k) k],[-lE ns k,lE ns<|bs3 w.ac k]]:=(by rw[kY,zg x]);rw[a6z,e2,a6G] at B;simp only[bZ,bhZ] at B;have T:aF (L w.ac) (bs3 w.ac k):=⟨x,Z⟩;refine kg o e bxx ?_;simp only[qz 12,a5Y,bQ,qz 14];refine bnk o X [_] O λs N l m=>?_;simp only[qz 16,au];refine bpl l e (M.ex _<|dJ c) ?_;simp only[qz 18,de e,aY];refine bpl l e (M.ex _ T) ?_;simp only[qz 20,qy 22,qy 24,fi,bQ];refine bnk l X [_,_] O λP Y4 y E=>?_;simp only[qz 111,au,eQ];refine yU c ⟨P,?_,(q.trans m).trans E⟩;grind [a6z];simp only[qz 111,au,eQ];refine yU c ⟨G,?_,q⟩;grind [a6z,kY];have v:k=L w.ac:=X;subst v;refine yV (L w.ac) (λk _ Y'=>∃g,bD Y' b w ns (out++(aH<|L w.ac).flatMap (jy ns<|L w.ac)++(aH<|L w.ac).flatMap (kY ns w)++(aH k).flatMap (mA ns w)) n wk g bm bo f/\Ad Y Y' b a g) X ?_;rintro k _ N u ⟨s,l,m⟩;have:=fU (f:=mA ns w) u;simp only[qz 145,au,eQ,qz 167];constructor<;>intro h;have c:=aL h;refine aEi l Z (dJ c) ?_;simp only[qz 26,eQ];constructor<;>intro t;have x:=aNQ t;obtain⟨z,W⟩:=aIp x;have D:=fU (f:=mA ns w)<|show k+1<=L w.ac from c;have e3:mA ns w k=[[-lE ns k,lE ns<|kr w k],[-lE ns k,lB ns (kr w k) k]]:=(by rw[mA,zg x]);rw[a6z,e3,a6G] at D;simp only[bZ,bhZ] at D;refine bpl l e (M.ex _<|dJ c) ?_;simp only[qz 28,de e,aY];refine bpl l e (M.ex _ z) ?_;simp only[qz 30,fi,bQ,qz 32];refine bnk l X [_,_] O λP Y4 y E=>?_;simp only[qz 34,au];refine bpl y e (M.ex _<|dJ c) ?_;simp only[qz 36,de e,aY,au];refine kg y e (M.bf _ _ z (dJ c) W) ?_;simp only[qz 38,qy 40,qy 42,fi,bQ];refine bnk y X [_,_] O λa5 Y5 C5 A5=>?_;simp only[qz 165,au,eQ];refine yU c ⟨a5,?_,(m.trans E).trans A5⟩;grind [a6z];simp only[qz 165,au,eQ];refine yU c ⟨s,?_,m⟩;grind [a6z,mA];obtain rfl:k=L w.ac:=X;exact⟨s,A,by grind [btr],m⟩
def aEh(C:bD Y b w ns out n wk a bm bo f)(M:jb w ns)(g:∀k,k<L w.ac->aF (L w.aQ.ay) (gd w.ac k).aq)(j:L w.ac<=16)(i:L out+L (btr ns w)<1000000000)(h:∀e c,bD c b w ns (out++btr ns w) n wk e bm bo f->Ad Y c b a e->K (.t []) c):cB 155 [.p b 0 0] Y d K:=bs1 A (aDK C M g j i) h
structure bu4(w:am):Prop where
 ct:L w.init.count=L w.aQ.ay
 c0:∀u:Int,aF (L w.aQ.ay) u->0<=gd w.init.count u.toNat/\gd w.init.count u.toNat<=400
 dl:∀k,k<L w.ac->L (gd w.ac k).dI<100000/\∀x∈(gd w.ac k).dI,-1000<=x/\x<=1000
 fl:∀k,k<L w.ac->L (gd w.ac k).ep<100000/\∀x∈(gd w.ac k).ep,-1000<=x/\x<=1000
 dp:∀k,k<L w.ac->∀q∈fg w (gd w.ac k).aq (gd w.ac k).dI,aF (L w.ac) q/\fR (gd w.ac q.toNat)=U
 fr:∀k,k<L w.ac->∀q∈fg w (gd w.ac k).aq (gd w.ac k).ep,aF (L w.ac) q/\fR (gd w.ac q.toNat)=U
theorem bvi{p:Prop}(h:p:=by grind [Go.Ab.Ad.fxn]):p:=h
theorem aDy(C:bD Y b w ns out n wk a bm bo f)(M:jb w ns)(D:bu4 w)(q:∀k,k<L w.ac->aF (L w.aQ.ay) (gd w.ac k).aq)(hw:L w.ac<=16)(ho:L out+L ((aH<|L w.ac).flatMap<|kX ns w)<1000000000):∃r l,mS Y b w ns out ((aH<|L w.ac).flatMap<|kX ns w) n wk a bm bo f r l/\cZ aS GG 162 [.p b 0 0] Y r l:=by have z:=M.ln;refine aKa C.le ?_;have bx:=C.bx;simp only[bhO bx,gQ,bx];refine yV (L w.ac) (λk _ Y'=>∃g,bD Y' b w ns (out++(aH k).flatMap (kX ns w)) n wk g bm bo f/\Ad Y Y' b a g) bul ?_;rintro k _ l hk ⟨a1,s,P⟩;simp only[qz 7,qy 2,au,gJ,bh];refine⟨λh=>⟨vp h,?_⟩,λh=>?_⟩;have e:=aL h;refine zm s.le λv Y2 T N2 b2=>?_;refine stI (y:=7) (cs:=aP.c<|gd w.ac k) b2 A rfl H λG W b3=>?_;have N:box G (3,v)=V ⟨71,7,U,U,[aP.c<|gd w.ac k]⟩:=b3;have F:Fx l G []:=(T.trans W).mono aUw;have S:=s.fx F;simp only[qz 4,eT,N];refine Qp S hw (D.dl k e).1 (q k e) D.ct (D.c0 _<|q k e) (D.dl k e).2 λt=>?_;have l1:=fU (f:=kX ns w)<|show k+1<=L w.ac from e;rw[a6z,a6G] at l1;have B:=D.dp k e;have i:kX ns w k=(aH<|L<|fg w (gd w.ac k).aq (gd w.ac k).dI).flatMap (qv ns k<|fg w (gd w.ac k).aq (gd w.ac k).dI):=A;rw[i] at l1;generalize hL:fg w (gd w.ac k).aq (gd w.ac k).dI=Lw at B i l1;have:L Lw<4000000000:=(by have:L Lw=L ((aH<|L Lw).flatMap<|qv ns k Lw):=(by clear hL i l1 B;generalize L Lw=m;induction m with|zero=>rfl|succ m ih=>rw[a6z,a6G,<-ih];rfl);omega);simp only[qz 6,gT,u0];refine yV (L Lw) (λj _ Y'=>∃g,bD Y' b w ns (out++(aH k).flatMap (kX ns w)++(aH j).flatMap (qv ns k Lw)) n wk g bm bo f/\Ad Y Y' b a g) bvi ?_;rintro j _ Y4 hj ⟨a4,u,E⟩;have:=fU (f:=qv ns k Lw) hj;simp only[qz 43,au,gg,tf,bh];refine⟨λx=>⟨vp x,?_⟩,λx=>?_⟩;have o:=aL x;obtain⟨q1,q2⟩:=B _<|dB o;refine bpl u z (M.ex _<|dJ e) ?_;simp only[qz 8,de z,aY];refine AQ u z (M.fx _ q1 q2) ?_;simp only[qz 10,fi,bQ,qz 12];refine bnk u X [_,_] O λa5 Y5 C5 R=>?_;simp only[qz 14,au,cS,aY];refine yU o ⟨a5,?_,E.trans R⟩;rwa [a6z,<-bje];refine yU e ⟨a4,?_,E⟩;grind [a6z];obtain rfl:k=L w.ac:=X;exact⟨a1,A,s,P⟩
def aEd(C:bD Y b w ns out n wk a bm bo f)(M:jb w ns)(D:bu4 w)(g:∀k,k<L w.ac->aF (L w.aQ.ay) (gd w.ac k).aq)(j:L w.ac<=16)(i:L out+L ((aH<|L w.ac).flatMap<|kX ns w)<1000000000)(h:∀e c,bD c b w ns (out++(aH<|L w.ac).flatMap (kX ns w)) n wk e bm bo f->Ad Y c b a e->K (.t []) c):cB 162 [.p b 0 0] Y d K:=bs1 A (aDy C M D g j i) h
def uf(ns:List aH8)(e c:Int):List (eu):=if c<0\/e<0 then[] else[[-lE ns c,lE ns e],[-lE ns c,lB ns e c]]
theorem aDC(C:bD Y b w ns out n wk a bm bo f)(M:jb w ns)(ho:L out<999999990){W S g qt c qr:Int}{T qd}(P:0<=g->aF (L w.ac) g)(R:0<=c->aF (L w.ac) c)(ak:g≠c\/c<0):∃r x,mS Y b w ns out (uf ns g c) n wk a bm bo f r x/\cZ aS GG 241 [.p b 0 0, .a [iv W,iv S,iv g,bv T], .a [iv qt,iv c,iv qr,bv qd]] Y r x:=by have i:=M.ln;refine aKf C.le A rfl λs4 v4 v5 E al _ _ m G=>?_;have v:=E.fx [];have l:=C.fx v;have r1:∀{p q s t:AV},aN J ([p,q,s,t].drop 1)=V q:=A;have y:∀{p q s t:AV},aN J ([p,q,s,t].drop 2)=V s:=A;simp+contextual only[eS,m,G,r1,y];constructor<;>intro h;simp only[aRf,aoz];simp only[fH,awG] at h;refine⟨a,A,?_,⟨v.mono O,λk N=> .inl N⟩⟩;grind [uf];simp only[cP,aPs] at h;have j:=R Z;have o:=P Z;have ah:uf ns g c=[[-lE ns c,lE ns g],[-lE ns c,lB ns g c]]:=(by grind [uf]);refine bpl l i (M.ex _ j) ?_;simp only[qz 6,de i,aY,u1,m,y,aj];refine bpl l i (M.ex _ o) ?_;simp only[qz 8,fi,bQ,qz 10];refine bnk l Z [_,_] O λa1 x u z=>?_;have B:=z.keep m (λe=>by have:=C.sb;rw[<-e] at this;simp at this)<|l.ne m<|.inl A;simp only[qz 12];refine dT ?_ ?_;simp_all [eL,lb,cq,aNG,dC,dK];refine bpl u i (M.ex _ j) ?_;simp only[qz 14,de i,aY,u1,B,y,aj];refine kg u i (M.bf _ _ o j Z) ?_;simp only[qz 16,fi,bQ,qz 18];refine bnk u NA [_,_] O λF Y2 C2 D=>?_;simp only[qz 20];refine dT ?_ ⟨F,A,?_,Ad.pre v<|z.trans D⟩;obtain⟨af,ag⟩:=b;have:=C.sb;simp only at this;subst this;simp[eL,lb,cq,aNG,dC,dK];simp_all
theorem aDz(C:bD Y b w ns out n wk a bm bo f)(M:jb w ns)(ho:L out<999999990){xt y l yt o yr:Int}{xd yd}(k:aF (L w.ac) y)(i:aF (L w.ac) o)(W:0<=l->aF (L w.ac) l)(m:y≠o)(N:0<=l->l≠o):∃r v,mS Y b w ns out (jI ns y l o) n wk a bm bo f r v/\cZ aS GG 242 [.p b 0 0, .a [iv xt,iv y,iv l,bv xd], .a [iv yt,iv o,iv yr,bv yd]] Y r v:=by have c:=M.ln;refine aKb C.le A rfl λs4 v4 v5 R ah _ _ x T=>?_;have B:=R.fx [];have g:=C.fx B;have r1:∀{p q s t:AV},aN J ([p,q,s,t].drop 1)=V q:=A;have D:∀{p q s t:AV},aN J ([p,q,s,t].drop 2)=V s:=A;simp+contextual only[eS,x,T,r1,D];constructor<;>intro h;refine bpl g c (M.ex _ k) ?_;simp only[qz 6,de c,aY];refine bpl g c (M.ex _ i) ?_;simp only[qz 8,de c,aY];refine kg g c (M.bf _ _ k i m) ?_;simp only[qz 10,qy 12,qy 14,de c,aY,xA,bQ];refine bnk g Z [_,_,_] O λa1 v j u=>⟨a1,A,?_,Ad.pre B u⟩;grind [jI];have h':=bsX h;have z:=W Z;refine bpl g c (M.ex _ k) ?_;simp only[qz 16,de c,aY];refine bpl g c (M.ex _ i) ?_;simp only[qz 18,de c,aY];refine kg g c (M.bf _ _ k i m) ?_;simp only[qz 20,de c,aY,u1,x,D,aj];refine bpl g c (M.ex _ z) ?_;simp only[qz 22,vR,bQ,qz 24];refine bnk g Z [_,_,_,_] O λa1 v j u=>?_;have G:=u.keep x (λe=>by have:=C.sb;rw[<-e] at this;simp at this)<|g.ne x<|.inl A;simp only[qz 26];refine dT ?_ ?_;obtain⟨E,F⟩:=b;have:=C.sb;simp only at this;subst this;simp[eL,lb,cq,aNG,dC,dK];refine bpl j c (M.ex _ k) ?_;simp only[qz 28,de c,aY];refine bpl j c (M.ex _ i) ?_;simp only[qz 30,de c,aY];refine kg j c (M.bf _ _ k i m) ?_;simp only[qz 32,de c,aY,u1,G,D,aj];refine kg j c (M.bf _ _ z i<|N Z) ?_;simp only[qz 34,vR,bQ,qz 36];refine bnk j NA [_,_,_,_] O λS Y2 C2 P=>?_;simp only[qz 38];refine dT ?_ ⟨S,A,?_,Ad.pre B<|u.trans P⟩;obtain⟨E,F⟩:=b;have:=C.sb;simp only at this;subst this;simp[eL,lb,cq,aNG,dC,dK];grind [jI]
def aEe(C:bD Y b w ns out n wk a bm bo f)(M:jb w ns)(k:L out<999999990){r o e v c u:Int}{q s}(l:0<=e->aF (L w.ac) e)(m:0<=c->aF (L w.ac) c)(i:e≠c\/c<0)(j:∀h g,bD g b w ns (out++uf ns e c) n wk h bm bo f->Ad Y g b a h->K (.t []) g):cB 241 [.p b 0 0, .a [iv r,iv o,iv e,bv q], .a [iv v,iv c,iv u,bv s]] Y d K:=bs1 A (aDC C M k l m i) j
def anx(C:bD Y b w ns out n wk a bm bo f)(M:jb w ns)(m:L out<999999990){u g c y e x:Int}{s v}(q:aF (L w.ac) g)(r:aF (L w.ac) e)(o:0<=c->aF (L w.ac) c)(j:g≠e)(k:0<=c->c≠e)(l:∀i h,bD h b w ns (out++jI ns g c e) n wk i bm bo f->Ad Y h b a i->K (.t []) h):cB 242 [.p b 0 0, .a [iv u,iv g,iv c,bv s], .a [iv y,iv e,iv x,bv v]] Y d K:=bs1 A (aDz C M m q r o j k) l
theorem buK{p:Prop}(h:p:=by grind [Go.Ab.Ad.keep,Go.Ab.bD.ne]):p:=h
theorem aDR(C:bD Y b w ns out n wk a bm bo f)(M:jb w ns)(D:bu4 w)(ar:∀k,k<L w.ac->aF (L w.aQ.ay) (gd w.ac k).aq)(hw:L w.ac<=16){r:Nat}{s:Int}(hr:r<L w.ac)(bz:fR (gd w.ac r)=U)(hm:(⟨4,(r:Int),s⟩:aH8)∈ns)(hs:0<=s->aF (L w.ac) s/\s≠(r:Int))(ho:L out+L (iP ns w r s)<999999900):∃r1 Y1,mS Y b w ns out (iP ns w r s) n wk a bm bo f r1 Y1/\cZ aS GG 249 [.p b 0 0, .a<|aH8.c ⟨4,r,s⟩] Y r1 Y1:=by have i:=M.ln;refine aKu C.le A λs2 v3 K2 bA _ b3=>?_;have F2:=K2.fx [];have C0:=C.fx F2;have aX:aN (V 3) (aH8.c ⟨4,(r:Int),s⟩)=V (.a<|aH8.c ⟨4,r,s⟩):=A;simp only[iP,a6G] at ho;simp only[eT,b3,aX];refine lq C0 i hm ?_;simp only[qz 4];refine dT A ?_;refine bvr (λvs Y'=>vs=[]/\∃q,bD Y' b w ns (out++btR ns w r s) n wk q bm bo f/\Ad Y Y' b a q) (λg hJ=>?_) ?_;simp only[qz 17,eQ];refine⟨λh=>?_,λh=>hJ _ _ ⟨A,a,by grind [btR],⟨F2.mono O,λk hk=> .inl hk⟩⟩⟩;have h0:=aNQ h;obtain⟨F,aV⟩:=hs h0;have:=bsR h0;have G:s.toNat<L w.ac:=(be7 F.1 F.2);have l:btR ns w r s=[[-lS ns r s,lE ns s],[-lS ns r s,lB ns s r]]++(aH<|L<|fg w (gd w.ac s.toNat).aq (gd w.ac s.toNat).ep).flatMap (pD ns r s<|fg w (gd w.ac s.toNat).aq (gd w.ac s.toNat).ep):=(by grind [btR]);rw[l,a6G] at ho;simp only[de i,aY];refine bpl C0 i (M.ex _ F) ?_;simp only[qz 6,fi,bQ,qz 8];refine bnk C0 Z [_,_] O λa1 Y1 P A1=>?_;simp only[qz 10,de i,aY];refine kg P i (M.bf _ _ F (dJ hr) aV) ?_;simp only[qz 12,fi,bQ,qz 14];refine bnk P NA [_,_] O λa2 Y2 C2 A2=>?_;have an:=C2.bx;simp only[qz 16,qy 18,bhO an,jT,an];refine⟨F,?_⟩;refine zm C2.le λv Y3 F3 N3 d3=>?_;refine stI (y:=7) (cs:=aP.c<|gd w.ac s.toNat) d3 A rfl H λY4 F4 d4=>?_;have ae:box Y4 (7,v)=V ⟨71,7,U,U,[aP.c<|gd w.ac s.toNat]⟩:=d4;have W:Fx Y2 Y4 []:=(F3.trans F4).mono aUw;have C4:=C2.fx W;simp only[qz 20,eT,ae];refine Qp C4 hw (D.fl _ G).1 (ar _ G) D.ct (D.c0 _<|ar _ G) (D.fl _ G).2 λt=>?_;have hq:=D.fr _ G;generalize hL:fg w (gd w.ac s.toNat).aq (gd w.ac s.toNat).ep=Lw at hq l ho;have:L Lw<4000000000:=(by have:L Lw=L ((aH<|L Lw).flatMap<|pD ns r s Lw):=(by clear hL l ho hq;generalize L Lw=m;induction m with|zero=>rfl|succ m ih=>rw[a6z,a6G,<-ih];rfl);omega);simp only[qz 22,gT,u0];refine yV (L Lw) (λj _ Y'=>∃q,bD Y' b w ns (out++[[-lS ns r s,lE ns s],[-lS ns r s,lB ns s r]]++(aH j).flatMap (pD ns r s Lw)) n wk q bm bo f/\Ad Y Y' b a q) (by grind [Ad.fxn,Ad.pre,Ad.trans]) ?_;rintro j _ Y5 hj ⟨a5,T,A5⟩;have R:=fU (f:=pD ns r s Lw) hj;simp only[qz 49,au,gg,tf,bh,de i];refine⟨λh2=>⟨vp h2,?_⟩,λh2=>?_⟩;have ap:=aL h2;obtain⟨q1,q2⟩:=hq _<|dB ap;refine AQ T i (M.fx _ q1 q2) ?_;simp only[qz 24,fi,bQ,qz 26];refine bnk T X [_,_] O λa6 Y6 C6 A6=>?_;simp only[qz 28,au,cS,aY];refine yU ap ⟨a6,?_,A5.trans A6⟩;rwa [a6z,<-bje];grind;rintro vs Y1 ⟨rfl,a1,P,A1⟩;have am:=P.bx;simp only[qz 15,qy 30,bhO am,jT,am,bh];refine⟨dJ hr,?_⟩;refine zm P.le λv Y3 F3 N3 d3=>?_;refine stI (y:=7) (cs:=aP.c<|gd w.ac r) d3 A rfl H λY4 F4 d4=>?_;have ae:box Y4 (10,v)=V ⟨71,7,U,U,[aP.c<|gd w.ac r]⟩:=d4;have W:Fx Y1 Y4 []:=(F3.trans F4).mono aUw;have C4:=P.fx W;have ao:=C4.bx;simp only[qz 32,u1];refine bs6 (λg=>∀kd:Int,kd=(if(gd w.ac r).kind=23 then 22 else 4)->g [iv kd]) ?_ λg hj=>?_;intro kd bw;simp only[qz 93,bhO ao,gQ,ao];have:∀x:aP,aTG x (gd w.ac r)=(Q (x.kind=kd)&&Q (x.eI=(gd w.ac r).eI)):=(by grind [fR,aTG]);refine yV (L w.ac) (λk _ Y'=>∃q,bD Y' b w ns (out++btR ns w r s++(aH k).flatMap (btg ns w r s)) n wk q bm bo f/\Ad Y Y' b a q/\box Y' (10,v)=V ⟨71,7,U,U,[aP.c<|gd w.ac r]⟩) bvi ?_;rintro z _ Y5 hz ⟨a5,T,A5,e5⟩;simp only[qz 109,au,eQ];constructor<;>intro h;have E:=aL h;refine bsf (λg=>∀o u,bD o b w ns (out++btR ns w r s++(aH z).flatMap (btg ns w r s)++btg ns w r s z) n wk u bm bo f->Ad Y o b a u->box o (10,v)=V ⟨71,7,U,U,[aP.c<|gd w.ac r]⟩->g [] o) ?_ λg B=>?_;intro o u C8 S e8;simp only[qz 129,aI,au,cS,aY];refine yU E ⟨u,?_,S,e8⟩;grind [a6z];simp only[qz 131,qy 34,au,u0,ix,rk,bh];refine⟨dJ E,?_⟩;have R:=fU (f:=btg ns w r s)<|show z+1<=L w.ac from E;rw[a6z,a6G] at R;refine zm T.le λv6 Y6 F6 N6 d6=>?_;refine stI (y:=7) (cs:=aP.c<|gd w.ac z) d6 A rfl H λY7 F7 d7=>?_;have aR:box Y7 (13,v6)=V ⟨71,7,U,U,[aP.c<|gd w.ac z]⟩:=d7;have aa:Fx Y5 Y7 []:=(F6.trans F7).mono aUw;have N:=T.fx aa;have A7:=A5.fxn aa;have e7:=aa.kq e5;have:((10,v):Id)≠b:=X;simp+contextual only[qz 36,eT,aR,e7,de i];constructor<;>intro hc;refine B Y7 a5 ?_ A7 e7;grind [btg];simp only[cP,aPs,aNS] at hc;have:(z:Int)≠s:=Z;have:aTG (gd w.ac z) (gd w.ac r)=U:=vB;have:(r:Int)≠z:=(by intro e;have:r=z:=Z;grind [aTG]);have:¬((z:Int)=s\/aTG (gd w.ac z) (gd w.ac r)=I):=vB;constructor<;>intro h0;have:=aNQ h0;have l:btg ns w r s z=[[-lS ns r s,-lE ns z,lB ns z s,lB ns r z]]:=(by grind [btg]);rw[l] at R B;simp only[bZ,bhZ] at R;refine bpl N i (M.ex _<|dJ E) ?_;simp only[qz 38,de i,aY,au];refine kg N i bxx ?_;simp only[qz 40,au];refine kg N i bxx ?_;simp only[qz 42,qy 44,qy 46,vR,bQ];refine bnk N X [_,_,_,_] O λu o C8 S=>?_;exact B o u C8 (A7.trans S) buK;have:=bsX h0;have l:btg ns w r s z=[[-lS ns r s,-lE ns z,lB ns r z]]:=(by grind [btg]);rw[l] at R B;simp only[bZ,bhZ] at R;refine bpl N i (M.ex _<|dJ E) ?_;simp only[qz 48,de i,aY,au];refine kg N i bxx ?_;simp only[qz 50,qy 52,qy 54,xA,bQ];refine bnk N X [_,_,_] O λu o C8 S=>?_;exact B o u C8 (A7.trans S) buK;obtain rfl:z=L w.ac:=X;refine⟨a5,A,?_,A5⟩;grind [iP];simp only[qz 95,eT,ae];refine⟨λh=>hj 22 vB,λh=>hj 4 vB⟩
def aEj(C:bD Y b w ns out n wk a bm bo f)(M:jb w ns)(D:bu4 w)(i:∀k,k<L w.ac->aF (L w.aQ.ay) (gd w.ac k).aq)(q:L w.ac<=16){r:Nat}{s:Int}(o:r<L w.ac)(h:fR (gd w.ac r)=U)(l:(⟨4,(r:Int),s⟩:aH8)∈ns)(hs:0<=s->aF (L w.ac) s/\s≠(r:Int))(m:L out+L (iP ns w r s)<999999900)(j:∀g e,bD e b w ns (out++iP ns w r s) n wk g bm bo f->Ad Y e b a g->K (.t []) e):cB 249 [.p b 0 0, .a<|aH8.c ⟨4,r,s⟩] Y d K:=bs1 A (aDR C M D i q o h l hs m) j
structure sE(w:am)(ns:List aH8):Prop where
 ok:∀x∈aR ns 5,aF (L w.ac) x.a/\pN (gd w.ac x.a.toNat)=U/\(0<=x.b->aF (L w.ac) x.b/\x.b≠x.a)
 ln:L (aR ns 5)<=1000
def iO(ns:List aH8)(k:Nat)(c:Int)(l:List aH8)(j:Nat):List (eu):=if(gd l j).b=c then[[-lE ns k,-dP ns (gd l j),lB ns (gd l j).a k]] else[]
def bsZ(ns:List aH8)(w:am)(k:Nat):List (eu):=
 if(gd w.ac k).kind=17/\(brz w k).2=U then(-lE ns k::gO ns (aR ns 5) (brz w k).1)::(aH<|L<|aR ns 5).flatMap (iO ns k (brz w k).1<|aR ns 5) else[]
theorem bt0{Y e}{z d by':Nat}{zs a bA new t o K}(u:gA Y e z a bA)(B:L zs=z)(m:0<z)(i:d<L Y)(y:∀r∈bA,L r=z)(x:∀r∈new,L r=z)(v:(L bA+L new)*(by'+1)<=1099511627776)(j:∀c Y',gA Y' e z c (bA++new)->Fx Y Y' (aA a)->(∀b∈aA c,b∈aA a\/(bK Y b/\b.1=d))->K c Y'):eV (apA e zs by' Y d a<|.l new t o) K:=by obtain⟨o',rfl⟩|⟨b,rfl,s⟩:=u;unfold apA;simp only[gL];by_cases k:L new=0;rw[zg k];obtain rfl:new=[]:=vB;exact j _ _ (.inl ⟨o',O⟩) (Fx.refl _ _) aBY;rw[za k,zg ⟨Z,by simp[vg,i],vB⟩];rw[zg ⟨vB,btf⟩];refine j _ _ (.inr ⟨lA Y d,O,?_⟩) ((kH i).mono O) (by simp[aA];exact⟨qQ Y d,A⟩);grind [iy];refine gD (.inr ⟨b,A,s⟩) B m i y x v λc Y' g F C D=>j c Y' ?_ F λq E=>?_;obtain⟨p,rfl⟩|h:=g;exact .inl ⟨U,by rw[p]⟩;exact .inr h;grind
theorem Ea(C:bD Y b w ns out n wk a bm bo f)(l:L out<1000000000){x}(c)(h:gA Y 3 1 x<|c.map ci)(j:L c<1000000)(m:∀k∈aA x,k.1≠18)(i:∀g e,bD e b w ns (out++[c]) n wk g bm bo f->Ad Y e b a g->K (.t []) e):cB 91 [.p b 0 0,x] Y d K:=by refine anw C l (ali h) j ?_ i;obtain⟨o,rfl⟩|⟨k,rfl,_⟩:=h;simp;grind [aA]
theorem aDv(C:bD Y b w ns out n wk a bm bo f)(M:jb w ns)(Wk:sE w ns)(bi:∀k,k<L w.ac->aF (L w.aQ.ay) (gd w.ac k).aq)(be:L w.init.eB.ay=L w.aQ.ay)(bg:L w.aQ.ay<=4)(hw:L w.ac<=16)(ho:L out+L ((aH<|L w.ac).flatMap<|bsZ ns w)<999999900):∃r R,mS Y b w ns out ((aH<|L w.ac).flatMap<|bsZ ns w) n wk a bm bo f r R/\cZ aS GG 160 [.p b 0 0] Y r R:=by have q:=M.ln;have bj:=Wk.ln;refine aJ7 C.le ?_;have bx:=C.bx;simp only[bhO bx,gQ,bx];refine yV (L w.ac) (λk _ Y'=>∃F,bD Y' b w ns (out++(aH k).flatMap (bsZ ns w)) n wk F bm bo f/\Ad Y Y' b a F) bul ?_;rintro k _ R hk ⟨a1,C1,A1⟩;simp only[qz 7,au,eQ];constructor<;>intro h;have l:=aL h;refine bsf (λg=>∀m S,bD m b w ns (out++(aH k).flatMap (bsZ ns w)++bsZ ns w k) n wk S bm bo f->Ad Y m b a S->g [] m) ?_ λg u=>?_;intro m S D P;simp only[qz 27,aI,au,cS,aY];refine yU l ⟨S,?_,P⟩;grind [a6z];simp only[qz 29,qy 2,au,u0,ix,rk,bh];refine⟨dJ l,?_⟩;have l1:=fU (f:=bsZ ns w)<|show k+1<=L w.ac from l;rw[a6z,a6G] at l1;refine zm C1.le λv Y2 F2 N2 b2=>?_;refine stI (y:=7) (cs:=aP.c<|gd w.ac k) b2 A rfl H λE F3 b3=>?_;have ar:box E (3,v)=V ⟨71,7,U,U,[aP.c<|gd w.ac k]⟩:=b3;have T:Fx R E []:=(F2.trans F3).mono aUw;have B:=C1.fx T;have A3:=A1.fxn T;simp only[qz 4,eT,ar];constructor<;>intro h1;refine u E a1 ?_ A3;grind [bsZ];have bb:(gd w.ac k).kind=17:=vB;refine anB B Z (dJ l) vB Z λv' aB=>?_;simp only[qz 6,oJ,pG,aY,eQ];constructor<;>intro h2;refine u E a1 ?_ A3;grind [bsZ];have aw:(brz w k).2=U:=X;obtain rfl:=aB aw;generalize bl:(brz w (k:Int)).1=i at*;have ad:bsZ ns w k=(-lE ns k::gO ns (aR ns 5) i)::(aH<|L<|aR ns 5).flatMap (iO ns k i<|aR ns 5):=(by grind [bsZ]);rw[ad,bZ] at l1;rw[ad] at u;refine bpl B q (M.ex _<|dJ l) ?_;simp only[qz 8,de q,aY,a5Y,bQ];refine anC (d:=0) B q _ λt=>?_;simp only[qz 12];have bk:L (gO ns (aR ns 5) i)<=1000:=(by grind [gO]);refine bt0 (bA:=[-lE ns k].map ci) (.inl ⟨U,A⟩) A H (by rw[B.le];decide) fF fF X λx4 Y4 g4 F4 bd=>?_;rw[<-dg] at g4;have W:Fx E Y4 []:=F4.mono aBY;have C4:=B.fx W;simp only[qz 14];refine Ea C4 X _ g4 NA bno λa5 Y5 C5 A5=>?_;have ab:=C5.bx;simp only[qz 16,bhO ab,gQ,ab,lnI C5.gw,bJ];have a4:=(A3.fxn W).trans A5;rw[show[-lE ns k]++gO ns (aR ns 5) i= -lE ns k::gO ns (aR ns 5) i from A] at C5;refine yV (L<|aR ns 5) (λj _ Y'=>∃F,bD Y' b w ns (out++(aH k).flatMap (bsZ ns w)++[-lE ns k::gO ns (aR ns 5) i]++(aH j).flatMap (iO ns k i<|aR ns 5)) n wk F bm bo f/\Ad Y Y' b a F) X ?_;rintro j _ Y6 hj ⟨a6,C6,A6⟩;have l6:=fU (f:=iO ns k i<|aR ns 5) hj;simp only[qz 79,au,eQ];constructor<;>intro h3;have o:=aL h3;refine bsf (λg=>∀x z,bD x b w ns (out++(aH k).flatMap (bsZ ns w)++[-lE ns k::gO ns (aR ns 5) i]++(aH j).flatMap (iO ns k i<|aR ns 5)++iO ns k i (aR ns 5) j) n wk z bm bo f->Ad Y x b a z->g [] x) ?_ λg s=>?_;intro x z C9 A9;simp only[qz 99,aI,au,cS,aY];refine yU o ⟨z,?_,A9⟩;grind [a6z];simp only[qz 101,qy 18,au];have N:=fU (f:=iO ns k i<|aR ns 5)<|show j+1<=L (aR ns 5) from o;rw[a6z,a6G] at N;obtain⟨o1,o2,o3⟩:=Wk.ok _<|dB o;have aA:gd (aR ns 5) j∈ns:=(jW.1<|dB o).1;rw[qB C6.gw o];refine zm C6.le λv7 Y7 F7 N7 d7=>?_;refine stI (cs:=aH8.c<|gd (aR ns 5) j) d7 A rfl H λm F8 d8=>?_;have G:box m (7,v7)=V ⟨98,3,U,U,[aH8.c<|gd (aR ns 5) j]⟩:=d8;have aa:Fx Y6 m []:=(F7.trans F8).mono aUw;have D:=C6.fx aa;have P:=A6.fxn aa;have aC:aN (V 3) (aH8.c<|gd (aR ns 5) j)=V (.a<|aH8.c<|gd (aR ns 5) j):=A;simp only[qz 20,eT,G];constructor<;>intro h4;have bc:=aNQ h4;have az:iO ns k i (aR ns 5) j=[[-lE ns k,-dP ns (gd (aR ns 5) j),lB ns (gd (aR ns 5) j).a k]]:=(by grind [iO]);rw[az] at N s;simp only[bZ,bhZ] at N;have ax:(gd (aR ns 5) j).a≠(k:Int):=(λe=>by simp_all [pN]);refine bpl D q (M.ex _<|dJ l) ?_;simp only[qz 22,de q,aY,u1,G,aC];refine lq D q aA ?_;simp only[qz 24,de q,aY,u1,G,rk,aj];refine kg D q (M.bf _ _ o1 (dJ l) ax) ?_;simp only[qz 26,xA,bQ,qz 28];refine bnk D X [_,_,_] O λz x C9 A9=>?_;simp only[qz 30];refine dT ?_<|s x z C9<|P.trans A9;obtain⟨a7,ba⟩:=b;have:=C.sb;simp only at this;subst this;simp[eL,lb,cq,aNG,dC,dK];refine s m a6 ?_ P;grind [iO];refine u Y6 a6 ?_ A6;grind;obtain rfl:k=L w.ac:=X;exact⟨a1,A,C1,A1⟩
def alf{e z by' d zs s x c bA}(h:gA Y c z x bA):apA e zs by' Y d s x=apA e zs by' Y d s (.l bA U U):=by have:gL Y x=gL Y (.l bA U U):=(by obtain⟨o,rfl⟩|⟨k,rfl,g⟩:=h;rfl;simp[gL,g]);unfold apA;rw[this]
def alV{x y}:bc4 .eql 2 [(0,0),(1,0),(2,0)] (.a<|aH8.c x) (.a<|aH8.c y)=V (bv<|Q<|x=y):=by obtain⟨a,b,c⟩:=x;obtain⟨e,g,h⟩:=y;by_cases i:a=e<;>by_cases j:b=g<;>by_cases k:c=h<;>simp[bc4,nW,sS,aH8.c,i,j,k]
def j8(w:am)(x y:aH8):Bool:=Q (y=x)||(Q (y.a=x.a)&&Q ((gd w.ac x.a.toNat).kind=18))
def eZ(x y:aH8):Bool:=Q (y.b=x.b)&&Q (y.a≠x.a)
def jd(ns:List aH8)(x:aH8):eu:= -lE ns x.a::(if 0<=x.b then[-lE ns x.b,-lB ns x.b x.a] else[])
def kZ(ns:List aH8)(w:am)(l:List aH8)(x:aH8):eu:=jd ns x++(l.filter<|j8 w x).map (dP ns)
def btq(ns:List aH8)(w:am)(l:List aH8)(x:aH8)(j:Nat):List (eu):=[kZ ns w l x++[-dP ns (gd (l.filter<|eZ x) j),lB ns (gd (l.filter<|eZ x) j).a x.a]]
def qw(ns:List aH8)(w:am)(x:aH8):List (eu):=(kZ ns w (aR ns 5) x++((aR ns 5).filter<|eZ x).map (dP ns))::(aH<|L<|(aR ns 5).filter<|eZ x).flatMap (btq ns w (aR ns 5) x)
def lI.t{e z x bA}(h:lI Y e z x bA):gA Y e z x bA:=by obtain⟨rfl,rfl⟩|h:=h;exact .inl ⟨U,A⟩;exact .inr h
theorem pH{α}[Inhabited α]{p}{l:List α}{k:Nat}(h:k<L l):(l.take<|k+1).filter p=(l.take k).filter p++if p (gd l k)=U then[gd l k] else[]:=by grind [iJ,aNV]
theorem aDx(C:bD Y b w ns out n wk a bm bo f)(M:jb w ns)(Wk:sE w ns)(hw:L w.ac<=16){x}(hx:x∈aR ns 5)(ho:L out+L (qw ns w x)<999999900):∃r1 Y1,mS Y b w ns out (qw ns w x) n wk a bm bo f r1 Y1/\cZ aS GG 248 [.p b 0 0, .a<|aH8.c x] Y r1 Y1:=by
 have D:=M.ln
 have dz:=Wk.ln
 obtain⟨x1,x2,x3⟩:=Wk.ok x hx
 refine aJ9 C.le A λs2 v3 K2 dE nf b3=>?_
 have F2:=K2.fx []
 have N:=C.fx F2
 simp only[eT,b3]
 refine bpl N D (M.ex _ x1) ?_
 simp only[qz 4,de D,aY,a5Y,bQ,qz 6]
 refine bvr (λvs Y'=>∃y0,vs=[y0]/\gA Y' 3 1 y0 ((jd ns x).map ci)/\Fx s2 Y' []/\∀q∈aA y0,bK s2 q/\q.1=37) (λe hJ=>?_) ?_
 ·simp only[qz 17,eT,b3]
  refine⟨λh=>?_,λh=>hJ _ _ ⟨_,A, .inl ⟨U,by grind [jd]⟩,Fx.refl _ _,aBY⟩⟩
  have h0:=aNQ h
  obtain⟨bq,cp⟩:=x3 h0
  refine bpl N D (M.ex _ bq) ?_
  simp only[qz 8,de D,aY,u1,b3,rk,aj]
  refine kg N D (M.bf _ _ bq x1 cp) ?_
  simp only[qz 10,qy 12,de D,aY,fi,bQ]
  refine bt0 (bA:=[-lE ns x.a].map ci) (.inl ⟨U,A⟩) A H (by rw[N.le];decide) fF fF O λy4 Y4 g4 F4 ds=>?_
  rw[<-dg] at g4
  simp only[qz 14]
  refine dT A (hJ _ _ ⟨y4,A,?_,F4.mono aBY,λq r=>?_⟩)
  ·grind [jd]
  grind [aA]
 ·rintro vs Y1 ⟨y0,rfl,g0,F1,P0⟩
  have C1:=N.fx F1
  have bd:=C1.bx
  have dl:=F1.kq b3
  have cu:=C1.gw
  have aX:∀y∈aR ns 5,y∈ns:=λy hy=>(jW.1 hy).1
  simp only[qz 15,au,bhO bd,gQ,bd,lnI cu,bJ]
  refine jD (α:=AV×AV) (λa i=>[a.1,a.2,iv i]) 2 (L<|aR ns 5) (λk a Y'=>gA Y' 3 1 a.1 ((jd ns x++(((aR ns 5).take k).filter<|j8 w x).map (dP ns)).map ci)/\lI Y' 98 3 a.2 ((((aR ns 5).take k).filter<|eZ x).map aH8.c)/\Fx s2 Y' []/\(∀q∈aA a.1,bK s2 q/\(q.1=37\/q.1=75))/\∀q∈aA a.2,bK s2 q/\q.1=91) (s0:=(y0, .l [] U U)) (by grind [lI.nil,aA]) ?_
  rintro k ⟨y,o⟩ Y2 hk ⟨gy,go,aC,Py,Po⟩
  simp only at gy go Py Po
  have C2:=N.fx aC
  simp only[qz 43,qy 30,au,eQ,qz 65,qy 16]
  refine⟨λh=>?_,λh=>?_⟩
  ·have R:=aL h
   rw[qB C2.gw R]
   refine zm C2.le λv7 Y3 F3 N3 d3=>?_
   refine stI (cs:=aH8.c<|gd (aR ns 5) k) d3 A rfl H λY4 F4 d4=>?_
   have bi:box Y4 (7,v7)=V ⟨98,3,U,U,[aH8.c<|gd (aR ns 5) k]⟩:=d4
   have aD:Fx Y2 Y4 []:=(F3.trans F4).mono aUw
   have aE:=aC.trans aD
   have C4:=N.fx aE
   have be:=C4.bx
   have bb:=aE.kq b3
   have cz:aN (V 3) (aH8.c x)=V (.a<|aH8.c x):=A
   have bt:aN (V 3) (aH8.c<|gd (aR ns 5) k)=V (.a<|aH8.c<|gd (aR ns 5) k):=A
   have bn:=gy.fx aD O
   have cj:=go.fx aD O
   have dx:L (jd ns x++(((aR ns 5).take k).filter<|j8 w x).map (dP ns))<=3+k:=by
    grind [jd]
   have dw:L (((aR ns 5).take k).filter<|eZ x)<=k:=by
    grind
   simp only[qz 18,di]
   refine bvr (λvs Y'=>∃y',vs=[y']/\gA Y' 3 1 y' ((jd ns x++(((aR ns 5).take<|k+1).filter<|j8 w x).map (dP ns)).map ci)/\Fx Y4 Y' (aA y)/\∀q∈aA y',bK s2 q/\(q.1=37\/q.1=75)) (λe hJ=>?_) ?_
   ·simp+contextual only[qz 77,jT,bi,bb,cz,bt,alV,bhO be,be]
    refine⟨λ_ _=>x1,λhb=>?_,λhb=>?_⟩
    ·refine lq C4 D (aX _<|dB R) ?_
     simp only[qz 20,qy 22,qy 24,a5Y,bQ,au]
     refine bt0 bn A H (by rw[C4.le];decide) fF fF X λy5 Y5 g5 F5 dt=>hJ _ _ ⟨y5,A,?_,F5,λq r=>?_⟩
     ·grind [pH,j8]
     grind [bK.old]
    ·refine hJ _ _ ⟨y,A,?_,Fx.refl _ _,Py⟩
     rw[pH R,za (by grind [j8]),cL]
     exact bn
   ·rintro vs Y5 ⟨y',rfl,bp,F5,aK⟩
    have a0:∀{q:Id},q.1≠37->q.1≠75->q∉aA y:=X
    have d5:=F5.keep _ _ (a0 O O) bi
    have cc:=F5.keep _ _ (a0 O O) bb
    have ck:=cj.fx F5 (λq r=>a0 (by rw[(Po q r).2];decide)<|by rw[(Po q r).2];decide)
    have aF:Fx s2 Y5 []:=(aE.trans F5).mono aUw
    simp+contextual only[qz 75,qy 26,qy 28,eT,d5,cc,bt,Db]
    have dr:(Q ((gd (aR ns 5) k).b=x.b)&&Q ((gd (aR ns 5) k).a≠x.a))=eZ x (gd (aR ns 5) k):=A
    refine⟨λhb=>?_,λhb=>?_⟩
    ·refine gD ck A H (by rw[aF.len,N.le];decide) uT uT X λo6 Y6 g6 F6 du dy=>?_
     simp only[qz 63,aI,au,gt1,nr,cS,aY]
     refine dR (p:=2) (mk:=λ(a:AV×AV) i=>[a.1,a.2,iv i]) (s:=(y,o)) (s':=(y',o6)) (λ_ _=>A) R Z ⟨bp.fx F6 λq r S=>?_,?_,(aF.trans F6).mono aUw,aK,λq r=>?_⟩
     ·have h1:=(Po q S).2
      obtain h2|h2:=(aK q r).2<;>(omega)
     ·grind [pH]
     grind [bK.old]
    ·simp only[qz 63,aI,au,gt1,nr,cS,aY]
     refine dR (p:=2) (mk:=λ(a:AV×AV) i=>[a.1,a.2,iv i]) (s:=(y,o)) (s':=(y',o)) (λ_ _=>A) R Z ⟨bp,?_,aF,aK,Po⟩
     grind [pH]
  ·have cw:k=L (aR ns 5):=X
   subst cw
   rw[gV] at gy go
   rw[show jd ns x++((aR ns 5).filter<|j8 w x).map (dP ns)=kZ ns w (aR ns 5) x from A] at gy
   have bM:∀v∈(aR ns 5).filter (eZ x),v∈aR ns 5/\eZ x v=U:=O
   have dn:L (kZ ns w (aR ns 5) x)<=1003:=by
    grind [jd,kZ]
   have dp:L ((aR ns 5).filter<|eZ x)<=1000:=by
    grind
   have ct:qw ns w x=(kZ ns w (aR ns 5) x++((aR ns 5).filter<|eZ x).map (dP ns))::(aH<|L<|(aR ns 5).filter<|eZ x).flatMap (btq ns w (aR ns 5) x):=A
   have cr:∀j,btq ns w (aR ns 5) x j=[kZ ns w (aR ns 5) x++[-dP ns (gd ((aR ns 5).filter<|eZ x) j),lB ns (gd ((aR ns 5).filter<|eZ x) j).a x.a]]:=λ_=>A
   rw[ct,bZ] at ho
   generalize hL:kZ ns w (aR ns 5) x=Lw at*
   generalize hO:(aR ns 5).filter (eZ x)=m at*
   simp only[nS,bQ]
   rw[alf gy]
   refine bt0 (bA:=[]) (.inl ⟨U,A⟩) A H (by rw[C2.le];decide) O fF NA λz7 Y7 g7 F7 dv=>?_
   rw[dW] at g7
   have ba:Fx Y2 Y7 []:=F7.mono aBY
   simp only[qz 32,gt1,u0,lnI<|go.fx ba O,bJ]
   refine yW (L m) (λj z Y'=>gA Y' 3 1 z ((Lw++(m.take j).map (dP ns)).map ci)/\Fx Y2 Y' []/\∀q∈aA z,bK Y2 q/\(q.1=95\/q.1=107)) (s0:=z7) ⟨by simpa using g7,ba,bno⟩ ?_
   rintro j z Y8 hj ⟨g8,F8,P8⟩
   have C8:=C2.fx F8
   have cl:=go.fx F8 O
   simp only[qz 109,qy 34,au,eQ]
   refine⟨λh2=>?_,λh2=>?_⟩
   ·have bs:=aL h2
    rw[qB cl bs]
    refine zm C8.le λcA Y9 F9 N9 d9=>?_
    refine stI (cs:=aH8.c<|gd m j) d9 A rfl H λal bV ce=>?_
    have bE:box al (10,cA)=V ⟨98,3,U,U,[aH8.c<|gd m j]⟩:=ce
    have aG:Fx Y8 al []:=(F9.trans bV).mono aUw
    have T:=F8.trans aG
    have a2:aN (V 3) (aH8.c<|gd m j)=V (.a<|aH8.c<|gd m j):=A
    simp only[qz 36,eQ,bE,a2]
    refine lq (C2.fx T) D bv8 ?_
    simp only[qz 38,qy 40,a5Y,bQ,au]
    refine bt0 (g8.fx aG O) A H (by rw[T.len,C2.le];decide) fF fF NA λcD b2 dm aB bI=>?_
    simp only[qz 42,gt1,cS,aY]
    refine dR (p:=1) (mk:=λa i=>[a,iv i]) (s:=z) (s':=cD) (λ_ _=>A) bs Z ⟨?_,(T.trans aB).mono aUw,λq r=>?_⟩
    ·grind [iJ,aNV]
    ·obtain h|h:=bI q r
     ·exact P8 q h
     grind [bK.old]
   ·have aW:j=L m:=X
    subst aW
    rw[gV] at g8
    have cm:=gy.fx F8 O
    refine Ea C8 Z _ g8 NA X λa9 Y9 C9 A9=>?_
    have bO:∀q∈aA y,q.1≠18:=X
    have br:∀{t:ae},gA t 3 1 y (Lw.map ci)->∀q∈aA y,∃bx,box t q=V bx/\bx.elem≠25:=by
     intro t g q r
     obtain⟨o',rfl⟩|⟨k',rfl,hb⟩:=g
     ·simp[aA] at r
     grind [aA]
    have G:∀{t W:ae} {aa ab:AV} {oo:List (eu)},bD t b w ns oo n wk aa bm bo f->Ad t W b aa ab->gA t 3 1 y (Lw.map ci)->gA W 3 1 y (Lw.map ci):=by
     intro t W aa ab oo Ca Aa g
     refine g.fx Aa.fx λq r S=>?_
     obtain h|h:=eW.1 S
     ·grind [bD.sb]
     ·obtain⟨bx,h1,h2⟩:=br g q r
      grind [bD.ne]
    have F:∀{t W:ae} {aa ab:AV} {oo:List (eu)},bD t b w ns oo n wk aa bm bo f->Ad t W b aa ab->lI t 98 3 o (m.map aH8.c)->lI W 98 3 o (m.map aH8.c):=by
     intro t W aa ab oo Ca Aa g
     refine g.fx Aa.fx λq r S=>?_
     obtain h|h:=eW.1 S
     ·grind [bD.sb]
     ·exact Ca.ne (g.ids q r) (.inr O) h
    have aV:((3,v3):Id)≠b:=X
    have bc:=F8.kq<|aC.kq b3
    have cd:=A9.keep bc aV<|C8.ne bc<|.inl A
    have bR:Ad Y Y9 b a a9:=(by grind [Ad.pre])
    have bl:=F C8 A9<|go.fx F8 O
    have cn:=G C8 A9 cm
    simp only[qz 44,gt1,u0,lnI bl,bJ]
    refine yV (L m) (λj _ Y'=>∃a',bD Y' b w ns (out++[Lw++m.map (dP ns)]++(aH j).flatMap (btq ns w (aR ns 5) x)) n wk a' bm bo f/\Ad Y Y' b a a'/\gA Y' 3 1 y (Lw.map ci)/\lI Y' 98 3 o (m.map aH8.c)/\box Y' (3,v3)=V ⟨98,3,U,U,[aH8.c x]⟩) ⟨a9,by simpa using C9,bR,cn,bl,cd⟩ ?_
    rintro j _ al hj ⟨b9,a8,a7,aT,aQ,aO⟩
    have dD:=fU (f:=btq ns w (aR ns 5) x) hj
    simp only[qz 151,qy 46,au,eQ]
    refine⟨λh3=>?_,λh3=>?_⟩
    ·have am:=aL h3
     obtain⟨m1,m2⟩:=bM _<|dB am
     obtain⟨o1,o2,o3⟩:=Wk.ok _ m1
     have cx:(gd m j).a≠x.a:=by
      grind [eZ]
     have aZ:=fU (f:=btq ns w (aR ns 5) x)<|show j+1<=L m from am
     rw[a6z,a6G,cr] at aZ
     simp only[bZ,bhZ] at aZ
     rw[qB aQ am]
     refine zm a8.le λcB b2 aB db cf=>?_
     refine stI (cs:=aH8.c<|gd m j) cf A rfl H λP bW cg=>?_
     have bF:box P (12,cB)=V ⟨98,3,U,U,[aH8.c<|gd m j]⟩:=cg
     have u:Fx al P []:=(aB.trans bW).mono aUw
     have ax:=a8.fx u
     have bH:=aT.fx u O
     have a2:aN (V 3) (aH8.c<|gd m j)=V (.a<|aH8.c<|gd m j):=A
     simp only[qz 48,qy 50,nS,bQ,au]
     rw[alf bH]
     refine bt0 (bA:=[]) (.inl ⟨U,A⟩) A H (by rw[ax.le];decide) O fF NA λcF b4 bj bX c0=>?_
     rw[dW] at bj
     have E:Fx P b4 []:=bX.mono aBY
     have ay:=ax.fx E
     have bg:=E.kq bF
     have bC:=E.kq<|u.kq aO
     simp only[qz 52,eQ,bg,a2]
     refine lq ay D (aX _ m1) ?_
     simp only[qz 54,de D,aY,u1,bg,bC,rk,aj]
     refine kg ay D (M.bf _ _ o1 x1 cx) ?_
     simp only[qz 56,qy 58,fi,bQ]
     refine bt0 bj A H (by rw[ay.le];decide) fF fF NA λdG b5 bk bY bL=>?_
     rw[<-dg] at bk
     have dd:∀q∈aA cF,bK P q/\q.1=120:=bno
     have ak:Fx P b5 []:=(E.trans bY).mono aUw
     have ah:=ax.fx ak
     have B:=u.trans ak
     simp only[qz 60]
     refine Ea ah (by grind [a6G,bZ,bhZ]) _ bk NA (λq r=>by
      obtain h|h:=bL q r
      ·grind
      omega) λca dh da ag=>?_
     simp only[qz 62]
     refine dT ?_ ?_
     ·have:=C.sb
      clear aV bO G F br
      obtain⟨dj,dk⟩:=b
      simp only at this
      subst this
      simp[eL,lb,cq,aNG,dC,dK]
     ·have aP:=B.kq aO
      simp only[au,cS,aY]
      refine yU am ⟨ca,?_,(a7.fxn B).trans ag,G ah ag<|aT.fx B O,F ah ag<|aQ.fx B O,ag.keep aP aV<|ah.ne aP<|.inl A⟩
      grind [a6z]
    ·have aW:j=L m:=X
     subst aW
     simp only[aRf,aoz]
     refine⟨b9,A,?_,a7⟩
     grind
end
def apw:dO:=apv
def wS:eJ apw:=tB
def amn:=@aBo
def asW:=I9 44 [(2,([19],[0,17,18])),(5,([],[0,17,18,19])),(12,([67],[0,65,66])),(18,([80],[0,5,65,66,67,78,79])),(21,([],[0,5,65,66,67,78,79,80])),(26,([107],[0,105,106])),(32,([120],[0,9,105,106,107,118,119])),(35,([],[0,9,105,106,107,118,119,120])),(39,([160],[0,158,159]))]
def Hy a s0 R:=(.mk _:NS apw asW Tryz.f159 [a] [] s0 R).p
theorem aKn{a:AV}{s0:ae}{R:be}(hs:L s0=4096)(h:Hy a s0 R):EB 159 [a] s0 R:=zB asW wS func159 h
def asL:=I9 18 [(1,([10],[0,1,8,9])),(7,([20],[0,1,5,8,9,10,18,19])),(10,([],[0,1,5,8,9,10,18,19,20]))]
def aKc{a a1}:=yB wS func156 asL [a,a1]
def as7:=I9 27 [(1,([16],[0,14,15])),(4,([],[0,14,15,16])),(13,([4,5,44],[0,2,14,15,16,42,43])),(16,([4,5],[0,2,14,15,16,42,43,44])),(22,([73],[0,14,15,16,71,72]))]
def aKy{a}:=yB wS func161 as7 [a]
def as0:=I9 8 [(3,([25],[0,23,24]))]
def aKr{a a1}:=yB wS func88 as0 [a,a1]
def asU:=I9 19 [(6,([36],[0,3,35])),(9,([],[0,3,35,36])),(13,([61],[0,3,59,60])),(16,([],[0,3,59,60,61]))]
def aKl{c b}:=yB1 48 6 3 wS func93 asU b [c, .a b]
def asP:=I9 11 [(4,([27],[2,3,25,26])),(7,([],[2,3,25,26,27]))]
def aKg{a}:=yB wS func96 asP [a]
section
variable{Y:ae}{b:Id}{w:am}{ns:List aH8}{out:List (eu)}{n wk a:AV}{bm bo:Id}{f:Nat->AV}{d:Nat}{K:be}
theorem aDN(C:bD Y b w ns out n wk a bm bo f)(M:jb w ns)(D:bu4 w)(g:∀k,k<L w.ac->aF (L w.aQ.ay) (gd w.ac k).aq)(S:L w.ac<=16){x:Int}(i:aF (L w.ac) x)(P:L out+L (jK ns w x)<90000000):∃r h,mS Y b w ns out (jK ns w x) n wk a bm bo f r h/\cZ aS GG 88 [.p b 0 0,iv x] Y r h:=by have hn:=M.ln;have:=i.1;have:=i.2;have e:x.toNat<L w.ac:=Z;simp only[jK,a6G] at P;refine aKr C.le ?_;refine anz C M g S Z i λa1 h q A1=>?_;have l:=q.bx;simp only[qz 2,qy 4,bhO l,jT,l];refine⟨i,?_⟩;refine zm q.le λv Y2 F2 N2 b2=>?_;refine stI (y:=7) (cs:=aP.c<|gd w.ac x.toNat) b2 A rfl H λE F3 b3=>?_;have G:box E (4,v)=V ⟨71,7,U,U,[aP.c<|gd w.ac x.toNat]⟩:=b3;have B:Fx h E []:=(F2.trans F3).mono aUw;have W:=q.fx B;simp only[qz 6,eT,G];refine Qp W S (D.dl _ e).1 (g _ e) D.ct (D.c0 _<|g _ e) (D.dl _ e).2 λt=>?_;have R:=D.dp _ e;have N:jK ns w x=jc ns w x++(aH<|L<|fg w (gd w.ac x.toNat).aq (gd w.ac x.toNat).dI).flatMap (pC ns<|fg w (gd w.ac x.toNat).aq (gd w.ac x.toNat).dI):=A;generalize hL:fg w (gd w.ac x.toNat).aq (gd w.ac x.toNat).dI=Lw at*;have:L Lw<90000000:=(by have:L Lw=L ((aH<|L Lw).flatMap<|pC ns Lw):=(by clear hL N P R;generalize L Lw=m;induction m with|zero=>rfl|succ m ih=>rw[a6z,a6G,<-ih];rfl);omega);simp only[qz 8,gT,u0];refine yV (L Lw) (λj _ Y'=>∃F,bD Y' b w ns (out++jc ns w x++(aH j).flatMap (pC ns Lw)) n wk F bm bo f/\Ad Y Y' b a F) bvi ?_;rintro j _ Y4 hj ⟨a4,z,u⟩;have:=fU (f:=pC ns Lw) hj;simp only[qz 19,au,gg,tf,bh];refine⟨λs=>⟨vp s,?_⟩,λs=>?_⟩;have o:=aL s;obtain⟨q1,q2⟩:=R _<|dB o;refine AQ z hn (M.fx _ q1 q2) ?_;simp only[qz 10,a5Y,bQ,qz 12];refine bnk z X [_] O λa5 Y5 C5 T=>?_;simp only[qz 14,au,cS,aY];refine yU o ⟨a5,?_,u.trans T⟩;rwa [a6z,<-bje];simp only[aRf,aoz];refine⟨a4,A,?_,u⟩;grind
def bwt(C:bD Y b w ns out n wk a bm bo f)(M:jb w ns)(D:bu4 w)(g:∀k,k<L w.ac->aF (L w.aQ.ay) (gd w.ac k).aq)(j:L w.ac<=16){x:Int}(l:aF (L w.ac) x)(i:L out+L (jK ns w x)<90000000)(h:∀e c,bD c b w ns (out++jK ns w x) n wk e bm bo f->Ad Y c b a e->K (.t []) c):cB 88 [.p b 0 0,iv x] Y d K:=bs1 A (aDN C M D g j l i) h
def Ky(ns:List aH8)(w:am)(g:cJ):List (eu):=[[lE ns g.ea],[lE ns g.eb],[lB ns g.ea g.eb]]++(aH<|L w.ac).flatMap (jJ ns g.eb)++(aH<|L<|aR ns 5).flatMap λj=>bt5 ns g.ea<|gd (aR ns 5) j
theorem bvj{p:Prop}(h:p:=by grind [Go.Ab.bD.sb]):p:=h
theorem aDH(C:bD Y b w ns out n wk a bm bo f)(M:jb w ns)(Wk:sE w ns)(hw:L w.ac<=16){g}(ha:aF (L w.ac) g.ea)(hb:aF (L w.ac) g.eb)(ax:g.ea≠g.eb)(ho:L out<90000000):∃r S,mS Y b w ns out (Ky ns w g) n wk a bm bo f r S/\cZ aS GG 93 [.p b 0 0, .a g.c] Y r S:=by have o:=M.ln;have aX:=Wk.ln;refine aKl C.le A λs2 v3 K2 aZ nf T=>?_;have F2:=K2.fx [];have N:=C.fx F2;have s:((3,v3):Id)≠b:=bvj;simp only[qy 4,eT,T];refine bpl N o (M.ex _ ha) ?_;simp only[a5Y,bQ,qz 6];refine bnk N Z [_] O λa1 S P A1=>?_;have x:=A1.keep T s<|N.ne T<|.inl A;simp only[qz 8,qy 10,eT,x];refine bpl P o (M.ex _ hb) ?_;simp only[a5Y,bQ,qz 12];refine bnk P NA [_] O λa2 Y2 R A2=>?_;have y:=A2.keep x s<|P.ne x<|.inl A;simp only[qz 14,qy 16,eT,y];refine kg R o (M.bf _ _ ha hb ax) ?_;simp only[a5Y,bQ,qz 18];refine bnk R NA [_] O λa3 Y3 C3 A3=>?_;have ap:=A3.keep y s<|R.ne y<|.inl A;have F:=C3.bx;have ag:=Ad.pre F2<|(A1.trans A2).trans A3;simp only[qz 20,bhO F,gQ,F];have ol:∀k,L ((aH k).flatMap<|jJ ns g.eb)<=k:=λk=>(by have:=jo (f:=jJ ns g.eb) (m:=1) (l:=aH k) (by grind [jJ]);simp_all);refine yV (L w.ac) (λk _ Y'=>∃v,bD Y' b w ns (out++[[lE ns g.ea],[lE ns g.eb],[lB ns g.ea g.eb]]++(aH k).flatMap (jJ ns g.eb)) n wk v bm bo f/\Ad Y Y' b a v/\box Y' (3,v3)=V ⟨48,6,U,U,[g.c]⟩) ⟨a3,by simpa using C3,ag,ap⟩ ?_;rintro k _ Y4 hk ⟨a4,u,A4,z⟩;simp only[qz 37,au,eT,qz 59,z];refine⟨λh=>⟨λW=>?_,λW=>?_⟩,λh=>?_⟩;have i:=aL h;have av:=aNQ W;have:=ol k;refine bpl u o (M.ex _<|dJ i) ?_;simp only[qz 22,de o,aY,u1,z,rk,aj];refine kg u o (M.bf _ _ (dJ i) hb av) ?_;simp only[qz 24,fi,bQ,qz 26];refine bnk u X [_,_] O λD Y5 B t=>?_;simp only[qz 28];refine dT ?_ ?_;have:=C.sb;clear s;obtain⟨aV,aW⟩:=b;simp only at this;subst this;simp[eL,lb,cq,aNG,dC,dK];simp only[qz 57,aI,au,cS,aY];refine yU i ⟨D,?_,A4.trans t,buK⟩;grind [a6z,jJ];simp only[qz 57,aI,au,cS,aY];refine yU (aL h) ⟨a4,?_,A4,z⟩;grind [a6z,jJ];have az:k=L w.ac:=X;subst az;have G:=u.bx;have:=ol<|L w.ac;simp only[bhO G,gQ,G,lnI u.gw,bJ];have wl:∀k,L ((aH k).flatMap λj=>bt5 ns g.ea<|gd (aR ns 5) j)<=k:=λk=>(by have:=jo (f:=λj=>bt5 ns g.ea<|gd (aR ns 5) j) (m:=1) (l:=aH k) λe _=>(by unfold bt5;split<;>simp);simp_all);refine yV (L<|aR ns 5) (λk _ Y'=>∃v,bD Y' b w ns (out++[[lE ns g.ea],[lE ns g.eb],[lB ns g.ea g.eb]]++(aH<|L w.ac).flatMap (jJ ns g.eb)++(aH k).flatMap λj=>bt5 ns g.ea<|gd (aR ns 5) j) n wk v bm bo f/\Ad Y Y' b a v/\box Y' (3,v3)=V ⟨48,6,U,U,[g.c]⟩) X ?_;rintro k _ Y5 hk ⟨D,B,t,aq⟩;simp only[qz 79,au,eQ,qz 101,qy 30];constructor<;>intro h;have i:=aL h;have:=wl k;have ay:gd (aR ns 5) k∈ns:=(jW.1<|dB i).1;rw[qB B.gw i];refine zm B.le λv6 Y6 F6 N6 d6=>?_;refine stI (cs:=aH8.c<|gd (aR ns 5) k) d6 A rfl H λY7 F7 d7=>?_;have ar:box Y7 (6,v6)=V ⟨98,3,U,U,[aH8.c<|gd (aR ns 5) k]⟩:=d7;have q:Fx Y5 Y7 []:=(F6.trans F7).mono aUw;have C7:=B.fx q;have E:=q.kq aq;have aB:aN (V 3) (aH8.c<|gd (aR ns 5) k)=V (.a<|aH8.c<|gd (aR ns 5) k):=A;simp only[qz 32,eT,ar,E,aB];constructor<;>intro W;refine lq C7 o ay ?_;simp only[qz 34,qy 36,qy 38,de o,aY,a5Y,bQ];refine bnk C7 (by grind [bZ]) [_] O λa8 Y8 C8 A8=>?_;simp only[qz 99,aI,au,cS,aY];refine yU i ⟨a8,?_,(t.fxn q).trans A8,buK⟩;grind [a6z,bt5];simp only[qz 99,aI,au,cS,aY];refine yU i ⟨D,?_,t.fxn q,E⟩;grind [a6z,bt5];obtain rfl:k=L (aR ns 5):=X;simp only[aRf,aoz];refine⟨D,A,?_,t⟩;grind [Ky]
def aEg(C:bD Y b w ns out n wk a bm bo f)(M:jb w ns)(Wk:sE w ns)(o:L w.ac<=16){g}(k:aF (L w.ac) g.ea)(l:aF (L w.ac) g.eb)(i:g.ea≠g.eb)(m:L out<90000000)(j:∀h e,bD e b w ns (out++Ky ns w g) n wk h bm bo f->Ad Y e b a h->K (.t []) e):cB 93 [.p b 0 0, .a g.c] Y d K:=bs1 A (aDH C M Wk o k l i m) j
def slW{x:AV}{l:List aH8}{k:Nat}(v:lI Y 98 3 x<|l.map aH8.c)(z:k<L l):∃s,fo 3 Y x (V<|iv ((k+1:Nat):Int)) J J=V s/\∀Y',lI Y' 98 3 x (l.map aH8.c)->fS Y' s=V (iv<|L<|l.drop<|k+1)/\∀j,j<L (l.drop<|k+1)->∀K:J3,(rV (cz 3 Y' s<|iv j) λt=>rV (sA (V 3) Y' t) K)=K (.a<|aH8.c<|gd (l.drop<|k+1) j):=by obtain⟨o,_⟩|⟨q,rfl,p⟩:=v;simp at o;subst o;simp at z;have m:lM (V<|iv ((k+1:Nat):Int))=V (V<|k+1):=(by show(if 0<=((k+1:Nat):Int) then V (V ((k+1:Nat):Int).toNat) else J)=_;rw[zg Z];simp);by_cases h:k+1=L l;refine⟨.l [] I I,?_,λY' _=>⟨?_,λj e=>?_⟩⟩;simp only[fo,m];simp[lM,qY,p,h];simp[fS,h];simp[h] at e;refine⟨.g 2 q (k+1)<|L l-(k+1),?_,λY' r=>?_⟩;simp only[fo,m];simp[lM,qY,p,h,show k+1<=L l by omega];have i:box Y' q=V ⟨98,3,U,I,l.map aH8.c⟩:=(by have:=r.ids q aBY;exact this);refine⟨?_,λj e K=>?_⟩;simp[fS,i,oz];rw[oz] at e;have u:k+1+j<L l:=Z;have y:gd (l.drop<|k+1) j=l[k+1+j]:=(by rw[aNV (by rwa [oz]),aqQ]);simp[cz,i,e,rV,sA,iE,aN,u,y,aH8.c]
theorem aDJ(C:bD Y b w ns out n wk a bm bo f)(M:jb w ns)(Wk:sE w ns)(hw:L w.ac<=16)(ho:L out<500000000):∃r Y1,mS Y b w ns out (((aH<|L<|aR ns 5).flatMap λk=>iW ns<|gd (aR ns 5) k)++((aH<|L<|aR ns 5).flatMap (lP ns<|aR ns 5)++((aH<|L<|aR ns 5).flatMap (lQ ns w<|aR ns 5)++((aH<|L<|aR ns 5).flatMap λk=>qw ns w<|gd (aR ns 5) k)))) n wk a bm bo f r Y1/\cZ aS GG 159 [.p b 0 0] Y r Y1:=by have q:=M.ln;have b4:=Wk.ln;refine aKn C.le ?_;have bx:=C.bx;have aC:∀x∈aR ns 5,x∈ns:=λx hx=>(jW.1 hx).1;have bt:=Wk.ok;have y:∀{x:aH8},aN (V 3) (aH8.c x)=V (.a<|aH8.c x):=A;have B1:∀k,L ((aH k).flatMap λk=>iW ns<|gd (aR ns 5) k)<=k*3:=λk=>(by have:=jo (f:=λk=>iW ns<|gd (aR ns 5) k) (m:=3) (l:=aH k) (by grind [iW]);simp_all);simp only[Hy,bhO bx,gQ,bx,lnI C.gw,bJ];refine yV (L<|aR ns 5) (λk _ Y'=>∃o,bD Y' b w ns (out++(aH k).flatMap λk=>iW ns<|gd (aR ns 5) k) n wk o bm bo f/\Ad Y Y' b a o) bul ?_;rintro k _ Y1 hk ⟨a1,C1,A1⟩;have l1:=B1 k;simp only[qz 13,au,eQ];constructor<;>intro h;have i:=aL h;refine bsf (λg=>∀Y8 a8,bD Y8 b w ns (out++(aH k).flatMap (λk=>iW ns<|gd (aR ns 5) k)++iW ns (gd (aR ns 5) k)) n wk a8 bm bo f->Ad Y Y8 b a a8->g [] Y8) ?_ λg ak=>?_;intro Y8 a8 C8 A8;simp only[qz 33,aI,au,cS,aY];refine yU i ⟨a8,?_,A8⟩;grind [a6z];simp only[qz 35,qy 2,au];obtain⟨o1,o2,o3⟩:=bt _<|dB i;rw[qB C1.gw i];refine zm C1.le λv2 Y2 F2 N2 d2=>?_;refine stI (cs:=aH8.c<|gd (aR ns 5) k) d2 A rfl H λY3 F3 d3=>?_;have aq:box Y3 (3,v2)=V ⟨98,3,U,U,[aH8.c<|gd (aR ns 5) k]⟩:=d3;have aQ:Fx Y1 Y3 []:=(F2.trans F3).mono aUw;have C3:=C1.fx aQ;have A3:=A1.fxn aQ;have al:((3,v2):Id)≠b:=bvj;have G:=aC _<|dB i;generalize gd (aR ns 5) k=x at*;simp only[qz 4,eQ,aq,y];refine lq C3 q G ?_;simp only[qz 6,de q,aY,u1,aq,rk,aj];refine bpl C3 q (M.ex _ o1) ?_;simp only[qz 8,fi,bQ,qz 10];refine bnk C3 X [_,_] O λa4 P z A4=>?_;have R:=A4.keep aq al<|C3.ne aq<|.inl A;have kb:∀{p:Prop},(∀D S,b=(D,S)->D=18->p)->p:=λh=>h b.1 b.2 A C.sb;simp only[qz 12];refine dT ?_ ?_;have:=C.sb;clear al ak;obtain⟨D,S⟩:=b;simp only at this;subst this;simp[eL,lb,cq,aNG,dC,dK];simp only[eT,R,y];constructor<;>intro h0;have bp:=aNQ h0;obtain⟨p1,p2⟩:=o3 bp;refine lq z q G ?_;simp only[qz 14,de q,aY,u1,R,rk,aj];refine bpl z q (M.ex _ p1) ?_;simp only[qz 16,fi,bQ,qz 18];refine bnk z X [_,_] O λa5 W v T=>?_;have d5:=T.keep R al<|z.ne R<|.inl A;simp only[qz 20];refine dT ?_ ?_;have:=C.sb;clear al ak kb;obtain⟨D,S⟩:=b;simp only at this;subst this;simp[eL,lb,cq,aNG,dC,dK];simp only[eQ,d5,y];refine lq v q G ?_;simp only[qz 22,de q,aY,u1,d5,rk,aj];refine kg v q (M.bf _ _ p1 o1 p2) ?_;simp only[qz 24,fi,bQ,qz 26];refine bnk v X [_,_] O λa6 Y6 C6 A6=>?_;simp only[qz 28];refine dT ?_ (ak Y6 a6 ?_<|by grind [Ad.trans]);have:=C.sb;clear al ak kb;obtain⟨D,S⟩:=b;simp only at this;subst this;simp[eL,lb,cq,aNG,dC,dK];grind [iW];refine ak P a4 ?_<|A3.trans A4;grind [iW];have an:k=L (aR ns 5):=X;subst an;have aU:=C1.bx;simp only[bhO aU,gQ,aU,lnI C1.gw,bJ];generalize b1:out++(aH<|L<|aR ns 5).flatMap (λk=>iW ns<|gd (aR ns 5) k)=O1 at*;have bR:L O1<500010000:=X;have B2:∀k,L ((aH k).flatMap<|lP ns<|aR ns 5)<=k*1000:=λk=>(by have:=jo (f:=lP ns<|aR ns 5) (m:=1000) (l:=aH k) λe _=>(by have h1:=jo (f:=λj=>ju ns (gd (aR ns 5) e)<|gd ((aR ns 5).drop<|e+1) j) (m:=1) (l:=aH<|L<|(aR ns 5).drop<|e+1) λj _=>(by unfold ju;split<;>simp);refine gl h1 ?_;rw[bnJ,oz];omega);simp_all);refine yV (L<|aR ns 5) (λk _ Y'=>∃o,bD Y' b w ns (O1++(aH k).flatMap (lP ns<|aR ns 5)) n wk o bm bo f/\Ad Y Y' b a o) X ?_;rintro k _ Y2 hk ⟨a2,B,A2⟩;have l2:=B2 k;simp only[qz 73,qy 30,au,eQ];constructor<;>intro h;have i:=aL h;have G:=aC _<|dB i;rw[qB B.gw i];refine zm B.le λv5 Y3 F3 N3 d3=>?_;refine stI (cs:=aH8.c<|gd (aR ns 5) k) d3 A rfl H λP F4 R=>?_;have aW:box P (5,v5)=V ⟨98,3,U,U,[aH8.c<|gd (aR ns 5) k]⟩:=R;have ap:Fx Y2 P []:=(F3.trans F4).mono aUw;have z:=B.fx ap;have af:=z.bx;obtain⟨s,hs,F⟩:=slW z.gw i;have am:((5,v5):Id)≠b:=X;have aD:dq.wrap ((k:Int)+1)=((k+1:Nat):Int):=fX Z;simp only[qz 32,bhO af,gQ,af,aD,hs,(F P z.gw).1];refine yV (L<|(aR ns 5).drop<|k+1) (λj _ Y'=>∃o,bD Y' b w ns (O1++(aH k).flatMap (lP ns<|aR ns 5)++(aH j).flatMap λj=>ju ns (gd (aR ns 5) k)<|gd ((aR ns 5).drop<|k+1) j) n wk o bm bo f/\Ad Y Y' b a o/\box Y' (5,v5)=V ⟨98,3,U,U,[aH8.c<|gd (aR ns 5) k]⟩) bvi ?_;rintro j _ W hj ⟨a5,v,T,d5⟩;have l5:L ((aH j).flatMap λj=>ju ns (gd (aR ns 5) k)<|gd ((aR ns 5).drop<|k+1) j)<=j:=(by have:=jo (f:=λj=>ju ns (gd (aR ns 5) k)<|gd ((aR ns 5).drop<|k+1) j) (m:=1) (l:=aH j) λj _=>(by unfold ju;split<;>simp);simp_all);have br:L ((aR ns 5).drop<|k+1)<=1000:=X;simp only[qz 109,au,eQ,qz 131,qy 34];constructor<;>intro h2;have E:=aL h2;have aE:gd ((aR ns 5).drop<|k+1) j∈ns:=bv8;rw[(F W v.gw).2 j E];refine zm v.le λv7 Y6 F6 N6 d6=>?_;refine stI (cs:=aH8.c<|gd ((aR ns 5).drop<|k+1) j) d6 A rfl H λY7 F7 d7=>?_;have ah:box Y7 (7,v7)=V ⟨98,3,U,U,[aH8.c<|gd ((aR ns 5).drop<|k+1) j]⟩:=d7;have t:Fx W Y7 []:=(F6.trans F7).mono aUw;have N:=v.fx t;have u:=t.kq d5;simp only[qz 36,eT,ah,u,y];constructor<;>intro h3;refine lq N q G ?_;simp only[qz 38,de q,aY,u1,ah,y];refine lq N q aE ?_;simp only[qz 40,de q,aY,fi,bQ,qz 42];refine bnk N X [_,_] O λa8 Y8 C8 A8=>?_;simp only[qz 44];refine dT ?_ ?_;have:=C.sb;clear am;obtain⟨D,S⟩:=b;simp only at this;subst this;simp[eL,lb,cq,aNG,dC,dK];simp only[qz 129,aI,au,cS,aY];refine yU E ⟨a8,?_,(T.fxn t).trans A8,A8.keep u am<|N.ne u<|.inl A⟩;grind [a6z,ju];simp only[qz 129,aI,au,cS,aY];refine yU E ⟨a5,?_,T.fxn t,u⟩;grind [a6z,ju];have bs:j=L ((aR ns 5).drop<|k+1):=X;subst bs;refine yU i ⟨a5,?_,T⟩;rwa [a6z,<-bje];have an:k=L (aR ns 5):=X;subst an;have ae:=B.bx;simp only[bhO ae,gQ,ae,lnI B.gw,bJ];generalize b2:O1++(aH<|L<|aR ns 5).flatMap (lP ns<|aR ns 5)=O2 at*;have bS:L O2<501010000:=X;have B3:∀k,L ((aH k).flatMap<|lQ ns w<|aR ns 5)<=k*1000:=λk=>(by have:=jo (f:=lQ ns w<|aR ns 5) (m:=1000) (l:=aH k) λe _=>(by have h1:=jo (f:=λj=>jk ns w (gd (aR ns 5) e)<|gd ((aR ns 5).drop<|e+1) j) (m:=1) (l:=aH<|L<|(aR ns 5).drop<|e+1) λj _=>(by unfold jk;split<;>simp);refine gl h1 ?_;rw[bnJ,oz];omega);simp_all);refine yV (L<|aR ns 5) (λk _ Y'=>∃o,bD Y' b w ns (O2++(aH k).flatMap (lQ ns w<|aR ns 5)) n wk o bm bo f/\Ad Y Y' b a o) X ?_;rintro k _ Y2 hk ⟨a2,B,A2⟩;have l2:=B3 k;simp only[qz 157,qy 46,au,eQ];constructor<;>intro h;have i:=aL h;have G:=aC _<|dB i;rw[qB B.gw i];refine zm B.le λv5 Y3 F3 N3 d3=>?_;refine stI (cs:=aH8.c<|gd (aR ns 5) k) d3 A rfl H λP F4 R=>?_;have aW:box P (9,v5)=V ⟨98,3,U,U,[aH8.c<|gd (aR ns 5) k]⟩:=R;have ap:Fx Y2 P []:=(F3.trans F4).mono aUw;have z:=B.fx ap;have af:=z.bx;obtain⟨s,hs,F⟩:=slW z.gw i;have am:((9,v5):Id)≠b:=X;have aD:dq.wrap ((k:Int)+1)=((k+1:Nat):Int):=fX Z;simp only[qz 48,bhO af,gQ,af,aD,hs,(F P z.gw).1];refine yV (L<|(aR ns 5).drop<|k+1) (λj _ Y'=>∃o,bD Y' b w ns (O2++(aH k).flatMap (lQ ns w<|aR ns 5)++(aH j).flatMap λj=>jk ns w (gd (aR ns 5) k)<|gd ((aR ns 5).drop<|k+1) j) n wk o bm bo f/\Ad Y Y' b a o/\box Y' (9,v5)=V ⟨98,3,U,U,[aH8.c<|gd (aR ns 5) k]⟩) ⟨a2,X,A2.fxn ap,aW⟩ ?_;rintro j _ W hj ⟨a5,v,T,d5⟩;have l5:L ((aH j).flatMap λj=>jk ns w (gd (aR ns 5) k)<|gd ((aR ns 5).drop<|k+1) j)<=j:=(by have:=jo (f:=λj=>jk ns w (gd (aR ns 5) k)<|gd ((aR ns 5).drop<|k+1) j) (m:=1) (l:=aH j) λj _=>(by unfold jk;split<;>simp);simp_all);have br:L ((aR ns 5).drop<|k+1)<=1000:=X;simp only[qz 193,au,eQ,qz 215,qy 50];constructor<;>intro h2;have E:=aL h2;have aE:gd ((aR ns 5).drop<|k+1) j∈ns:=bv8;rw[(F W v.gw).2 j E];refine zm v.le λv7 Y6 F6 N6 d6=>?_;refine stI (cs:=aH8.c<|gd ((aR ns 5).drop<|k+1) j) d6 A rfl H λY7 F7 d7=>?_;have ah:box Y7 (11,v7)=V ⟨98,3,U,U,[aH8.c<|gd ((aR ns 5).drop<|k+1) j]⟩:=d7;have t:Fx W Y7 []:=(F6.trans F7).mono aUw;have N:=v.fx t;have u:=t.kq d5;have aV:=N.bx;simp+contextual only[qz 52,jT,ah,u,bhO aV,aV,y];refine⟨bv8,λh3=>?_,λh3=>?_⟩;refine lq N q G ?_;simp only[qz 54,de q,aY,u1,ah,y];refine lq N q aE ?_;simp only[qz 56,de q,aY,fi,bQ,qz 58];refine bnk N X [_,_] O λa8 Y8 C8 A8=>?_;simp only[qz 60];refine dT ?_ ?_;have:=C.sb;clear am;obtain⟨D,S⟩:=b;simp only at this;subst this;simp[eL,lb,cq,aNG,dC,dK];simp only[qz 213,aI,au,cS,aY];refine yU E ⟨a8,?_,(T.fxn t).trans A8,A8.keep u am<|N.ne u<|.inl A⟩;grind [a6z,jk];simp only[qz 213,aI,au,cS,aY];refine yU E ⟨a5,?_,T.fxn t,u⟩;rwa [a6z,<-bje,jk,za vB,cL];obtain rfl:j=L ((aR ns 5).drop<|k+1):=X;refine yU i ⟨a5,?_,T⟩;rwa [a6z,<-bje];have an:k=L (aR ns 5):=X;subst an;have ae:=B.bx;simp only[bhO ae,gQ,ae,lnI B.gw,bJ];generalize b3:O2++(aH<|L<|aR ns 5).flatMap (lQ ns w<|aR ns 5)=O3 at*;have bT:L O3<502010000:=X;have B4:∀x,L (qw ns w x)<=1001:=λx=>(by have h1:=jo (f:=btq ns w (aR ns 5) x) (m:=1) (l:=aH<|L<|(aR ns 5).filter<|eZ x) λj _=>(by simp[btq]);grind [qw]);have B5:∀k,L ((aH k).flatMap λk=>qw ns w<|gd (aR ns 5) k)<=k*1001:=λk=>(by have:=jo (f:=λk=>qw ns w<|gd (aR ns 5) k) (m:=1001) (l:=aH k) λe _=>B4 _;simp_all);refine yV (L<|aR ns 5) (λk _ Y'=>∃o,bD Y' b w ns (O3++(aH k).flatMap λk=>qw ns w<|gd (aR ns 5) k) n wk o bm bo f/\Ad Y Y' b a o) X ?_;rintro k _ Y3 hk ⟨a3,C3,A3⟩;have l3:=B5 k;simp only[qz 235,qy 62,au,eQ];constructor<;>intro h;have i:=aL h;have l4:=B4<|gd (aR ns 5) k;rw[qB C3.gw i];refine zm C3.le λv5 P F4 N4 R=>?_;refine stI (cs:=aH8.c<|gd (aR ns 5) k) R A rfl H λW F5 d5=>?_;have bn:box W (13,v5)=V ⟨98,3,U,U,[aH8.c<|gd (aR ns 5) k]⟩:=d5;have aT:Fx Y3 W []:=(F4.trans F5).mono aUw;have v:=C3.fx aT;simp only[qz 64,eQ,bn,y];refine bs1 A (aDx v M Wk hw (dB i) X) λa6 Y6 C6 A6=>?_;simp only[qz 66,au,cS,aY];refine yU i ⟨a6,?_,(A3.fxn aT).trans A6⟩;grind [a6z];obtain rfl:k=L (aR ns 5):=X;simp only[aRf,aoz];refine⟨a3,A,?_,A3⟩;grind
def oa(r:Nat)(x:aH8):Bool:=Q (x.kind=4)&&Q (x.a=(r:Int))
structure GU(w:am)(ns:List aH8):Prop where
 eq:∀r,r<L w.ac->fR (gd w.ac r)=U->ns.filter (oa r)=(dx w r).map λs=>(⟨4,(r:Int),s⟩:aH8)
 ok:∀r:Nat,∀s∈dx w r,0<=s->aF (L w.ac) s/\s≠(r:Int)
 ln:∀r:Nat,L (dx w r)<=1000
theorem aDV(C:bD Y b w ns out n wk a bm bo f)(M:jb w ns)(D:bu4 w)(S:GU w ns)(bw:∀k,k<L w.ac->aF (L w.aQ.ay) (gd w.ac k).aq)(hw:L w.ac<=16)(ho:L out+L ((aH<|L w.ac).flatMap<|bsS ns w)<999990000):∃r Y1,mS Y b w ns out ((aH<|L w.ac).flatMap<|bsS ns w) n wk a bm bo f r Y1/\cZ aS GG 161 [.p b 0 0] Y r Y1:=by have R:=M.ln;refine aKy C.le ?_;have bx:=C.bx;have ap:∀{x:aH8},aN (V 3) (aH8.c x)=V (.a<|aH8.c x):=A;simp only[bhO bx,gQ,bx];refine yV (L w.ac) (λk _ Y'=>∃a',bD Y' b w ns (out++(aH k).flatMap (bsS ns w)) n wk a' bm bo f/\Ad Y Y' b a a') bul ?_;rintro r _ Y1 hr ⟨a1,C1,A1⟩;simp only[qz 7,au,eQ];constructor<;>intro h;have m:=aL h;refine bsf (λe=>∀F a8,bD F b w ns (out++(aH r).flatMap (bsS ns w)++bsS ns w r) n wk a8 bm bo f->Ad Y F b a a8->e [] F) ?_ λe al=>?_;intro F a8 C8 A8;simp only[qz 27,aI,au,cS,aY];refine yU m ⟨a8,?_,A8⟩;grind [a6z];simp only[qz 29,qy 2,au,u0,ix,rk,bh];refine⟨dJ m,?_⟩;have l1:=fU (f:=bsS ns w)<|show r+1<=L w.ac from m;rw[a6z,a6G] at l1;refine zm C1.le λv Y2 F2 N2 b2=>?_;refine stI (y:=7) (cs:=aP.c<|gd w.ac r) b2 A rfl H λY3 F3 b3=>?_;have bi:box Y3 (3,v)=V ⟨71,7,U,U,[aP.c<|gd w.ac r]⟩:=b3;have aJ:Fx Y1 Y3 []:=(F2.trans F3).mono aUw;have C3:=C1.fx aJ;have A3:=A1.fxn aJ;simp only[qz 4,oj,bi,amn];constructor<;>intro h1;refine al Y3 a1 ?_ A3;grind [bsS];have ao:fR (gd w.ac r)=U:=X;have bq:bsS ns w r=[[-lF ns r,lE ns r],-lF ns r::(dx w r).map (lS ns r)]++(aH<|L<|dx w r).flatMap (λj=>iP ns w r<|gd (dx w r) j):=(by grind [bsS]);have aO:=M.fx _ (dJ m) (by simpa using ao);have hS:=S.eq r m ao;have cb:=S.ln r;have bp:=S.ok r;rw[bq] at l1 al;simp only[a6G,bZ,bhZ] at l1;refine AQ C3 R aO ?_;simp only[qz 6,de R,aY,au];refine bpl C3 R (M.ex _<|dJ m) ?_;simp only[qz 8,fi,bQ,qz 10];refine bnk C3 X [_,_] O λa4 Y4 E A4=>?_;simp only[qz 12,au];refine AQ E R aO ?_;have aK:=E.bx;simp only[qz 14,de R,aY,a5Y,bQ];obtain⟨t,o',rfl⟩:=E.nm;simp only[qz 16,bhO aK,gQ,aK,gT];refine jD (α:=AV×AV) (λa i=>[a.1,a.2,iv i]) 2 (L ns) (λk a Y'=>gA Y' 3 1 a.1 ((-lF ns r::((ns.take k).filter<|oa r).map (dP ns)).map ci)/\lI Y' 98 3 a.2 (((ns.take k).filter<|oa r).map aH8.c)/\Fx Y4 Y' []/\(∀q∈aA a.1,bK Y4 q/\q.1=66)/\∀q∈aA a.2,bK Y4 q/\q.1=60) (s0:=(_, .l [] U U)) ⟨.inl ⟨U,A⟩,lI.nil,Fx.refl _ _,aBY,aBY⟩ ?_;rintro k ⟨y,o⟩ Y5 hk ⟨gy,go,F5,Py,Po⟩;simp only at gy go Py Po;have C5:=E.fx F5;simp only[qz 79,au,gg,qz 101,qy 18,lX,bh];refine⟨λh2=>⟨vp h2,?_⟩,λh2=>?_⟩;have z:=aL h2;refine zm C5.le λv7 Y6 F6 N6 d6=>?_;refine stI (cs:=aH8.c<|gd ns k) d6 A rfl H λY7 F7 d7=>?_;have aM:box Y7 (7,v7)=V ⟨98,3,U,U,[aH8.c<|gd ns k]⟩:=d7;have T:Fx Y5 Y7 []:=(F6.trans F7).mono aUw;have W:=F5.trans T;have C7:=E.fx W;have bl:=gy.fx T O;have G:=go.fx T O;have ce:L ((ns.take k).filter<|oa r)<=k:=X;simp+contextual only[qz 20,qy 22,eT,aM,ap,Db];constructor<;>intro hb;refine gD G A H (by rw[C7.le];decide) uT uT X λo8 F g8 F8 cd bv=>?_;have ag:Fx Y4 F []:=(W.trans F8).mono aUw;have d8:=F8.keep _ _ (λB=>by have:=(Po _ B).2;simp at this) aM;have bn:=bl.fx F8 X;simp only[qz 24,eQ,d8,ap];refine lq (E.fx ag) R (dB z) ?_;simp only[qz 26,qy 28,qy 30,a5Y,bQ,au];refine bt0 bn A H (by rw[ag.len,E.le];decide) fF fF X λy9 Y9 g9 F9 bt=>?_;simp only[qz 99,aI,au,gt1,nr,cS,aY];refine dR (p:=2) (mk:=λ(a:AV×AV) i=>[a.1,a.2,iv i]) (s:=(y,o)) (s':=(y9,o8)) (λ_ _=>A) z Z ⟨?_,?_,(ag.trans F9).mono aUw,λq B=>?_,λq B=>?_⟩;rw[pH z,zg<|by grind [oa]];grind;rw[pH z,zg (by grind [oa]),dg];refine g8.fx F9 λq B an=>?_;have h1:=(Py q an).2;obtain P|P:=bv q B;grind;omega;obtain P|P:=bt q B;exact Py q P;grind [bK.old];refine⟨?_,X⟩;grind [bK.old];simp only[qz 99,aI,au,gt1,nr,cS,aY];have cc:¬oa r (gd ns k)=U:=(by grind [oa]);refine dR (p:=2) (mk:=λ(a:AV×AV) i=>[a.1,a.2,iv i]) (s:=(y,o)) (s':=(y,o)) (λ_ _=>A) z Z ⟨?_,?_,W,Py,Po⟩;grind [pH];grind [pH];have bu:k=L ns:=X;subst bu;rw[gV,hS] at gy go;have br:(-lF ns r::((dx w r).map λs=>(⟨4,(r:Int),s⟩:aH8)).map (dP ns))= -lF ns r::(dx w r).map (lS ns r):=O;rw[br] at gy;have bs:∀j,j<L (dx w r)->gd ((dx w r).map λs=>(⟨4,(r:Int),s⟩:aH8)) j=⟨4,(r:Int),gd (dx w r) j⟩:=brU;have a9:∀s∈dx w r,(⟨4,(r:Int),s⟩:aH8)∈ns:=λs hs=>(by have:(⟨4,(r:Int),s⟩:aH8)∈ns.filter (oa r):=X;grind);refine Ea C5 X _ gy NA X λa6 Y6 C6 A6=>?_;have b8:=((A3.trans A4).fxn F5).trans A6;have N:∀{Ya Yb:ae} {aa ab:AV} {oo:List (eu)},bD Ya b w ns oo (.l (ns.map aH8.c) t o') wk aa bm bo f->Ad Ya Yb b aa ab->lI Ya 98 3 o (((dx w r).map λs=>(⟨4,(r:Int),s⟩:aH8)).map aH8.c)->lI Yb 98 3 o (((dx w r).map λs=>(⟨4,(r:Int),s⟩:aH8)).map aH8.c):=(by intro Ya Yb aa ab oo Ca Aa g;refine g.fx Aa.fx λq B an=>?_;obtain h|h:=eW.1 an;grind [bD.sb];exact Ca.ne (g.ids q B) (.inr O) h);have bk:=N C5 A6 go;simp only[qz 32,gt1,u0,lnI bk,bJ];refine yV (L<|dx w r) (λj _ Y'=>∃a',bD Y' b w ns (out++(aH r).flatMap (bsS ns w)++[[-lF ns r,lE ns r],-lF ns r::(dx w r).map (lS ns r)]++(aH j).flatMap λj=>iP ns w r<|gd (dx w r) j) (.l (ns.map aH8.c) t o') wk a' bm bo f/\Ad Y Y' b a a'/\lI Y' 98 3 o (((dx w r).map λs=>(⟨4,(r:Int),s⟩:aH8)).map aH8.c)) X ?_;rintro j _ Y7 hj ⟨a7,C7,A7,G⟩;simp only[qz 133,qy 34,au,eQ];constructor<;>intro P;have u:=aL P;have l7:=fU (f:=λj=>iP ns w r<|gd (dx w r) j)<|show j+1<=L (dx w r) from u;rw[a6z,a6G] at l7;rw[qB G X,bs j u];refine zm C7.le λv9 F F8 N8 d8=>?_;refine stI (cs:=aH8.c ⟨4,(r:Int),gd (dx w r) j⟩) d8 A rfl H λY9 F9 d9=>?_;have bj:box Y9 (9,v9)=V ⟨98,3,U,U,[aH8.c ⟨4,(r:Int),gd (dx w r) j⟩]⟩:=d9;have ad:Fx Y7 Y9 []:=(F8.trans F9).mono aUw;have C9:=C7.fx ad;simp only[qz 36,eQ,bj,ap];refine aEj C9 M D bw hw m ao (a9 _<|dB u) (bp _<|dB u) (by grind [a6G,bZ,bhZ]) λbf ca b9 aG=>?_;simp only[qz 38,au,cS,aY];refine yU u ⟨bf,?_,(A7.fxn ad).trans aG,N C9 aG<|G.fx ad O⟩;grind [a6z];refine al Y7 a7 ?_ A7;grind;obtain rfl:r=L w.ac:=X;exact⟨a1,A,C1,A1⟩
structure bwY(N:Nat)(p q:bp):Prop where
 prel:0<=p.dY->aF N p.dY
 held:p.dD<0->q.dD<0\/(0<=p.dY/\aF N p.dY/\aF N q.dD/\p.dY≠q.dD)
 own:0<=p.dD->aF N p.dD/\aF N q.dD/\p.dD≠q.dD/\(0<=p.dY->aF N p.dY/\p.dY≠q.dD)/\(0<=q.dY->aF N q.dY/\q.dY≠p.dD)
theorem anl(C:bD Y b w ns out n wk a bm bo f)(M:jb w ns){l t o}(hl:L l<=100)(hS:∀i j,i<j->j<L l->(gd l i).aq≠(gd l j).aq->¬((gd l i).read=U/\(gd l j).read=U)->bwY (L w.ac) (gd l i) (gd l j))(ho:L out<800000000):∃r Y1,mS Y b w ns out (rL ns l) n wk a bm bo f r Y1/\cZ aS GG 156 [.p b 0 0, .l (l.map bp.c) t o] Y r Y1:=by have:=M.ln;refine aKc C.le ?_;have AG:∀{Y:ae} {i:Int} {K:J3} {l:List bp} {t o:Bool},rV (cz 4 Y (.l (l.map bp.c) t o)<|iv i) K=(aF (L l) i/\K (.q<|bp.c<|gd l i.toNat)):=λ{Y i K l t o}=>aBz (Y:=Y) (f:=bp.c) λ_=>A;have aa:∀i k,L ((aH k).flatMap λj=>iA ns (gd l i)<|gd (l.drop<|i+1) j)<=k*4:=λi k=>(by have:=jo (f:=λj=>iA ns (gd l i)<|gd (l.drop<|i+1) j) (m:=4) (l:=aH k) λe _=>axk;simp_all);have av:∀k,L ((aH k).flatMap<|mw ns l)<=k*400:=λk=>(by have:=jo (f:=mw ns l) (m:=400) (l:=aH k) λe _=>(gl (aa e _)<|by grind);simp_all);simp only[gT,u0];refine yV (L l) (λk _ Y'=>∃P,bD Y' b w ns (out++(aH k).flatMap (mw ns l)) n wk P bm bo f/\Ad Y Y' b a P) bul ?_;rintro k _ Y1 hk ⟨a1,C1,A1⟩;have:=av k;simp only[qz 7,qy 2,au,eQ,AG,D2,bh];refine⟨λh=>⟨vp h,?_⟩,λh=>?_⟩;have aK:=aL h;refine zm C1.le λv5 Y2 F2 N2 b2=>?_;refine stI (y:=4) (cs:=bp.c<|gd l k) b2 A rfl H λY3 F3 b3=>?_;have:box Y3 (5,v5)=V ⟨319,4,U,U,[bp.c<|gd l k]⟩:=b3;have ay:Fx Y1 Y3 []:=(F2.trans F3).mono aUw;have:=C1.fx ay;have aG:((5,v5):Id)≠b:=bvj;simp only[qz 4,au,cS,aY];rw[fX Z,slS,bh];refine⟨Z,?_⟩;simp only[gT,u0];refine yV (L<|l.drop<|k+1) (λj _ Y'=>∃P,bD Y' b w ns (out++(aH k).flatMap (mw ns l)++(aH j).flatMap λj=>iA ns (gd l k)<|gd (l.drop<|k+1) j) n wk P bm bo f/\Ad Y Y' b a P/\box Y' (5,v5)=V ⟨319,4,U,U,[bp.c<|gd l k]⟩) bvi ?_;rintro j _ Y4 hj ⟨a4,C4,A4,b4⟩;have:=aa k j;have:L (l.drop<|k+1)<=100:=X;simp only[qz 43,au,eQ];constructor<;>intro h2;have z:=aL h2;refine bsf (λg=>∀x B,bD x b w ns (out++(aH k).flatMap (mw ns l)++(aH j).flatMap (λj=>iA ns (gd l k)<|gd (l.drop<|k+1) j)++iA ns (gd l k) (gd (l.drop<|k+1) j)) n wk B bm bo f->Ad Y x b a B->box x (5,v5)=V ⟨319,4,U,U,[bp.c<|gd l k]⟩->g [] x) ?_ λg v=>?_;intro x B C8 A8 b8;simp only[qz 63,aI,au,cS,aY];refine yU z ⟨B,?_,A8,b8⟩;grind [a6z];simp only[qz 65,qy 6,au,u0,AG,D2,bh];refine⟨dJ z,?_⟩;have T:=hS k (k+1+j) Z (by rw[oz] at z;omega);have aM:gd l (k+1+j)=gd (l.drop<|k+1) j:=(by rw[oz] at z;rw[aNV Z,aNV vB,aqQ]);rw[aM] at T;refine zm C4.le λv7 Y5 F5 N5 d5=>?_;refine stI (y:=4) (cs:=bp.c<|gd (l.drop<|k+1) j) d5 A rfl H λY6 F6 d6=>?_;have R:box Y6 (7,v7)=V ⟨319,4,U,U,[bp.c<|gd (l.drop<|k+1) j]⟩:=d6;have N:Fx Y4 Y6 []:=(F5.trans F6).mono aUw;have C6:=C4.fx N;have A6:=A4.fxn N;have b6:=N.kq b4;have aJ:((7,v7):Id)≠b:=bvj;generalize gd l k=p at*;generalize gd (l.drop<|k+1) j=q at*;simp+contextual only[qz 8,qy 10,eS,b6,R,aoj,En,aok,Bj];have:L (out++(aH k).flatMap (mw ns l)++(aH j).flatMap λj=>iA ns p<|gd (l.drop<|k+1) j)<900000000:=X;refine⟨λD=>?_,λD=>⟨λh4=>?_,λh4=>?_⟩⟩;refine v Y6 a4 ?_ A6 b6;simp only[fH,bN,awG] at D;rwa [iA,zg X,cL];simp only[cP,aPs] at D;have W:¬(p.read=U/\q.read=U):=vB;have F:=T D.1 W;have u:=aNQ h4;have S:iA ns p q=uf ns p.dY q.dD:=(by obtain E|⟨E,h6,h7,h8⟩:=F.held u;grind [iA,uf];have:=h7.1;rw[iA,za vB,zg u,uf,za Z]);rw[S] at v;refine aEe C6 M Z (λs=>?_) (λs=>?_) ?_ λa7 Y7 C7 G=>v Y7 a7 C7 (A6.trans G) buK;exact F.prel s;obtain E|⟨E,h6,h7,h8⟩:=F.held u;omega;exact h7;obtain E|⟨E,h6,h7,h8⟩:=F.held u;exact .inr E;omega;simp only[cP,aPs] at D;have W:¬(p.read=U/\q.read=U):=vB;have F:=T D.1 W;have u:=bsX h4;obtain⟨q1,q2,q3,q4,q5⟩:=F.own Z;have S:iA ns p q=jI ns p.dD p.dY q.dD++jI ns q.dD q.dY p.dD:=(by have:=q2.1;rw[iA,za X,za u]);rw[S] at v;refine anx C6 M Z q1 q2 (λs=>(q4 s).1) q3 (λs=>(q4 s).2) λa7 Y7 C7 G=>?_;have b7:=G.keep b6 aG<|C6.ne b6<|.inl A;have d7:=G.keep R aJ<|C6.ne R<|.inl A;have:L (jI ns p.dD p.dY q.dD)<=2:=(by unfold jI;split<;>simp);simp only[qz 12,qy 14,eQ,b7,d7,Bj];refine anx C7 M X q2 q1 (λs=>(q5 s).1) (λe=>q3 e.symm) (λs=>(q5 s).2) λB x C8 A8=>v x B X ((A6.trans G).trans A8) buK;obtain rfl:j=L (l.drop<|k+1):=X;refine yU aK ⟨a4,?_,A4⟩;rwa [a6z,<-bje];obtain rfl:k=L l:=X;simp only[aRf,aoz];exact⟨a1,A,C1,A1⟩
theorem anm(C:bD Y b w ns out n wk a bm bo f)(hn:L ns<100000):∃r i,(∃a1,r= .a [iv<|L w.ac,iv<|L ns,a1,a]/\lI i 246 3 a1 ((lL ns).map bqR.c)/\lI i 25 1 a (out.map λc=>[sl ci c])/\Fx Y i [])/\cZ aS GG 96 [.p b 0 0] Y r i:=by refine aKg C.le ?_;refine zm C.le λv1 i F1 N1 b1=>?_;have s:=C.fx F1;have bx:=s.bx;obtain⟨t,o,rfl⟩:=s.nm;simp only[qz 2,qy 4,bhO bx,gQ,bx,gT];have aw:bM pj bst [(0,iv<|L w.ac),(1,iv<|L ns),(3,a)]=V (.a [iv<|L w.ac,iv<|L ns, .l [] U U,a]):=(by simp[bM,aly,ms s.gr,zU]);simp only[aw,u0];refine zm s.le λP Y2 F2 N2 b2=>?_;refine stI (y:=4) (cs:=[iv<|L w.ac,iv<|L ns, .l [] U U,a]) b2 A rfl H λm F3 b3=>?_;have ao:box m (3,P)=V ⟨104,4,U,U,[[iv<|L w.ac,iv<|L ns, .l [] U U,a]]⟩:=b3;have u:Fx i m []:=(F2.trans F3).mono aUw;have R:=s.fx u;have F:=R.bx;have am:=u.kq b1;simp only[qz 6];refine dT ?_ ?_;have W:=C.sb;have aB:=C.sa;have ay:=C.gr;clear bx F;obtain⟨a6,a8⟩:=b;simp only at W;subst W;obtain⟨_,rfl⟩|⟨⟨d',v'⟩,rfl,_⟩:=ay;rfl;have:=aB (d',v') aBY;simp only at this;subst this;rfl;simp only[bhO F,gQ,F,gT];have aE:∀{x y x2 S:AV},aN J ([x,y,x2,S].drop 2)=V x2:=A;have ab:∀{x y x2 S:AV},aN (V 4) [x,y,x2,S]=V (.a [x,y,x2,S]):=A;have g:∀{l:List bqR},∀r∈l.map bqR.c,L r=3:=(by intro l r hr;obtain⟨x,_,rfl⟩:=dN.1 hr;rfl);refine yV (L ns) (λk _ Y'=>∃a1,box Y' (3,P)=V ⟨104,4,U,U,[[iv<|L w.ac,iv<|L ns,a1,a]]⟩/\lI Y' 246 3 a1 (((aR (ns.take k) 1).map λx=>(⟨x.a,x.b,-1⟩:bqR)).map bqR.c)/\Fx m Y' [(3,P)]/\∀q∈aA a1,bK m q/\q.1=42) ⟨_,ao,lI.nil,Fx.refl _ _,aBY⟩ ?_;rintro k _ Y4 hk ⟨a1,m2,g1,z,P1⟩;have az:=z.len.trans R.le;simp only[qz 25,qy 18,au,gg,qz 47,qy 8,lX,bh];refine⟨λh=>⟨vp h,?_⟩,λh=>?_⟩;have G:=aL h;refine zm az λv5 Y5 D N5 b5=>?_;refine stI (cs:=aH8.c<|gd ns k) b5 A rfl H λE F6 b6=>?_;have aq:box E (5,v5)=V ⟨98,3,U,U,[aH8.c<|gd ns k]⟩:=b6;have B:Fx Y4 E []:=(D.trans F6).mono aUw;have N:=B.kq m2;have g6:=g1.fx B O;have v:Fx m E [(3,P)]:=(z.trans B).mono O;have ag:bM bwK aM7 [(0,iv (gd ns k).a),(1,iv (gd ns k).b),(2,iv<|-1)]=V (.a<|bqR.c ⟨(gd ns k).a,(gd ns k).b,-1⟩):=A;have ax:aX bwK 1 E [(0, .a<|bqR.c ⟨(gd ns k).a,(gd ns k).b,-1⟩)]=V (.l ([(⟨(gd ns k).a,(gd ns k).b,-1⟩:bqR)].map bqR.c) U U,E):=ua A rfl rfl H A H;have T:=Qg (ns:=ns) (kd:=1) G;have ba:L (aR (ns.take k) 1)<=k:=(by grind [gC,aR]);simp only[qz 10,qy 12,eT,aq,N,aE,ag,ax];constructor<;>intro hb;refine gD g6 A H (by rw[v.len,R.le];decide) g g X λa7 Y7 g7 F7 a9 bb=>?_;have aD:((3,P):Id)∉aA a1:=X;have aa:=F7.keep _ _ aD N;simp only[qz 14,qy 16,eS,aa];refine stI (y:=1) (j:=2) (cs:=[a7]) aa (ms g7) A O λY8 F8 b8=>?_;have P7:∀q∈aA a7,bK m q/\q.1=42:=λq M=>(by refine⟨?_,X⟩;grind [bK.old]);simp only[qz 45,aI,au,cS,aY];refine yU G ⟨a7,b8,?_,?_,P7⟩;rw[T,zg<|aNQ hb,dg,dg];exact g7.fx F8 X;refine((v.trans F7).trans F8).mono ?_;grind [bK.no];simp only[qz 45,aI,au,cS,aY];refine yU G ⟨a1,N,?_,v,P1⟩;rwa [T,za<|bsX hb,cL];obtain rfl:k=L ns:=X;rw[gV] at g1;have an:=z.kq am;simp only[m2,eQ,ab];refine stI (y:=4) (cs:=[iv<|L w.ac,iv<|L ns,a1,a]) an A rfl H λY5 D b5=>?_;have ap:box Y5 (2,v1)=V ⟨104,4,U,U,[[iv<|L w.ac,iv<|L ns,a1,a]]⟩:=b5;simp only[ap,eQ,ab,aRf,aoz];refine⟨a1,A,g1.fx D X,(R.gr.fx z<|λq M e=>by grind [bD.sa]).fx D (λq M e=>by grind [bD.sa]),(((F1.trans u).trans z).trans D).mono λq M=>?_⟩;simp only[dW,dF,cE] at M;obtain rfl|rfl:=M;exact .inr (N2.old F1).no;exact .inr N1.no
end
def bwB:dO:=apw
def bt9:eJ bwB:=wS
def aBp:=@amn
def asS:=I9 10 [(3,([7],[1,2,3,6]))]
def aKj{c0 a1 b}:=yB1 71 7 3 bt9 func243 asS c0 [.a c0,a1,b]
def aKk{c0 a1 b}:=yB1 71 7 3 bt9 func244 asS c0 [.a c0,a1,b]
def aKw{c0}:=yB1 71 7 1 bt9 func246 at1 c0 [.a c0]
def aKx{c0}:=yB1 71 7 1 bt9 func247 at1 c0 [.a c0]
def as1:=I9 27 [(4,([9,22],[0,2,3,20,21])),(7,([9],[0,2,3,20,21,22])),(12,([43],[0,3,9,42])),(15,([],[0,3,9,42,43])),(19,([62],[0,3,9,12,42,43,60,61]))]
def aKs{a a1 b c}:=yB bt9 func245 as1 [a,a1,b,c]
def asR:=I9 23 [(5,([6,29],[2,3,5,28])),(8,([6],[2,3,5,28,29])),(14,([6,44],[2,3,5,7,28,29,42,43])),(17,([6],[2,3,5,7,28,29,42,43,44]))]
def Hp b a c R:=(.mk _:NS bwB asR Tryz.f157 [.u, .u] [b,a] c R).p
def aI4{b a1:AV}{s0:ae}{R:be}(h:eV (bxA 176 1 s0 2 b) λc d=>eV (bxA 3 1 d 3 a1) λa e=>Hp c a e R):EB 157 [b,a1] s0 R:=zB asR bt9 func157 h
def aKi{d a1:AV}{s0:ae}{R:be}(hs:L s0=4096)(l0:eY d=V [d])(l1:eY a1=V [a1])(h:∀(a:ae) (b c:Nat),Kp s0 a->(∀k,k≠2->k≠3->aZ a k=aZ s0 k)->(∀x,box s0 (2,b)≠V x)->(∀x,box s0 (3,c)≠V x)->box a (2,b)=V ⟨176,1,U,U,[[d]]⟩->box a (3,c)=V ⟨3,1,U,U,[[a1]]⟩->Hp (.p (2,b) 0 0) (.p (3,c) 0 0) a R):EB 157 [d,a1] s0 R:=aI4<|iN l0 rfl H H hs λq b f g0 n i=>iN l1 A H H (f.len.trans hs) λa c g g1 o j=>by exact h a b c (Kp.trans f g) (λk l m=>(g1 k m).trans<|g0 k l) (λx e=>n x<|(Kp.refl _).keep _ _ e) (λx e=>o x<|f.keep _ _ e) (g.keep _ _ i) j
def as4:=I9 8 [(2,([3],[0]))]
def aKv{a}:=yB bt9 func158 as4 [a]
def aB8{w}{u:Int}{l}{q:Int}(h:q∈fg w u l):∃x∈l,0<=x-gd w.init.count u.toNat/\x-gd w.init.count u.toNat<(L (be8 w.ac u<|L w.ac):Int)/\q=gd (be8 w.ac u<|L w.ac) (x-gd w.init.count u.toNat).toNat:=by unfold fg btu at h;grind [Er]
theorem an7{w}(h:buT w){k:Nat}(a:k<L w.ac){q:Int}{l}(j:∀x∈l,x∈(gd w.ac k).dI\/x∈(gd w.ac k).ep)(n:q∈fg w (gd w.ac k).aq l):aF (L w.ac) q/\fR (gd w.ac q.toNat)=U:=by obtain⟨x,o,v,y,rfl⟩:=aB8 n;obtain⟨s,u,e⟩:=h.rd k a x<|j x o;obtain⟨f,g⟩:=e Z;have c:=(h.wo.wo.named a).2;have d:=bsR c.1;simp only[aOu,bJ,d] at f g;generalize z:(x-gd w.init.count (gd w.ac k).aq.toNat).toNat=m at*;have b:m<L (fj w.ac (gd w.ac k).aq k):=Z;obtain⟨r,B⟩:=QC (l:=w.ac) (t:=(gd w.ac k).aq) (show k<=L w.ac by omega);have i:gd (be8 w.ac (gd w.ac k).aq<|L w.ac) m=((gd (fj w.ac (gd w.ac k).aq k) m:Nat):Int):=(by grind [be8,aNV]);rw[i];have p:gd (fj w.ac (gd w.ac k).aq k) m<k:=(by have:=dB b;exact fq.1 (jW.1 this).1);refine⟨⟨Z,Z⟩,?_⟩;grind [aNV]
def an6{w}(h:buT w)(g:hU w):bu4 w:=by have:∀k,k<L w.ac->∀x,x∈(gd w.ac k).dI\/x∈(gd w.ac k).ep-> -1000<=x/\x<=1000:=λk a x d=>⟨(h.rd k a x d).1,(h.rd k a x d).2.1⟩;refine⟨h.ct.1,(by grind [buT.ct,ii]),λk a=>⟨?_,X⟩,λk a=>⟨?_,X⟩,(by grind [an7]),by grind [an7]⟩;(all_goals have c:=(h.wo.wo.en k a).2;simp only[bjf,bip,eH,cP,fK,awG] at c;obtain⟨_,_,_,_,⟨e,f⟩,_⟩:=c;have:=(h.wo.wo.named a).2);obtain b|b:=oD<|L (gd w.ac k).dI;omega;have:=yq e (L (gd w.ac k).dI-1) Z;grind [dB];obtain b|b:=oD<|L (gd w.ac k).ep;omega;have:=yq f (L (gd w.ac k).ep-1) Z;grind [dB]
theorem D5{w:am}{x}:x∈lr (L w.ac) (L w.ac)↔x.kind=1/\aF (L w.ac) x.a/\aF (L w.ac) x.b/\x.a≠x.b:=by obtain⟨kd,a,b⟩:=x;simp only[lr,nB,iI,fq,dN,jW,awG,aH8.mk.injEq];constructor;rintro⟨i,g,j,⟨h,e⟩,rfl,rfl,rfl⟩;exact⟨A,⟨Z,Z⟩,⟨Z,Z⟩,e⟩;rintro⟨rfl,c,d,f⟩;refine⟨a.toNat,by have:=c.1;have:=c.2;omega,b.toNat,⟨by have:=d.1;have:=d.2;omega,?_⟩,A,bsR c.1,bsR d.1⟩;rwa [bsR c.1,bsR d.1]
theorem Qs{w x}:x∈m8 w↔x∈lr (L w.ac) (L w.ac)\/x∈mK (L w.ac)\/x∈kh w.ac (L w.ac)\/x∈ki w (L w.ac)\/x∈jp w (L w.ac):=by grind [m8]
theorem D6{n x}:x∈mK n↔∃a:Nat,a<n/\x=⟨2,a,0⟩:=by grind [mK]
theorem D7{l n x}:x∈kh l n↔∃a:Nat,a<n/\fR (gd l a)=U/\x=⟨3,a,0⟩:=by grind [kh]
theorem ant{w n x}:x∈ki w n↔∃a:Nat,a<n/\∃s∈dx w a,x=⟨4,a,s⟩:=by grind [ki]
def anG{w}(b:L (m8 w)<100000):jb w (m8 w):=by refine⟨b,(by grind [Qs,D5]),λx a=>Qs.2<|.inr<|.inl<|D6.2 ⟨x.toNat,by have:=a.1;have:=a.2;omega,by rw[bsR a.1]⟩,λx a c=>Qs.2<|.inr<|.inr<|.inl<|D7.2 ⟨x.toNat,by have:=a.1;have:=a.2;omega,c,by rw[bsR a.1]⟩⟩
theorem D8{w n x}:x∈jp w n↔∃a:Nat,a<n/\pN (gd w.ac a)=U/\∃s∈mR w (gd w.ac a).eI (gd w.ac a).aq,x=⟨5,a,s⟩:=by simp only[jp,iI,fq,pR];grind
theorem yH{p k s}(h:s∈fw p k):∃i:Nat,i<k/\p i=U/\s=i:=by obtain⟨i,a,rfl⟩:=dN.1 h;grind
theorem anE{w}(a:L w.ac<=16)(b:L w.init.eB.ay<=4):L (m8 w)<2000/\L (jp w<|L w.ac)<=320:=by have:=AS (L w.ac)<|L w.ac;have:=AT<|L w.ac;have:=AU w.ac<|L w.ac;have:=AW w<|L w.ac;have:=Qv w<|L w.ac;have:=xn a a;have:L w.ac*(1+L w.ac)<=16*17:=X;have:L w.ac*(L w.init.eB.ay+L w.ac)<=16*20:=xn a Z;simp only[m8,a6G];omega
theorem Qf{w}:aR (m8 w) 5=jp w (L w.ac):=by have a:∀{l:List aH8} {k:Int},(∀x∈l,x.kind=k)->k≠5->l.filter (λx=>Q<|x.kind=5)=[]:=vB;have b:∀{l:List aH8},(∀x∈l,x.kind=5)->l.filter (λx=>Q<|x.kind=5)=l:=O;simp only[aR,m8,me];rw[a (k:=1) (by grind [D5]) H,a (k:=2) (by grind [D6]) H,a (k:=3) (by grind [D7]) H,a (k:=4) (by grind [ant]) H,b<|by grind [D8]];simp
def Rq{w}(m:L w.ac<=16)(l:L w.init.eB.ay<=4):sE w (m8 w):=by refine⟨λx b=>?_,by grind [Qf,anE]⟩;rw[Qf] at b;obtain⟨a,d,j,s,hs,rfl⟩:=D8.1 b;refine⟨⟨O,by simpa using d⟩,X,λc=>?_⟩;simp only at c⊢;obtain h|h:=dF.1 hs;obtain⟨t,f,rfl⟩:=dN.1 h;grind [yH];obtain⟨i,g,k,rfl⟩:=yH h;refine⟨⟨Z,Z⟩,λe=>?_⟩;grind [wV]
def Kt{w}{r:Nat}{s:Int}(h:s∈dx w r):(s= -1\/0<=s)/\(0<=s->aF (L w.ac) s/\s≠(r:Int)):=by unfold dx at h;(cases a:(dh (r:Int) (L w.ac)&&fR (gd w.ac (r:Int).toNat)));grind;rw[a] at h;simp only[aRa] at h;obtain h|h:=dF.1 h;grind;obtain⟨i,b,c,rfl⟩:=yH h;refine⟨.inr Z,λ_=>⟨⟨Z,Z⟩,λe=>?_⟩⟩;grind [mr,aTG]
def al6{α β:Type}{p}{f:α->List β}:∀{l:List α},(l.flatMap f).filter p=l.flatMap λa=>(f a).filter p
 |[]=>rfl
 |a::l=>by rw[Cz,Cz,me,al6]
def amd{β:Type}{f:Nat->List β}{r}:∀{n},(∀a,a≠r->f a=[])->(aH n).flatMap f=if r<n then f r else[]
 |0,_=>O
 |n+1,h=>by
  rw[a6z,amd (n:=n) h]
  grind
def aId{w}(f:L w.ac<=16):GU w (m8 w):=by refine⟨λr c d=>?_,λr s hs=>(Kt hs).2,by grind [vU]⟩;have b:∀{l:List aH8} {k:Int},(∀x∈l,x.kind=k)->k≠4->l.filter (oa r)=[]:=(by grind [RK,oa]);simp only[m8,me];rw[b (k:=1) (by grind [D5]) H,b (k:=2) (by grind [D6]) H,b (k:=3) (by grind [D7]) H,b (l:=jp w<|L w.ac) (k:=5) (by grind [D8]) H];simp only[dW,cL];rw[ki,al6,amd (r:=r)<|λa e=>?_,zg c];grind [GA,oa];grind [RK,oa]
def Ec{β:Type}{f:Nat->List β}:∀{n},(∀a,(f a).Nodup)->(∀a c,a≠c->∀x∈f a,x∉f c)->((aH n).flatMap f).Nodup
 |0,_,_=>O
 |n+1,b,d=>by
  rw[a6z,xl]
  refine⟨Ec b d,b n,λx g y h e=>?_⟩
  grind
def wC{α β:Type}{f:α->β}{l:List α}(c:∀a b,f a=f b->a=b)(h:l.Nodup):(l.map f).Nodup:=X
theorem Qw{p k}:(fw p k).Nodup:=wC (λa b h=>Z)<|Cr.filter _ GM
theorem aEo{w}{r:Nat}:(dx w r).Nodup:=by unfold dx;grind [Qw,yH]
theorem aEp{w c u}:(mR w c u).Nodup:=by grind [mR,iH,Qw,yH]
theorem aEm{w}:(m8 w).Nodup:=by have:(lr (L w.ac)<|L w.ac).Nodup:=(by refine Ec (λa=>?_) λa c e x b d=>?_;exact wC (λi j h=>by simp only[aH8.mk.injEq] at h;omega)<|Cr.filter _ GM;obtain⟨i,_,rfl⟩:=dN.1 b;obtain⟨j,_,h⟩:=dN.1 d;grind);have:(mK<|L w.ac).Nodup:=wC (λi j h=>by simp only[aH8.mk.injEq] at h;omega) GM;have:(kh w.ac<|L w.ac).Nodup:=wC (λi j h=>by simp only[aH8.mk.injEq] at h;omega)<|Cr.filter _ GM;have:(ki w<|L w.ac).Nodup:=(Ec (by grind [aEo]) λa c e x b d=>by grind);have:(jp w<|L w.ac).Nodup:=(by refine Ec (λa=>?_) λa c e x b d=>?_;grind [pR,aEp];grind [pR]);have:∀x∈lr (L w.ac) (L w.ac),x.kind=1:=λx b=>(D5.1 b).1;have:∀x∈mK (L w.ac),x.kind=2:=(by grind [D6]);have:∀x∈kh w.ac (L w.ac),x.kind=3:=(by grind [D7]);have:∀x∈ki w (L w.ac),x.kind=4:=(by grind [ant]);have:∀x∈jp w (L w.ac),x.kind=5:=(by grind [D8]);unfold m8;rw[xl,xl,xl,xl];grind
def gZ(w:aOw)(lock:Int)(e:aP):Bool:=Q<|mM w lock e=lock
def brL(E:aP->Bool)(l:List aP)(x:bp)(i:Nat):Bool:=Q (x.dD<i)&&(Q ((gd l i).aq=x.aq)&&E (gd l i))
def fT(E:aP->Bool)(l:List aP)(x:bp):Nat->Int|0=> -1|k+1=>bif Q (fT E l x k<0)&&brL E l x k then k else fT E l x k
def gk(E:aP->Bool)(l:List aP)(k:Nat)(x:bp):bp:={x with dY:=fT E l x k}
theorem El{E l x}:∀{k},(∀i,i<k->brL E l x i=I)->fT E l x k= -1
 |0,_=>rfl
 |k+1,h=>by
  rw[fT,h k Z,qc,bih,El X]
def aob{E l x i}(h:∀j,j<i->brL E l x j=I)(c:brL E l x i=U):∀{k},i<k->fT E l x k=i
 |0,b=>Z
 |k+1,b=>by
  obtain a|a:=jj i k
  ·rw[fT,aob h c a,bqN Z,kM,bih]
  grind [fT,El]
def an9{E l x}:∀{k},fT E l x k= -1\/∃i:Nat,i<k/\brL E l x i=U/\fT E l x k=i
 |0=> .inl A
 |k+1=>by
  rw[fT]
  cases d:(Q (fT E l x k<0)&&brL E l x k) with
  |true=>
   grind
  |false=>
   rw[bih]
   obtain h|⟨i,a,b,c⟩:=an9 (E:=E) (l:=l) (x:=x) (k:=k)
   ·exact .inl h
   grind
def oF(w:aOw)(lock:Int)(l:List aP)(k:Nat):List bp:=(aH k).flatMap λi=>oY w lock (gd l i) i
def nu(w:aOw)(s:aW)(lock:Int):List bp:=(aH<|L s.ay).flatMap<|btS w s lock
theorem zL{w lock l k x}(h:x∈oF w lock l k):∃i:Nat,i<k/\lK w lock (gd l i)=lock/\x=⟨(gd l i).aq,i,-1,(dD w<|gd l i).2⟩:=by obtain⟨i,a,b⟩:=iI.1 h;grind [oY]
theorem uu{w s}{lock:Int}{x}(h:x∈nu w s lock):∃u:Nat,u<L s.ay/\x.aq=u/\x.dD= -1/\x.dY= -1/\(if lock=L w.ak then s.tx=u/\x.read=I else if x.read=U then(u:Int)∈(gd s.ak lock.toNat).bk else(gd s.ak lock.toNat).aPo=u):=by obtain⟨u,c,a⟩:=iI.1 h;refine⟨u,fq.1 c,?_⟩;unfold btS at a;by_cases b:lock=L w.ak;simp_all;rw[za b] at a;rw[za b];obtain a|a:=dF.1 a;grind [pJ];grind [pK]
def aos{w s l lock}:∀{k},dZ w s l lock k=(nu w s lock++oF w lock l k).map (gk (gZ w lock) l k)
 |0=>by
  simp only[dZ,oF,List.range_zero,RN,cL]
  refine(brw _).symm.trans (ja λx a=>?_)
  obtain⟨u,i,b,d,c,_⟩:=uu a
  cases x
  simp only at c
  subst c
  rfl
 |k+1=>by
  rw[dZ,aos]
  have e:∀x∈nu w s lock++oF w lock l k,x.dD<(k:Int):=by
   grind [uu,zL]
  have f:oF w lock l (k+1)=oF w lock l k++oY w lock (gd l k) k:=a6z
  rw[f,<-bje]
  conv=>rhs;rw[dg]
  congr 1
  ·unfold tv
   by_cases g:mM w lock (gd l k)=lock
   ·rw[zg g,vA]
    refine ja λx a=>?_
    have:=e x a
    have h:fT (gZ w lock) l x (k+1)=bif Q (fT (gZ w lock) l x k<0)&&brL (gZ w lock) l x k then(k:Int) else fT (gZ w lock) l x k:=A
    by_cases b:x.aq=(gd l k).aq/\fT (gZ w lock) l x k<0
    ·have d:ma (gd l k).aq k (gk (gZ w lock) l k x)={gk (gZ w lock) l k x with dY:=k}:=zg b
     grind [gk,brL,gZ]
    ·have d:ma (gd l k).aq k (gk (gZ w lock) l k x)=gk (gZ w lock) l k x:=za b
     have c:(Q (fT (gZ w lock) l x k<0)&&brL (gZ w lock) l x k)=I:=by
      grind [brL]
     grind [gk]
   grind [ja,gk,fT,brL,gZ]
  ·refine(brw _).symm.trans (ja λx a=>?_)
   grind [oY,gk,El,brL]
def Q5{w s l}{lock:Int}:jE w s l lock=(nu w s lock++oF w lock l (L l)).map (gk (gZ w lock) l<|L l):=aos
def xo(w:aOw)(Lw:Int)(s:aW)(x:bp):Prop:=
 if Lw=L w.ak then s.tx=x.aq/\x.read=I else if x.read=U then x.aq∈(cH s Lw).bk else(cH s Lw).aPo=x.aq
def alS{w s}{t kind eI:Int}(h:jm w s t kind eI=U):lc w s t kind eI=U/\named w kind eI=U/\aF (L w.ay) t/\lh w s=U:=by grind [jm,dX]
theorem aDe{s}{Lw:Int}{a}(h:aF (L s.ak) Lw):cH (lC s Lw a) Lw=a:=Af h
def aDf{s i Lw a}(b:0<=i)(c:0<=Lw)(h:i≠Lw):cH (lC s i a) Lw=cH s Lw:=by grind [cH,lC,gd]
theorem aFa{l t x}(h:x∈l\/x=t):x∈fk l t:=by induction l with|nil=>grind [fk]|cons y l a=>grind [fk]
def Qk{s i t Lw}:cH (aNU s i t) Lw=cH s Lw:=rfl
def ane{Lw}:∀{l:eu} {s},cH (l.foldl (λs u=>Ab.aNU s u {fA s u with cQ:=4}) s) Lw=cH s Lw|[],_=>rfl|u::l,s=>(ane (l:=l)).trans Qk
theorem apE:∀{l:eu} {s},(l.foldl (λs u=>Ab.aNU s u {fA s u with cQ:=4}) s).tx=s.tx|[],_=>rfl|u::l,s=>(apE (l:=l)).trans A
theorem aIL{w s t kind eI lD}(n:kind≠12)(o:kind≠13):(cU w s t kind eI lD).1.tx=s.tx:=by unfold cU;rw[za n,za o];by_cases f:kind=1;rw[zg f];rfl;rw[za f];by_cases h:kind=2;rw[zg h];rfl;rw[za h];by_cases j:kind=6\/kind=10;rw[zg j];rfl;rw[za j];by_cases k:kind=7\/kind=11;rw[zg k];rfl;rw[za k];by_cases l:kind=8;rw[zg l];rfl;rw[za l];by_cases m:kind=9;rw[zg m];rfl;rw[za m];by_cases a:kind=14;rw[zg a];rfl;rw[za a];by_cases b:kind=15;rw[zg b];rfl;rw[za b];by_cases c:kind=16;rw[zg c];rfl;rw[za c];by_cases d:kind=17;rw[zg d];rfl;rw[za d];by_cases e:kind=18;rw[zg e];split<;>rfl;rw[za e];by_cases g:kind=19;grind [apE];rw[za g];by_cases i:kind=20;rw[zg i];rfl;grind
theorem aDg{w s t kind eI lD Lw}(h:¬(6<=kind/\kind<=11))(a:kind≠16)(b:kind≠17):cH (cU w s t kind eI lD).1 Lw=cH s Lw:=by unfold cU;rw[za (show¬(kind=6\/kind=10) by omega),za (show¬(kind=7\/kind=11) by omega),za (show¬(kind=8) by omega),za (show¬(kind=9) by omega),za a,za b];(repeat' split);all_goals first|rfl|exact ane
def yu{w:aOw}{s}{i Lw:Int}{a}{x:bp}(c:0<=i)(b:aF (L s.ak) Lw)(e:if x.read=U then x.aq∈(cH s Lw).bk else(cH s Lw).aPo=x.aq)(h:i=Lw->if x.read=U then x.aq∈a.bk else a.aPo=x.aq):if x.read=U then x.aq∈(cH (lC s i a) Lw).bk else(cH (lC s i a) Lw).aPo=x.aq:=by by_cases d:i=Lw;grind [aDe];rwa [aDf c b.1 d]
def aEW{w s e}{lD Lw:Int}{x}(r:jm w s e.aq e.kind e.eI=U)(t:0<=Lw/\Lw<=L w.ak)(F:∀l∈s.ak,jC l.bk)(K:0<=x.aq)(b:xo w Lw s x)(p:¬(x.aq=e.aq/\mM w Lw e=Lw)):xo w Lw (cU w s e.aq e.kind e.eI lD).1 x:=by
 obtain⟨B,f,G,u⟩:=alS r
 obtain⟨fc,fl,E,y⟩:=iY u
 unfold xo at b⊢
 by_cases n:Lw=L w.ak
 ·rw[zg n] at b⊢
  refine⟨?_,b.2⟩
  have k:mM w Lw e=bif Q (e.kind=13) then Lw else-1:=by rw[mM,bsi n];rfl
  by_cases C:e.kind=12
  ·grind [lc]
  grind [lc,aIL]
 ·rw[za n] at b⊢
  have z:aF (L w.ak) Lw:=⟨t.1,Z⟩
  have d:aF (L s.ak) Lw:=vB
  have k:mM w Lw e=(dY w e).1:=by rw[mM,bqN n];rfl
  have j:∀{c:Int},aF (L w.bC) c->0<=(gd w.bC c.toNat).eg/\sd w c=(gd w.bC c.toNat).eg:=(by grind [ii,sd,dX])
  by_cases M:e.kind=6\/e.kind=10
  ·have a:=mJ f Z Z
   have o:(gd s.ak e.eI.toNat).aPo= -1:=by
    grind [lc]
   rw[show(cU w s e.aq e.kind e.eI lD).1=lC s e.eI {cH s e.eI with aPo:=e.aq} from by
    grind [cU]]
   refine yu (w:=w) a.1 d b λi=>?_
   grind [cH]
  by_cases N:e.kind=7\/e.kind=11
  ·have a:=mJ f Z Z
   have o:(gd s.ak e.eI.toNat).aPo=e.aq:=by
    grind [lc]
   rw[show(cU w s e.aq e.kind e.eI lD).1=lC s e.eI {cH s e.eI with aPo:= -1} from by
    grind [cU]]
   refine yu (w:=w) a.1 d b λi=>?_
   grind [dY,cH]
  by_cases P:e.kind=8
  ·have a:=mJ f Z Z
   rw[show(cU w s e.aq e.kind e.eI lD).1=lC s e.eI {cH s e.eI with bk:=mP (cH s e.eI).bk [e.aq]} from by
    grind [cU]]
   refine yu (w:=w) a.1 d b λi=>?_
   grind [cH,Ro,ii,aFa]
  by_cases v:e.kind=9
  ·have a:=mJ f Z Z
   rw[show(cU w s e.aq e.kind e.eI lD).1=lC s e.eI {cH s e.eI with bk:=fJ (cH s e.eI).bk e.aq} from by
    grind [cU]]
   refine yu (w:=w) a.1 d b λi=>?_
   have m:(dY w e).1=e.eI:=by simp[dY,v]
   subst i
   split
   ·rename_i g;rw[zg g] at b
    simp only
    refine jW.2 ⟨b,bsi λh=>p ⟨h,by rw[k,m]⟩⟩
   simp_all
  by_cases q:e.kind=16
  ·have a:=oT f Z Z
   have o:(gd s.ak (gd w.bC e.eI.toNat).eg.toNat).aPo=e.aq:=by
    grind [lc]
   rw[show(cU w s e.aq e.kind e.eI lD).1=aNU (lC s (gd w.bC e.eI.toNat).eg {cH s (gd w.bC e.eI.toNat).eg with aPo:= -1}) e.aq {fA s e.aq with cQ:=3,cond:=e.eI} from by
    grind [cU]]
   rw[Qk]
   refine yu (w:=w) (j a).1 d b λi=>?_
   have m:(dY w e).1=(gd w.bC e.eI.toNat).eg:=by simp[dY,q,(j a).2]
   subst i
   split
   ·rename_i g;rw[zg g] at b;exact b
   ·rename_i g;rw[za g] at b;rw[cH] at b
    exact aYx ⟨Z,by rw[k,m]⟩ p
  by_cases D:e.kind=17
  ·have a:=oT f Z Z
   have o:(gd s.ak (gd w.bC e.eI.toNat).eg.toNat).aPo= -1:=by
    grind [lc]
   rw[show(cU w s e.aq e.kind e.eI lD).1=aNU (lC s (gd w.bC e.eI.toNat).eg {cH s (gd w.bC e.eI.toNat).eg with aPo:=e.aq}) e.aq {fA s e.aq with cQ:=2,cond:=0} from by
    grind [cU]]
   rw[Qk]
   refine yu (w:=w) (j a).1 d b λi=>?_
   grind [cH]
  grind [aDg]
def asn{w s e}{Lw:Int}{p}(h:jm w s e.aq e.kind e.eI=U)(u:0<=Lw/\Lw<=L w.ak)(v:0<=p.aq)(c:xo w Lw s p)(i:lK w Lw e=Lw)(n:¬(p.read=U/\(dD w e).2=U))(g:Lw≠L w.ak->p.read=U->(gd w.ak Lw.toNat).rw=U)(d:∀j,j<L w.bC->uh w j=I):False:=by obtain⟨m,f,y,k⟩:=alS h;obtain⟨fc,fl,q,l⟩:=iY k;unfold xo at c;by_cases b:Lw=L w.ak;grind [lK,lc];rw[za b] at c;rw[lK,bqN b,bih] at i;have z:=g b;by_cases B:e.kind=6\/e.kind=10;grind [lc,dD,named,cH];by_cases C:e.kind=8;grind [lc,dD,cH];by_cases o:e.kind=17;have a:=oT f Z Z;have t:(gd s.ak (gd w.bC e.eI.toNat).eg.toNat).aPo= -1:=(by grind [lc]);obtain rfl:(gd w.bC e.eI.toNat).eg=Lw:=(by grind [dD,sd]);split at c;rename_i x;have r:=d e.eI.toNat<|be7 a.1 a.2;grind [uh];grind [cH];grind [dD]
theorem QP{E l x m}:∀{n},m<=n->fT E l x n<0->fT E l x m<0
 |0,h,b=>vB
 |n+1,h,b=>by
  obtain a|a:=jj n m
  ·grind
  ·refine QP a ?_
   grind [fT]
theorem axy{w}(h:mQ w=U):∀j,j<L w.bC->uh w j=I:=by grind [mQ]
theorem amB{w}(h:vL w){Lw:Int}(d:0<=Lw/\Lw<=L w.aQ.ak){y}(b:y∈nu w.aQ w.init.eB Lw):∀{k:Nat},k<=L w.ac->fT (gZ w.aQ Lw) w.ac y k<0->xo w.aQ Lw (cY w k).eB y
 |0,_,_=>by
  obtain⟨u,j,c,f,g,a⟩:=uu b
  rw[<-c] at a
  exact a
 |k+1,m,i=>by
  obtain⟨u,j,c,f,g,a⟩:=uu b
  have e:=QP (show k<=k+1 by omega) i
  have:brL (gZ w.aQ Lw) w.ac y k=I:=by
   grind [fT]
  rw[aoF h Z]
  refine aEW (Kk h Z).1 d (by grind [kQ.rd,vL.sy]) Z (amB h d b Z e) λl=>?_
  grind [brL,gZ]
def Bx{w}(h:bcV w=U):(∀j,j<L w.init.eB.ak->uD w j)/\yS w=I/\mQ w.aQ=U/\lh w.aQ w.init.eB=U/\L w.init.count=L w.aQ.ay:=by have a:=(aQA h).1;simp only[oh,cP,fK,aPs] at a;grind [ny,fN]
def amr{l}{f:bp->bp}{i:Nat}(h:i<L l):gd (l.map f) i=f (gd l i):=brU
def amq{a B:List bp}{i:Nat}(h:i<L (a++B)):(i<L a/\gd (a++B) i∈a)\/(L a<=i/\gd (a++B) i∈B):=brU
theorem anV{w}(W:hU w)(K:bcV w=U){Lw:Int}(P:0<=Lw/\Lw<=L w.aQ.ak):∀i j,i<j->j<L (jE w.aQ w.init.eB w.ac Lw)->(gd (jE w.aQ w.init.eB w.ac Lw) i).aq≠(gd (jE w.aQ w.init.eB w.ac Lw) j).aq->¬((gd (jE w.aQ w.init.eB w.ac Lw) i).read=U/\(gd (jE w.aQ w.init.eB w.ac Lw) j).read=U)->bwY (L w.ac) (gd (jE w.aQ w.init.eB w.ac Lw) i) (gd (jE w.aQ w.init.eB w.ac Lw) j):=by have S:=vd W K;obtain⟨D,an,M,C,ah⟩:=Bx K;obtain⟨fc,fl,fd,ae⟩:=iY C;rw[Q5];intro i j al r;simp only[bJ] at r;rw[amr (show i<_ by omega),amr r];have ci:=amq (show i<L (nu w.aQ w.init.eB Lw++oF w.aQ Lw w.ac (L w.ac)) by omega);have c:=amq r;generalize gd (nu w.aQ w.init.eB Lw++oF w.aQ Lw w.ac (L w.ac)) i=p at ci⊢;generalize gd (nu w.aQ w.init.eB Lw++oF w.aQ Lw w.ac (L w.ac)) j=q at c⊢;simp only[gk];intro d n;have g:∀y:bp,0<=fT (gZ w.aQ Lw) w.ac y (L w.ac)->aF (L w.ac) (fT (gZ w.aQ Lw) w.ac y<|L w.ac)/\(gd w.ac (fT (gZ w.aQ Lw) w.ac y<|L w.ac).toNat).aq=y.aq:=(λy f=>by obtain h|⟨a,z,hs,he⟩:=an9 (E:=gZ w.aQ Lw) (l:=w.ac) (x:=y) (k:=L w.ac);omega;grind [brL,dJ]);refine⟨λh=>(g p h).1,λs=>?_,λs=>?_⟩;obtain⟨_,c⟩|⟨_,c⟩:=c;grind [uu];obtain⟨m,hm,B,rfl⟩:=zL c;simp only at d n⊢;have cp:p∈nu w.aQ w.init.eB Lw:=(by obtain⟨_,ci⟩|⟨_,ci⟩:=ci;exact ci;obtain⟨m',am,_,rfl⟩:=zL ci;simp only at s;omega);have:0<=fT (gZ w.aQ Lw) w.ac p (L w.ac):=(by obtain f|f:=Int.lt_or_le (fT (gZ w.aQ Lw) w.ac p<|L w.ac) 0;exfalso;obtain⟨u,G,t,o,v,N⟩:=uu cp;refine asn (Kk S hm).1 P Z (by grind [amB,QP]) B n (λR F=>?_)<|axy M;rw[za R,zg F] at N;have:=(D Lw.toNat Z).1;grind [AM];exact f);grind [dJ];simp only at s;obtain⟨a,z,af,rfl⟩:∃a:Nat,a<L w.ac/\lK w.aQ Lw (gd w.ac a)=Lw/\p=⟨(gd w.ac a).aq,a,-1,(dD w.aQ<|gd w.ac a).2⟩:=(by obtain⟨_,ci⟩|⟨_,ci⟩:=ci;obtain⟨u,G,t,o,v,_⟩:=uu ci;omega;exact zL ci);obtain⟨b,T,ag,rfl⟩:∃a:Nat,a<L w.ac/\lK w.aQ Lw (gd w.ac a)=Lw/\q=⟨(gd w.ac a).aq,a,-1,(dD w.aQ<|gd w.ac a).2⟩:=(by obtain⟨li,ci⟩|⟨li,ci⟩:=ci;obtain⟨u,G,t,o,v,_⟩:=uu ci;simp only at o;omega;obtain⟨lj,c⟩|⟨lj,c⟩:=c;omega;exact zL c);simp only at d⊢;refine⟨dJ z,dJ T,λe=>d ?_,λf=>⟨(g _ f).1,λe=>d ?_⟩,λf=>⟨(g _ f).1,λe=>d ?_⟩⟩;grind;grind;grind
def sJ(w:aOw)(lock:Int)(e:aP):Bool:=bif Q (e.kind=6)||(Q (e.kind=8)||Q (e.kind=10)) then Q (e.eI=lock) else bif Q (e.kind=17) then Q ((gd w.bC e.eI.toNat).eg=lock) else I
def sQ(w:aOw)(lock:Int)(e:aP):Bool:=bif Q (e.kind=7)||(Q (e.kind=9)||Q (e.kind=11)) then Q (e.eI=lock) else bif Q (e.kind=16) then Q ((gd w.bC e.eI.toNat).eg=lock) else I
def tG(x:bp):bp:={x with dY:=0}
def aoc{E l x}:∀{n},fT E l (tG x) n=fT E l x n
 |0=>rfl
 |n+1=>by simp only[fT,aoc (n:=n)];rfl
theorem aMY{E l n x}:gk E l n (tG x)=gk E l n x:=by simp only[gk,aoc];rfl
theorem aoa{E a l x}:∀{n},(∀i,i<n->E (gd l i)=a (gd l i))->fT E l x n=fT a l x n
 |0,_=>rfl
 |n+1,h=>by
  have:=aoa (x:=x) (n:=n) λi b=>h i Z
  grind [fT,brL]
def mq(B:aP->Bool)(l:List aP)(k:Nat):List bp:=(aH k).flatMap λi=>if B (gd l i)=U then[⟨(gd l i).aq,i,0,Q<|(gd l i).kind=8⟩] else[]
def aso{w e}:(dD w e).2=Q (e.kind=8):=by grind [dD]
def awn{w Lw l B k}(h:∀i,i<k->B (gd l i)=Q (lK w Lw (gd l i)=Lw)):mq B l k=(oF w Lw l k).map tG:=by unfold mq oF;rw[RT];have:∀(m:Nat),m<=k->(aH m).flatMap (λi=>if B (gd l i)=U then[(⟨(gd l i).aq,i,0,Q<|(gd l i).kind=8⟩:bp)] else[])=(aH m).flatMap λi=>(oY w Lw (gd l i) i).map tG:=(λm=>by induction m with|zero=>intro _;rfl|succ m b=>intro c;rw[a6z,a6z,b Z];congr 1;rw[h m Z,oY];by_cases a:lK w Lw (gd l m)=Lw;rw[zg<|bsi a,zg a,aso];rfl;simp_all);simp_all
def aor{w s l}{Lw:Int}{a B E}(c:a=(nu w s Lw).map tG)(b:∀i,i<L l->B (gd l i)=Q (lK w Lw (gd l i)=Lw))(d:∀i,i<L l->E (gd l i)=Q (mM w Lw (gd l i)=Lw)):(a++mq B l (L l)).map (gk E l<|L l)=jE w s l Lw:=by rw[Q5,c,awn b,<-dg,vA];refine ja λx _=>?_;grind [aMY,gk,aoa,gZ]
def qH(s:aW)(lock:Int)(u j:Nat):List bp:=(((gd s.ak lock.toNat).bk.take j).filter λx:Int=>Q<|x=(u:Int)).map λ_=>⟨u,-1,0,U⟩
def qG(s:aW)(lock:Int)(u:Nat):List bp:=if(gd s.ak lock.toNat).aPo=u then[⟨u,-1,0,I⟩] else qH s lock u (L (gd s.ak lock.toNat).bk)
def qF(s:aW)(lock:Int)(k:Nat):List bp:=(aH k).flatMap<|qG s lock
def aBN{w s}{lock:Int}(c:lock≠L w.ak)(h:(gd s.ak lock.toNat).aPo≠-1->(gd s.ak lock.toNat).bk=[]):qF s lock (L s.ay)=(nu w s lock).map tG:=by unfold qF nu;rw[RT];have b:qG s lock=λu=>(btS w s lock u).map tG:=(by funext u;rw[qG,btS,za c,pJ];by_cases a:(gd s.ak lock.toNat).aPo=u;rw[zg a,zg a,pK,h Z];rfl;rw[za a,za a,pK,qH,dW,vA];rfl);rw[b]
def sZ(s:aW):List bp:=if 0<=s.tx then[⟨s.tx,-1,0,I⟩] else[]
def aBP{w s}(h:s.tx≠-1->aF (L s.ay) s.tx):sZ s=(nu w s<|L w.ak).map tG:=by unfold sZ nu;rw[RT];have c:∀n:Nat,(aH n).flatMap (λu=>(btS w s (L w.ak) u).map tG)=if 0<=s.tx/\s.tx<n then[⟨s.tx,-1,0,I⟩] else[]:=(λn=>by induction n with|zero=>simp|succ n e=>rw[a6z,e,btS,zg rfl];by_cases a:s.tx=n;rw[za Z,zg a,zg Z,a];rfl;rw[za a];by_cases d:0<=s.tx/\s.tx<n;grind;rw[za d,za Z];rfl);rw[c];by_cases b:s.tx= -1;simp_all;have:=h b;rw[zg this.1,zg ⟨this.1,this.2⟩]
def awl{w}{Lw:Int}{e}(a:aF (L w.ak) Lw)(b:named w e.kind e.eI=U):sJ w Lw e=Q (lK w Lw e=Lw):=by have:Q (Lw=(L w.ak:Int))=I:=bqN<|aYF a.2;have:¬(-1:Int)=Lw:=(aYF a.1);grind [lK,sJ,dD,oT,sd,dX]
def axI{w}{Lw:Int}{e}(a:aF (L w.ak) Lw)(b:named w e.kind e.eI=U):sQ w Lw e=Q (mM w Lw e=Lw):=by have:Q (Lw=(L w.ak:Int))=I:=bqN<|aYF a.2;have:¬(-1:Int)=Lw:=(aYF a.1);grind [mM,sQ,dY,oT,sd,dX]
def awm{w e}:Q (e.kind=12)=Q (lK w (L w.ak) e=L w.ak):=by grind [lK]
def axJ{w e}:Q (e.kind=13)=Q (mM w (L w.ak) e=L w.ak):=by grind [mM]
section
variable{Y:ae}
theorem aDT(f:L Y=4096)(e:aP):∃r b,(r=bv (Q<|e.kind=12)/\Fx Y b [])/\cZ aS GG 246 [.a e.c] Y r b:=aKw f A λi j h g nf d=>by simp only[eT,d,aRf,aoz];grind [Kp.fx]
theorem aDU(f:L Y=4096)(e:aP):∃r b,(r=bv (Q<|e.kind=13)/\Fx Y b [])/\cZ aS GG 247 [.a e.c] Y r b:=aKx f A λi j h g nf d=>by simp only[eT,d,aRf,aoz];grind [Kp.fx]
theorem aDE{b w ns out n B a q s k h f t1 z o1 v}(C:bD Y b w ns out n B a q s f){lock:Int}(u:box Y k=V ⟨t1,1,o1,U,[[iv lock]]⟩)(t:box Y h=V ⟨z,1,v,U,[[.p b 0 0]]⟩)(e)(E:e.kind=17->aF (L w.aQ.bC) e.eI):∃r g,(r=bv (sJ w.aQ lock e)/\Fx Y g [])/\cZ aS GG 243 [.a e.c, .p k 0 0, .p h 0 0] Y r g:=aKj C.le A λF G m D nf o=>by have d:=m.fx [];have l:=C.fx d;have bx:=l.bx;have j:=d.kq u;have i:=d.kq t;have y:∀{x:AV},aN J [x]=V x:=λ{x}=>A;simp+contextual only[bh0,qz 23,qz 21,au,jT,o,j,i,bhO bx,bx,y,ip,aRf,aoz,sr,mb];grind [sJ]
theorem aDF{b w ns out n B a q s k h f t1 z o1 v}(C:bD Y b w ns out n B a q s f){lock:Int}(u:box Y k=V ⟨t1,1,o1,U,[[iv lock]]⟩)(t:box Y h=V ⟨z,1,v,U,[[.p b 0 0]]⟩)(e)(E:e.kind=16->aF (L w.aQ.bC) e.eI):∃r g,(r=bv (sQ w.aQ lock e)/\Fx Y g [])/\cZ aS GG 244 [.a e.c, .p k 0 0, .p h 0 0] Y r g:=aKk C.le A λF G m D nf o=>by have d:=m.fx [];have l:=C.fx d;have bx:=l.bx;have j:=d.kq u;have i:=d.kq t;have y:∀{x:AV},aN J [x]=V x:=λ{x}=>A;simp+contextual only[bh0,qz 23,qz 21,au,jT,o,j,i,bhO bx,bx,y,ip,aRf,aoz,sr,mb];grind [sQ]
theorem aE0{l}{t:Int}{n a i:Nat}(c:a<L (fj l t n))(g:i<gd (fj l t n) a)(b:(gd l i).aq=t):∃m,m<a/\gd (fj l t n) m=i:=by have:(fj l t n).Pairwise (·<·):=Cr.sublist List.filter_sublist List.pairwise_lt_range;have:gd (fj l t n) a<n:=fq.1 (jW.1<|dB c).1;have d:i∈fj l t n:=jW.2 ⟨fq.2 Z,by simpa using b⟩;obtain⟨m,e,f⟩:=RU.1 d;have:gd (fj l t n) m=i:=brU;grind [GN,aNV]
theorem aEZ{l}{t:Int}{n i:Nat}(c:i<n)(b:(gd l i).aq=t):∃m,m<L (fj l t n)/\gd (fj l t n) m=i:=by have d:i∈fj l t n:=jW.2 ⟨fq.2 c,by simpa using b⟩;obtain⟨m,a,e⟩:=RU.1 d;exact⟨m,a,brU⟩
def ko(k:Nat):Prop:=k=20\/k=39\/k=40\/k=55
theorem bD.fxs{b w ns out n h a e g f Y' ks}(C:bD Y b w ns out n h a e g f)(F:Fx Y Y' ks)(u:∀k∈ks,ko k.1):bD Y' b w ns out n h a e g f:=by obtain⟨t,s⟩:=C.mp;have c:∀q:Id,¬ko q.1->q∉ks:=X;have j:=c b (by rw[C.sb];simp[ko]);have l:=c e (by rw[C.sm];simp[ko]);have m:=c g (by rw[C.so];simp[ko]);have o:=λq d=>c q (by rw[C.sw q d];simp[ko]);have p:=λq d=>c q (by rw[C.sa q d];simp[ko]);exact⟨F.keep _ _ j C.bx,C.nm,⟨t,F.keep _ _ l s⟩,C.gw.fx F o,C.ow.keep F m<|λi r q d=>c q<|by rw[C.ow.pl i r q d];simp[ko],C.gr.fx F p,F.len.trans C.le,C.sb,C.sm,C.so,C.sw,C.sa⟩
theorem awo{B l}:∀k,L (mq B l k)<=k:=λk=>by induction k with|zero=>simp[mq]|succ k a=>have:mq B l (k+1)=mq B l k++if B (gd l k)=U then[⟨(gd l k).aq,k,0,Q<|(gd l k).kind=8⟩] else[]:=a6z;grind
theorem awp{B l k x}(h:x∈mq B l k):∃i,i<k/\x.aq=(gd l i).aq:=by obtain⟨i,a,b⟩:=iI.1 h;grind
def CZ{Y:ae}{x:bp}:aX byo 1 Y [(0, .a<|bp.c x)]=V (.l ([x].map bp.c) U U,Y):=ua A rfl rfl H A H
theorem ann{b w ns out n wk a a1 fb fe bm bo f hs B E}(C:bD Y b w ns out n wk a bm bo f)(hw:L w.ac<=16)(cb:L hs<=80)(ck:∀i,i<L w.ac->aF (L w.aQ.ay) (gd w.ac i).aq)(cc:∀x∈hs,aF (L w.aQ.ay) x.aq)(G:lI Y 319 4 a1<|hs.map bp.c)(hp:∀k∈aA a1,ko k.1)(hB:∀Y',Fx Y Y' (aA a1)->∀i,i<L w.ac->∀d K,K (bv<|B<|gd w.ac i) Y'->cF fb [.a (gd w.ac i).c] Y' d K)(hE:∀Y',Fx Y Y' (aA a1)->∀i,i<L w.ac->∀d K,K (bv<|E<|gd w.ac i) Y'->cF fe [.a (gd w.ac i).c] Y' d K):∃r Y1,(lI Y1 319 4 r (((hs++mq B w.ac (L w.ac)).map<|gk E w.ac<|L w.ac).map bp.c)/\Fx Y Y1 (aA a1)/\(∀k∈aA r,ko k.1)/\∀k∈aA r,k∈aA a1\/bK Y k)/\cZ aS GG 245 [.p b 0 0,a1,fb,fe] Y r Y1:=aKs C.le<|by have bx:=C.bx;have bc:∀{x y:Int} {r:Bool},bM byo bst [(0,iv x),(1,iv y),(3,bv r)]=V (.a<|bp.c ⟨x,y,0,r⟩):=A;simp only[gQ,bhO bx,bx];refine yW (L w.ac) (λk r Y'=>lI Y' 319 4 r ((hs++mq B w.ac k).map bp.c)/\Fx Y Y' (aA a1)/\(∀k∈aA r,ko k.1)/\∀k∈aA r,k∈aA a1\/bK Y k) (s0:=a1) (by grind [mq,Fx.refl]) ?_;rintro k r Y1 D ⟨g1,F1,P1,N1⟩;have bi:=F1.len.trans C.le;have C1:=C.fxs F1 hp;have lk:=awo (B:=B) (l:=w.ac) k;simp only[qz 25,au,eQ];constructor<;>intro h;have am:=aL h;refine bsf (λe=>∀r2 Y2,lI Y2 319 4 r2 ((hs++mq B w.ac (k+1)).map bp.c)->Fx Y Y2 (aA a1)->(∀k∈aA r2,ko k.1)->(∀k∈aA r2,k∈aA a1\/bK Y k)->e [r2] Y2) ?_ λe aG=>?_;intro r2 Y2 q1 q2 q3 q4;simp only[qz 45,au,eQ];exact yX am ⟨q1,q2,q3,q4⟩;simp only[qz 47,qy 2,au,gJ,bh];refine⟨dJ am,?_⟩;refine zm bi λv3 Y3 F3 N3 b3=>?_;refine stI (cs:=aP.c<|gd w.ac k) b3 A rfl H λY4 F4 b4=>?_;have aC:box Y4 (11,v3)=V ⟨71,7,U,U,[aP.c<|gd w.ac k]⟩:=b4;have aB:Fx Y1 Y4 []:=(F3.trans F4).mono aUw;have g4:=g1.fx aB O;have F:=(F1.trans aB).mono (ks':=aA a1) vB;have cg:=F.len.trans C.le;have r7:aN (V 7) (gd w.ac k).c=V (.a (gd w.ac k).c):=A;have b1:mq B w.ac (k+1)=mq B w.ac k++if B (gd w.ac k)=U then[⟨(gd w.ac k).aq,k,0,Q<|(gd w.ac k).kind=8⟩] else[]:=a6z;simp only[qz 4,qy 8,qy 10,eQ,aC,r7];refine hB Y4 F k am _ _ ?_;simp+contextual only[eT,aC,bc,CZ];refine⟨λhb=>?_,λhb=>aG r Y4 vB F P1 N1⟩;refine gD g4 A H Z nC nC (by simp only[bJ,bZ,bhZ,a6G];omega) λr5 Y5 g5 F5 hi hd=>?_;refine aG r5 Y5 ?_ ((F.trans F5).mono λk D=>?_) (λk D=>?_) (λk D=>?_);simp_all;grind [bK.no];obtain D|D:=hd k D;exact P1 k D;exact .inr<|.inl D;grind [bK.old];obtain rfl:k=L w.ac:=X;generalize hL:hs++mq B w.ac (L w.ac)=Lw at g1;have b9:L Lw<=96:=(by rw[<-hL,a6G];omega);have ba:∀x∈Lw,aF (L w.aQ.ay) x.aq:=(by grind [awp]);simp only[lnI g1,bJ,u0];refine yV (L Lw) (λj _ Y'=>lI Y' 319 4 r (((Lw.take j).map (gk E w.ac<|L w.ac)++Lw.drop j).map bp.c)/\Fx Y Y' (aA a1)) vB ?_;rintro j _ Y5 hj ⟨g5,F5⟩;have C5:=C.fxs F5 hp;have b2:=C5.bx;simp only[qz 73,au,eQ];constructor<;>intro h5;have z:=aL h5;have aW:L ((Lw.take j).map (gk E w.ac<|L w.ac)++Lw.drop j)=L Lw:=NA;obtain⟨g,rfl,T⟩:∃g,r= .m g (L Lw)/\box Y5 g=V ⟨319,4,U,I,((Lw.take j).map (gk E w.ac<|L w.ac)++Lw.drop j).map bp.c⟩:=(by obtain⟨h',_⟩|⟨g,h',b5⟩:=g5;grind [List.map_eq_nil_iff];simp_all);have ca:g∈aA (.m g<|L Lw):=aBY;have hx:((Lw.take j).map (gk E w.ac<|L w.ac)++Lw.drop j)[j]?=V (gd Lw j):=(by rw[xf NA];simp only[bJ,gC,rD<|aYB z,tM,List.getElem?_drop,kP];grind [aNV]);have ao:∀y,((Lw.take j).map (gk E w.ac<|L w.ac)++Lw.drop j).set j y=(Lw.take j).map (gk E w.ac<|L w.ac)++y::Lw.drop (j+1):=λy=>(by rw[CD _ _ NA];simp only[bJ,gC,rD<|aYB z,tM];rw[Cw z,RY]);have W:(Lw.take<|j+1).map (gk E w.ac<|L w.ac)++Lw.drop (j+1)=(Lw.take j).map (gk E w.ac<|L w.ac)++gk E w.ac (L w.ac) (gd Lw j)::Lw.drop (j+1):=(by grind [iJ,aNV]);have N:=ba _<|dB z;generalize cm:gd Lw j=x at hx W N;generalize hM:(Lw.take j).map (gk E w.ac<|L w.ac)=M at T aW hx ao W;have aJ:L M=j:=X;have aa:∀{Y':ae} {bA:List (dM)},box Y' g=V ⟨319,4,U,I,bA⟩->cz 4 Y' (.m g<|L Lw) (iv j)=V (.p g j 0):=λh=>(by simp[cz,h];omega);have t:∀{Y':ae} {bA:List (dM)} {q p:Nat},box Y' g=V ⟨319,4,U,I,bA⟩->iQ p Y' (.p g j q)=V (.p g j<|q+p):=(by grind [iQ]);have aM:∀{Y':ae} {q:Nat} {y:bp},box Y' g=V ⟨319,4,U,I,(M++y::Lw.drop (j+1)).map bp.c⟩->sA J Y' (.p g j q)=aN J ((bp.c y).drop q):=λ{Y' q y} h=>(by simp_all [sA,iE]);have aX:∀{x:bp},aN J (bp.c x)=V (iv x.aq):=A;have aY:∀{x:bp},aN J ((bp.c x).drop 1)=V (iv x.dD):=A;refine bsf (λe=>∀(y:bp) s,y=gk E w.ac (L w.ac) x->box s g=V ⟨319,4,U,I,(M++y::Lw.drop (j+1)).map bp.c⟩->Fx Y s (aA a1)->e [] s) ?_ λe ak=>?_;intro y s hy h7 u;simp only[qz 93,au,eQ];refine yU z ⟨.inr ⟨g,?_,?_⟩,u⟩;grind;simp_all;simp only[qz 95,au,u0,aa T,t T,aj];refine wL T (by rw[ve,hx];rfl) (by simp[bp.c]) λY6 F6 b6=>?_;rw[show(bp.c x).set 2 (iv<|-1)=bp.c {x with dY:= -1} from A,<-bsl,ao] at b6;have mn:∀{Ya Yb:ae},Fx Y Ya (aA a1)->Fx Ya Yb [g]->Fx Y Yb (aA a1):=λq1 q2=>(q1.trans q2).mono aUw;have G6:=mn F5 F6;have C6:=C.fxs G6 hp;have aD:=C6.bx;have aK:x.aq.toNat<L w.aQ.ay:=(be7 N.1 N.2);have cl:=bsR N.1;have ap:∀{Y':ae},Fx Y Y' (aA a1)->lI Y' 3 1 (f x.aq.toNat) ((be8 w.ac x.aq<|L w.ac).map ci):=λq=>(by have:=(C.fxs q hp).ow.gr _ aK;grind [bww]);have bj:fS Y6 (f x.aq.toNat)=V (iv<|L<|be8 w.ac x.aq<|L w.ac):=(by rw[lnI<|ap G6,bJ]);have cj:L (be8 w.ac x.aq<|L w.ac)<=L w.ac:=bxw;simp only[qz 12,au,gQ,bhO aD,aD,aa b6,t b6,aM b6,ip,aX,C6.ow.ix N,C6.ow.ld aK,bj];refine yV (L<|be8 w.ac x.aq<|L w.ac) (λo _ Y'=>box Y' g=V ⟨319,4,U,I,(M++{x with dY:= -1}::Lw.drop (j+1)).map bp.c⟩/\Fx Y Y' (aA a1)/\∀m,m<o->brL E w.ac x (gd (fj w.ac x.aq<|L w.ac) m)=I) vB ?_;rintro o _ s ce ⟨v,u,ch⟩;have C7:=C.fxs u hp;have aE:=C7.bx;simp only[qz 115,qy 16,au,eQ];constructor<;>intro h7;have al:=aL h7;have R:o<L (fj w.ac x.aq<|L w.ac):=(by grind [wE]);have bf:gd (fj w.ac x.aq<|L w.ac) o<L w.ac/\(gd w.ac<|gd (fj w.ac x.aq<|L w.ac) o).aq=x.aq:=(by have:=jW.1<|dB R;exact⟨fq.1 this.1,aNQ this.2⟩);obtain⟨ab,bg⟩:=bf;have be:gd (be8 w.ac x.aq<|L w.ac) o=((gd (fj w.ac x.aq<|L w.ac) o:Nat):Int):=(by rw[aNV al,aNV R];simp[be8]);rw[Dw (ap u)<|dJ al,bh,be];generalize cf:gd (fj w.ac x.aq<|L w.ac) o=P at ab bg;have bn:brL E w.ac x P=I->(yI (λ_ i=>[iv i]) (L<|be8 w.ac x.aq<|L w.ac) λo (_:Unit) Y'=>box Y' g=V ⟨319,4,U,I,(M++{x with dY:= -1}::Lw.drop (j+1)).map bp.c⟩/\Fx Y Y' (aA a1)/\∀m,m<o->brL E w.ac x (gd (fj w.ac x.aq<|L w.ac) m)=I) [iv<|dq.wrap<|(o:Int)+1] s/\gM 0 (L<|be8 w.ac x.aq<|L w.ac) [iv<|dq.wrap<|(o:Int)+1] s<gM 0 (L<|be8 w.ac x.aq<|L w.ac) [iv o] s:=(λhs=>by refine yU al ⟨v,u,λm hm=>?_⟩;grind);simp only[eS,aa v,t v,aM v,aY];obtain ag|ag:=sq<|Q<|x.dD<(P:Int);simp only[ag,jT,Lg,bhO aE,aE,bh];refine⟨λ_=>dJ ab,hE s u P ab _ _ ?_⟩;obtain he|he:=sq<|E<|gd w.ac P;rw[he];simp only[show mL (bv U) (bv U) (bv I)=V (bv U) from A,u0,aa v,t v,aj];refine⟨λ_=>?_,λh=>nomatch h⟩;have aZ:((M++{x with dY:= -1}::Lw.drop (j+1)).map bp.c)[j]?=V (bp.c {x with dY:= -1}):=(by rw[ve,xf Z,aJ,tM];rfl);refine wL v aZ (by simp[bp.c]) λY8 F8 b8=>?_;rw[show(bp.c {x with dY:= -1}).set 2 (iv P)=bp.c {x with dY:=P} from A,<-bsl,CD _ _ Z,aJ,tM,RY] at b8;refine ak {x with dY:=P} Y8 ?_ b8 (mn u F8);rw[gk,aob (i:=P) (λi hi=>?_) (by grind [brL]) ab];by_cases S:(gd w.ac i).aq=x.aq;obtain⟨m,hm,he⟩:=aE0 R Z S;grind;grind [brL];rw[he];simp only[show mL (bv U) (bv I) (bv I)=V (bv I) from A,u0];exact⟨λh=>(nomatch h),by grind [brL]⟩;simp only[ag,u0,jN,gF,bih,show∀x,mL (bv I) x (bv I)=V (bv I) fromλ_=>A];exact⟨λh=>(nomatch h),by grind [brL]⟩;have cd:o=L (be8 w.ac x.aq<|L w.ac):=X;refine ak _ s ?_ v u;rw[gk,El];intro i hi;by_cases S:(gd w.ac i).aq=x.aq;obtain⟨m,hm,he⟩:=aEZ hi S;grind [wE];grind [brL];have bd:j=L Lw:=X;rw[bd,gV,List.drop_length,cL] at g5;exact⟨g5,F5,P1,N1⟩
theorem amz{s}{lock:Int}{u j:Nat}(h:j<L (gd s.ak lock.toNat).bk):qH s lock u (j+1)=qH s lock u j++if gd (gd s.ak lock.toNat).bk j=(u:Int) then[⟨u,-1,0,U⟩] else[]:=by grind [qH,pH]
theorem amy{s}{lock:Int}{u j:Nat}:L (qH s lock u j)<=L (gd s.ak lock.toNat).bk:=by grind [qH]
theorem aBM{s}{lock:Int}{u:Nat}:L (qG s lock u)<=L (gd s.ak lock.toNat).bk+1:=by grind [qG,amy]
theorem aBO{s lock k x}(h:x∈qF s lock k):aF k x.aq:=by obtain⟨u,a,b⟩:=iI.1 h;grind [qG,qH,dJ]
theorem aDG{b w ns out n wk a bm bo f}(C:bD Y b w ns out n wk a bm bo f)(hf:hU w)(hv:bcV w=U){lock:Int}(T:aF (L w.aQ.ak) lock):∃r Y1,(lI Y1 319 4 r ((jE w.aQ w.init.eB w.ac lock).map bp.c)/\Fx Y Y1 []/\∀k∈aA r,bK Y k)/\cZ aS GG 157 [.p b 0 0,iv lock] Y r Y1:=by
 have P:=vd hf hv
 obtain⟨ba,bV,bW,a6,bL⟩:=Bx hv
 obtain⟨fc,fl,fd,aW⟩:=iY a6
 have hw:=P.wo.ev
 have aD:=P.th
 have D:aF (L w.init.eB.ak) lock:=vB
 have a4:=Bq hv 0<|mh _
 have bU:L (gd w.init.eB.ak lock.toNat).bk<=4:=by
  have h1:=a4.rd _<|ii (l:=(cY w 0).eB.ak) (i:=lock) D
  have:=AC h1.1 h1.2
  exact gl this aD
 refine aKi C.le A rfl λs4 v2 v3 K4 bX nf2 bY b2 b3=>?_
 have F4:=K4.fx []
 have C4:=C.fx F4
 have bx:=C4.bx
 have r1:∀{x:AV},aN J [x]=V x:=λ{x}=>A
 have a5:∀{x y:Int},bM byo bst [(0,iv x),(1,iv y)]=V (.a<|bp.c ⟨x,y,0,I⟩):=A
 have aC:∀{x y:Int} {r:Bool},bM byo bst [(0,iv x),(1,iv y),(3,bv r)]=V (.a<|bp.c ⟨x,y,0,r⟩):=A
 simp only[Hp,qy 6,jT,b2,b3,r1,bhO bx,bx,dc]
 refine⟨D,?_⟩
 refine zm C4.le λv5 Y5 F5 N5 b5=>?_
 refine stI (cs:=cg.c<|gd w.init.eB.ak lock.toNat) b5 A rfl H λt F6 b6=>?_
 have aP:box t (5,v5)=V ⟨191,2,U,U,[cg.c<|gd w.init.eB.ak lock.toNat]⟩:=b6
 have o:Fx s4 t []:=(F5.trans F6).mono aUw
 have C6:=C4.fx o
 have ad:=C6.bx
 have c2:=o.kq b2
 have c3:=o.kq b3
 have R:=C.sb
 simp only[qz 8]
 refine dT (by obtain⟨b1,b2⟩:=b;simp only at R;subst R;simp[eL,lb,aNG,dC,dK,sl]) ?_
 simp only[gQ,c2,r1,bhO ad,ad]
 have bI:∀k,qF w.init.eB lock (k+1)=qF w.init.eB lock k++qG w.init.eB lock k:=λk=>a6z
 have a3:∀k,L (qF w.init.eB lock k)<=k*5:=λk=>brS (f:=qG w.init.eB lock) (c:=5) (by grind [aBM]) k
 refine yW (L w.aQ.ay) (λk a Y'=>lI Y' 319 4 a ((qF w.init.eB lock k).map bp.c)/\Fx t Y' []/\∀q∈aA a,bK t q/\ko q.1) (s0:= .l [] U U) ⟨lI.nil,Fx.refl _ _,aBY⟩ ?_
 rintro k a1 Y7 hk ⟨g7,F,N7⟩
 have d6:=F.kq aP
 have C7:=C6.fx F
 have lk:=a3 k
 simp only[qz 31,qy 18,au,eQ]
 refine⟨λh=>?_,λh=>?_⟩
 ·have bb:=aL h
  refine bsf (λe=>∀M g,lI g 319 4 M ((qF w.init.eB lock<|k+1).map bp.c)->Fx t g []->(∀q∈aA M,bK t q/\ko q.1)->e [M] g) ?_ λe ag=>?_
  ·intro M g W q2 q3
   simp only[qz 51,au,eQ]
   exact yX bb ⟨W,q2,q3⟩
  simp only[qz 53,qy 10,qy 12,au,eT,d6]
  refine⟨λho=>?_,λho=>?_⟩
  ·simp only[a5,aY,CZ,bQ]
   refine gD g7 A H (by rw[C7.le];decide) nC nC X λa8 g g8 G bO bd=>ag a8 g ?_ ((F.trans G).mono aUw) λq m=>⟨?_,?_⟩
   ·grind [qG]
   ·grind [bK.old]
   ·exact(bd q m).elim (λh=>(N7 q h).2) λh=> .inr<|.inr<|.inl h
  ·have bS:qG w.init.eB lock k=qH w.init.eB lock k (L (gd w.init.eB.ak lock.toNat).bk):=by grind [qG]
   refine yW (L (gd w.init.eB.ak lock.toNat).bk) (λj a Y'=>lI Y' 319 4 a ((qF w.init.eB lock k++qH w.init.eB lock k j).map bp.c)/\Fx t Y' []/\∀q∈aA a,bK t q/\ko q.1) (s0:=a1) (by grind [qH]) ?_
   rintro j M g hj ⟨g8,G,N8⟩
   have C8:=C6.fx G
   have bT:=amy (s:=w.init.eB) (lock:=lock) (u:=k) (j:=j)
   simp only[qz 85,au,eQ,qz 107,qy 14,qy 16,ix,rk,iF,bh]
   refine⟨λN=>⟨vp N,λhu=>?_,λhu=>?_⟩,λN=>?_⟩
   ·simp only[aC,aY,CZ,bQ]
    refine gD g8 A H (by rw[C8.le];decide) nC nC (by simp only[bJ,bZ,bhZ,a6G];omega) λa9 Y9 g9 F9 bR be=>?_
    simp only[qz 105,au,eQ]
    refine yX (aL N) ⟨?_,(G.trans F9).mono aUw,λq m=>⟨?_,?_⟩⟩
    ·grind [amz]
    ·grind [bK.old]
    ·exact(be q m).elim (λh=>(N8 q h).2) λh=> .inr<|.inr<|.inr h
   ·simp only[qz 105,au,eQ]
    refine yX (aL N) ⟨?_,G,N8⟩
    grind [amz]
   ·rw[bP hj<|dge N] at g8
    exact ag M g vB G N8
 ·have a7:k=L w.aQ.ay:=X
  have af:=F.kq c2
  have aV:=F.kq c3
  simp only[af,r1,aY,u1]
  have S:∀{Y':ae},Fx Y7 Y' (aA a1)->bD Y' b w ns out n wk a bm bo f/\box Y' (2,v2)=V ⟨176,1,U,U,[[.p b 0 0]]⟩/\box Y' (3,v3)=V ⟨3,1,U,U,[[iv lock]]⟩:=λv=>
   ⟨C7.fxs v λq m=>(N7 q m).2,v.keep _ _ (by grind [ko]) af,v.keep _ _ (by grind [ko]) aV⟩
  obtain⟨r,g,⟨W,q2,q3,q4⟩,hF⟩:=ann (Y:=Y7) (a1:=a1) (fb:= .f 243 [] [.p (3,v3) 0 0, .p (2,v2) 0 0]) (fe:= .f 244 [] [.p (3,v3) 0 0, .p (2,v2) 0 0]) (hs:=qF w.init.eB lock k) (B:=sJ w.aQ lock) (E:=sQ w.aQ lock) C7 hw Z (λi z=>(P.wo.named z).2) (by grind [aBO]) g7 X (λY' v i z d K hK=>by
   obtain⟨C',e2,e3⟩:=S v
   simp only[cF,btX]
   rw[za (show¬GG.nw 243=U by decide),zg<|show GG.imp 243=U by decide]
   exact aS2 A (aDE C' e3 e2 (gd w.ac i)<|by grind [oT,kB.named,vL.wo]) hK) (λY' v i z d K hK=>by
   obtain⟨C',e2,e3⟩:=S v
   simp only[cF,btX]
   rw[za (show¬GG.nw 244=U by decide),zg<|show GG.imp 244=U by decide]
   exact aS2 A (aDF C' e3 e2 (gd w.ac i)<|by grind [oT,kB.named,vL.wo]) hK)
  rw[aor (w:=w.aQ) (s:=w.init.eB) (Lw:=lock) ?_ (λi z=>awl T (P.wo.named z).1)<|λi z=>axI T (P.wo.named z).1] at W
  ·refine⟨r,g,hF,q2.len,?_⟩
   rw[za<|show¬GG.rd 245=U by decide]
   have ab:=F4.trans<|o.trans F
   refine⟨W,(ab.trans q2).mono λq m=>?_,λq m=>?_⟩
   ·simp only[dW] at m
    exact .inr (((N7 q m).1.old o).old F4).no
   ·obtain h'|h':=q4 q m
    ·grind [bK.old]
    ·exact h'.old ab
  ·rw[a7,<-aW]
   refine aBN (aYF T.2) λho=>?_
   have h5:=(ba lock.toNat<|be7 D.1 D.2).1
   grind [AM,List.length_eq_zero_iff]
theorem aDS{b w ns out n wk a bm bo f}(C:bD Y b w ns out n wk a bm bo f)(hf:hU w)(R:bcV w=U):∃r u,(lI u 319 4 r ((jE w.aQ w.init.eB w.ac<|L w.aQ.ak).map bp.c)/\Fx Y u []/\∀k∈aA r,bK Y k)/\cZ aS GG 158 [.p b 0 0] Y r u:=by
 have G:=vd hf R
 obtain⟨ar,av,aw,N,ap⟩:=Bx R
 obtain⟨fc,fl,fd,ao⟩:=iY N
 have hw:=G.wo.ev
 have z:w.init.eB.tx≠-1->aF (L w.init.eB.ay) w.init.eB.tx:=(by grind [yS,nO,dX])
 refine aKv C.le ?_
 have bx:=C.bx
 have M:∀{x y:Int},bM byo bst [(0,iv x),(1,iv y)]=V (.a<|bp.c ⟨x,y,0,I⟩):=A
 simp only[di]
 refine bvr (λvs Y'=>∃a1,vs=[a1]/\lI Y' 319 4 a1 ((sZ w.init.eB).map bp.c)/\Fx Y Y' []/\∀q∈aA a1,bK Y q/\ko q.1) (λg hJ=>?_) ?_
 ·simp only[qz 17,qy 2,qy 4,gQ,bhO bx,bx,dc]
  refine⟨λh=>?_,by grind [sZ,lI.nil,Fx.refl,aA]⟩
  simp only[M,aY,CZ,bQ]
  refine gD lI.nil A H (by rw[C.le];decide) O nC O λa8 D g8 W aq P=>hJ _ _ ⟨a8,A,?_,W.mono aBY,λq l=>⟨?_,?_⟩⟩
  ·grind [sZ]
  ·grind [aA]
  ·exact(P q l).elim aBY λh=> .inl h
 ·rintro vs Y7 ⟨a1,rfl,g7,t,N7⟩
  have m:=C.fx t
  simp only[qz 15,qy 6,aI,au]
  have:L (sZ w.init.eB)<=1:=by grind [sZ]
  obtain⟨r,D,⟨S,T,q3,q4⟩,hF⟩:=ann (Y:=Y7) (a1:=a1) (fb:= .f 246 [] []) (fe:= .f 247 [] []) (hs:=sZ w.init.eB) (B:=λe=>Q<|e.kind=12) (E:=λe=>Q<|e.kind=13) m hw Z (λi j=>(G.wo.named j).2) (by grind [sZ]) g7 X (λY' o i j d K v=>by
   simp only[cF,btX]
   rw[za (show¬GG.nw 246=U by decide),zg<|show GG.imp 246=U by decide]
   exact aS2 A (aDT (o.len.trans m.le)<|gd w.ac i) v) (λY' o i j d K v=>by
   simp only[cF,btX]
   rw[za (show¬GG.nw 247=U by decide),zg<|show GG.imp 247=U by decide]
   exact aS2 A (aDU (o.len.trans m.le)<|gd w.ac i) v)
  rw[aor (w:=w.aQ) (s:=w.init.eB) (Lw:=L w.aQ.ak) (aBP z) (λi j=>awm)<|λi j=>axJ] at S
  refine⟨r,D,hF,T.len,?_⟩
  rw[za<|show¬GG.rd 245=U by decide]
  refine⟨S,(t.trans T).mono λq l=>?_,λq l=>?_⟩
  ·grind [bK.no]
  ·obtain F|F:=q4 q l
   ·simp_all
   ·exact F.old t
def aEf{b w ns out n m a g h f}{d:Nat}{K}(C:bD Y b w ns out n m a g h f)(j:hU w)(k:bcV w=U){lock:Int}(e:aF (L w.aQ.ak) lock)(i:∀t,K (.l ((jE w.aQ w.init.eB w.ac lock).map bp.c) t U) Y):cB 157 [.p b 0 0,iv lock] Y d K:=bvL A (aDG C j k e) i
def aEk{b w ns out n k a e g f}{d:Nat}{K}(C:bD Y b w ns out n k a e g f)(i:hU w)(j:bcV w=U)(h:∀t,K (.l ((jE w.aQ w.init.eB w.ac<|L w.aQ.ak).map bp.c) t U) Y):cB 158 [.p b 0 0] Y d K:=bvL A (aDS C i j) h
theorem Q6{w}(h:hU w)(b:bcV w=U){Lw:Int}(e:0<=Lw/\Lw<=L w.aQ.ak):L (jE w.aQ w.init.eB w.ac Lw)<=100:=by
 have g:=vd h b
 obtain⟨m,n,o,d,k⟩:=Bx b
 obtain⟨fc,fl,p,j⟩:=iY d
 rw[Q5,bJ,a6G]
 have a:L (nu w.aQ w.init.eB Lw)<=L w.init.eB.ay*5:=brS (f:=btS w.aQ w.init.eB Lw) (c:=5) (λu=>by
  unfold btS
  split
  ·grind
  ·have:L (gd w.init.eB.ak Lw.toNat).bk<=4:=by
    have a:=(Bq b 0<|mh _).rd _ (ii (l:=(cY w 0).eB.ak) (i:=Lw)<|by rw[show(cY w 0).eB=w.init.eB from A,fl];exact⟨e.1,Z⟩)
    exact gl (AC a.1 a.2) g.th
   grind [pJ,Ln]) _
 have:L (oF w.aQ Lw w.ac<|L w.ac)<=L w.ac*1:=brS (f:=λi=>oY w.aQ Lw (gd w.ac i) i) (c:=1) (by grind [oY]) _
 grind [vL.th,kB.ev,vL.wo]
end
def apy:dO:=bwB
def aph:eJ apy:=bt9
def aBq:=@aBp
def asE:=I9 16 [(5,([13],[3,12]))]
def aJ5{c0}:=yB1 45 15 1 aph func87 asE c0 [.a c0]
def nT(ns:List aH8)(w:am)(l:List aH8)(x:aH8):List (eu):=(kZ ns w l x++(l.filter<|eZ x).map (dP ns))::(aH<|L<|l.filter<|eZ x).flatMap (btq ns w l x)
def ng(ns:List aH8)(w:am)(l:List aH8)(k:Nat):List (eu):=
 if(gd w.ac k).kind=17/\(brz w k).2=U then(-lE ns k::gO ns l (brz w k).1)::(aH<|L l).flatMap (iO ns k (brz w k).1 l) else[]
def sN(ns:List aH8)(w:am)(l:List aH8):List (eu):=((aH<|L l).flatMap λk=>iW ns<|gd l k)++((aH<|L l).flatMap (lP ns l)++((aH<|L l).flatMap (lQ ns w l)++(((aH<|L l).flatMap λk=>nT ns w l<|gd l k)++(aH<|L w.ac).flatMap (ng ns w l))))
theorem alM{ns w l x}:L (nT ns w l x)<=L l+1:=by unfold nT;rw[bZ];have:=brS (f:=btq ns w l x) (c:=1) (λj=>by simp[btq])<|L<|l.filter<|eZ x;grind
section
variable{Y:ae}{b:Id}{w:am}{ns:List aH8}{out:List (eu)}{n a:AV}{d:Nat}{K:be}
end
end Go.Ab
