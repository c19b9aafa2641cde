/- Part of the proof of WitnessWalks. -/
import Derived.Test.YthlflpfcfdpedaaGreatDoorC
set_option linter.all false
set_option maxRecDepth 100000
open And renaming intro->ai
open Bool renaming and_eq_false_iff->pk,and_eq_true->bN,and_true->ru,false->I,false_and->kM,false_eq_true->eE,false_or->lG,not_eq_false'->fK,not_eq_true'->eH,not_false->kN,not_true->fh,or_eq_false_iff->cP,or_eq_true->fH,or_false->kz,or_true->wY,true->U,true_and->iw,true_eq_false->sr
open Decidable renaming decide->Q,not_not->aNS
open Eq renaming mpr->aND
open Go.Code renaming region->BM,ret->ET
open Go.IntKind renaming i64->dq
open Go.Proofs.Tryz renaming prog->aS
open Go.Value renaming bool.injEq->mV,int.injEq->mW,string.injEq->mX
open Int renaming toNat_natCast->bh,toNat_zero->Gx
open List renaming all_cons->Cs,all_eq_true->dV,all_nil->aqG,append_assoc->bje,append_nil->cL,cons.injEq->kO,cons_append->zn,drop->aOz,drop_succ_cons->nM,drop_zero->ip,ext_getElem->biF,flatMap_cons->Cz,flatMap_nil->RN,foldl_nil->aRl,getD_eq_getElem?_getD->eI,getElem?_append_left->xe,getElem?_eq_getElem->eC,getElem?_set_ne->oq,getElem_of_mem->ou,length->L,length_append->a6G,length_cons->bZ,length_filter_le->fZ,length_map->bJ,length_nil->vw,length_pos_iff->aqS,length_replicate->oA,length_set->zq,length_take->gC,map_append->dg,map_congr_left->ja,map_cons->ji,map_map->vA,map_nil->mU,mem_append->dF,mem_cons->eW,mem_map->dN,mem_range->fq,mem_singleton->cE,nil_append->dW,not_mem_nil->ql,range->aH,range_succ->qn,replicate->er,set_eq_take_append_cons_drop->GP,take_append_drop->aq0,take_length->gV,take_succ_eq_append_getElem->iJ,take_zero->CE
open Nat renaming eq_zero_or_pos->oD,le_refl->dA,le_trans->gl,lt_of_le_of_lt->rC,lt_of_lt_of_le->C3,lt_or_ge->jj,mul_le_mul_right->qo,reduceAdd->dc,succ_mul->tN,zero_add->aj
open Option renaming bind_some->qd,getD_some->mi,map_some->df,none->J,some->V,some.injEq->bE
open Prod renaming mk.injEq->iK
namespace Go.Ab
open Go Go.RowKit Go.Proofs
def QO(w:br)(s:aW)(t kind nt:Int):Bool:=
 bif Q (kind=6) then Q<|(gd s.ak nt.toNat).pw= -1
 else bif Q (kind=10) then Q ((gd s.ak nt.toNat).pw= -1)&&Q (L (gd s.ak nt.toNat).bk=0)
 else bif Q (kind=8) then Q ((gd s.ak nt.toNat).pw= -1)&&!Q (t∈(gd s.ak nt.toNat).bk)
 else bif Q (kind=7)||Q (kind=11) then Q ((gd s.ak nt.toNat).pw=t)
 else bif Q (kind=9) then Q<|t∈(gd s.ak nt.toNat).bk
 else bif Q (kind=12) then Q<|s.tx= -1
 else bif Q (kind=13) then Q<|s.tx=t
 else bif Q (kind=14) then !(gd s.ay t.toNat).atomic
 else bif Q (kind=15) then(gd s.ay t.toNat).atomic
 else bif Q (kind=16)||(Q (kind=18)||Q (kind=19)) then Q ((gd s.ak (gd w.bC nt.toNat).eg.toNat).pw=t)
 else bif Q (kind=20) then Q (nt≠t)&&Q ((gd s.ay nt.toNat).cQ=0)
 else bif Q (kind=21) then Q (nt≠t)&&Q ((gd s.ay nt.toNat).cQ=5)
 else bif Q (kind=22) then !(gd s.done nt.toNat)
 else bif Q (kind=23) then gd s.done nt.toNat
 else U
def axG{w:br}{s:aW}{t kind nt:Int}:lc w s t kind nt=bif Q (kind=1) then Q ((gd s.ay t.toNat).cQ=1)
 else bif Q (kind=17) then Q ((gd s.ay t.toNat).cQ=4)&&(Q ((gd s.ay t.toNat).cond=nt)&&Q ((gd s.ak (gd w.bC nt.toNat).eg.toNat).pw= -1))
 else bif Q ((gd s.ay t.toNat).cQ≠2) then I else QO w s t kind nt:=rfl
structure KF(w:br)(s:aW)(kind nt:Int):Prop where
 mI:aF (L w.bC) nt->aF (L s.ak) (gd w.bC nt.toNat).eg
 lk:6<=kind->kind<=11->aF (L s.ak) nt
 cd:16<=kind->kind<=19->aF (L w.bC) nt
 th:20<=kind->kind<=21->aF (L s.ay) nt
 dn:22<=kind->kind<=23->aF (L s.done) nt
def D0{w:br}{s:aW}{kind nt:Int}(c:lh w s=U)(f:named w kind nt=U):KF w s kind nt:=by obtain⟨a,b,d,e⟩:=iY c;exact⟨λh=>by rw[b];exact a _<|ii h,(by grind [mJ]),(by grind [oT]),(by grind [Eb]),by grind [oU]⟩
def Oy(w:br)(s:aW)(t kind nt:Int)(p:lh w s=U/\named w kind nt=U/\aF (L s.ay) t/\(∀l∈s.ak,L l.bk<100000)):Ct 227 [.a w.c, .a s.c,iv t,iv kind,iv nt] (·=bv (QO w s t kind nt)):=by refine aK9 rfl rfl λF D j k C=>?_;obtain⟨n,o,f,z⟩:=p;obtain⟨x,E,A,G,B⟩:=D0 n o;have q:Q (kind=6)=U->aF (L s.ak) nt:=(by simp_all);have g:Q (kind=10)=U->aF (L s.ak) nt:=(by simp_all);have u:Q (kind=8)=U->aF (L s.ak) nt:=(by simp_all);have v:Q (kind=9)=U->aF (L s.ak) nt:=(by simp_all);have r:(Q (kind=7)||Q (kind=11))=U->aF (L s.ak) nt:=(by grind);have b:(Q (kind=16)||(Q (kind=18)||Q (kind=19)))=U->aF (L w.bC) nt:=(by grind);have h:Q (kind=20)=U->aF (L s.ay) nt:=(by simp_all);have i:Q (kind=21)=U->aF (L s.ay) nt:=(by simp_all);have d:Q (kind=22)=U->aF (L s.done) nt:=(by simp_all);have e:Q (kind=23)=U->aF (L s.done) nt:=(by simp_all);have y:aF (L s.ak) nt->L (gd s.ak nt.toNat).bk<4611686018427387904:=(by grind [ii]);have m:(L (gd s.ak nt.toNat).bk:Int)=0↔L (gd s.ak nt.toNat).bk=0:=(by omega);simp only[abG,↓uL];simp+contextual (maxSteps:=3000000) only[f8,acT,acR,acA,abI,sw,aI,au,↓iC,↓iB,↓iS,u0,u1,rW,ar,j,k,rk,ix,cT,aj,↓uL];simp+contextual (maxSteps:=3000000) only[QO,vb,aoC,x,q,r,u,v,g,b,h,i,d,e,y,m,f,bR,tn,hH,ld,Bool.true_or,lG,wY,kz,sr,eE,vm];done
def Fu:FT:=zb Oy
def ayv{w s t kind nt Lw K}:=KQ Fu Oy w s t kind nt Lw K (j:=by simp+contextual only[ij,j9])
structure nK(x:jY):Prop where
 wo:kB x.w
 ss:x.ss=(aH<|L x.w.ac).map λk=>(cY x.w k).bm
def nK.at{x:jY}(h:nK x){k:Nat}(a:k<L x.w.ac):gd x.ss k=(cY x.w k).bm/\k<L x.ss:=by grind [nK.ss,bT]
theorem qI{n:Nat}{i:Int}(h:aF n i):i.toNat<n:=by have:=h.1;have:=h.2;omega
def nK.ix{x:jY}(h:nK x){i:Int}(a:aF (L x.w.ac) i):aF (L x.ss) i/\gd x.ss i.toNat=(cY x.w i.toNat).bm:=by have b:=h.at (qI a);refine⟨⟨a.1,?_⟩,b.1⟩;omega
def nK.kf{x:jY}(h:nK x){i j:Int}(b:aF (L x.w.ac) i)(c:aF (L x.w.ac) j):KF x.w.aQ (cY x.w j.toNat).bm (gd x.w.ac i.toNat).kind (gd x.w.ac i.toNat).nt:=by have a:=(h.wo.st _<|qI c).2;simp only[fN,bN] at a;exact D0 a.1 (h.wo.named<|qI b).1
def sG{x:jY}{Y:ae}:dG Y (.a x.c)= .a x.c:=rfl
def Of(x:jY)(i j:Int)(G:kB x.w/\aF (L x.w.ac) i/\aF (L x.w.ac) j/\i<j/\nh (gd x.w.ac i.toNat) (gd x.w.ac j.toNat)=U):Ct 153 [.a x.c,iv i,iv j] (·=bv (Q ((gd x.w.ac i.toNat).aq≠(gd x.w.ac j.toNat).aq)&&!(gd x.w.aQ.cells (gd x.w.ac i.toNat).nt.toNat).vol)):=by refine aKP rfl λH e s N=>?_;obtain⟨O,E,F,K,n⟩:=G;have v:box H (3,1)=V ⟨174,16,U,U,[x.w.c++[sl aW.c x.ss]]⟩:=s;have p:aN (V 16) (x.w.c++[sl aW.c x.ss])=V (.a x.c):=rfl;simp+contextual only[Z7,u0,u1,v,p,fi,aac,ar,sG,rW,kj,ix,rk,aj,E,F,bR,↓uL];have m:([i,j].all λi=>dh i<|L x.w.ac)=U:=(by grind [dX]);have o:Q (j<=i)=I:=(by simp;omega);rw[m,o,n];refine⟨by simp,λh=>(nomatch h),λ_=>?_⟩;refine mo e λM f t=>?_;simp only[aab,↓uL];refine mo (f.1.trans e) λq b u=>?_;simp only[aaa,↓uL];have y:box q (7,_)=_:=b.bt t;refine gN (cs:=aP.c<|gd x.w.ac i.toNat) y (by rw[b.1,f.1,e];decide) rfl rfl λr g z=>?_;have A:box r (8,_)=_:=g.bt u;simp only[Z9,↓uL];refine gN (cs:=aP.c<|gd x.w.ac j.toNat) A (by rw[g.1,b.1,f.1,e];decide) rfl rfl λl k D=>?_;have C:box l (7,_)=_:=k.bt z;have B:box l (3,1)=V ⟨174,16,U,U,[x.w.c++[sl aW.c x.ss]]⟩:=k.bt (g.bt<|b.bt<|by grind [Fr.box]);simp only[Z8,↓uL];refine dT rfl ?_;have d:aF (L x.w.aQ.cells) (gd x.w.ac i.toNat).nt:=(by simp only[nh,bN,tT,fH,j1] at n;grind [qP,kB.named,qI]);simp+contextual only[u0,u1,B,C,D,kj,rk,ix,aj,d,hH,bR,↓uL];done
def Ff:FT:=qe Of
def ayg{x i j Lw K}:=sT Ff Of x i j Lw K (j:=by simp+contextual only[ij,j9])
def Oa(x:jY)(j i:Int)(hp:nK x/\aF (L x.w.ac) i/\aF (L x.w.ac) j/\wW (gd x.w.ac j.toNat).kind=U):Ct 206 [.a x.c,iv j,iv i] (·=bv (aOj x.w j i)):=by
 refine aKK rfl λs2 f W h0=>?_
 obtain⟨u,G,o,F⟩:=hp
 have bb:box s2 (3,1)=V ⟨174,16,U,U,[x.w.c++[sl aW.c x.ss]]⟩:=W
 simp+contextual only[ZH,u0,u1,bb,kj,ix,rk,aj,G,o,bR,↓uL]
 refine mo f λO g X=>?_
 simp only[ZL,↓uL]
 refine mo (g.1.trans f) λP d Z=>?_
 simp only[ZK,↓uL]
 have c2:box P (7,_)=_:=d.bt X
 refine gN (cs:=aP.c<|gd x.w.ac i.toNat) c2 (by rw[d.1,g.1,f];decide) rfl rfl λR k d2=>?_
 have d3:box R (8,_)=_:=k.bt Z
 simp only[ZJ,↓uL]
 refine gN (cs:=aP.c<|gd x.w.ac j.toNat) d3 (by rw[k.1,d.1,g.1,f];decide) rfl rfl λn t B=>?_
 have e2:box n (7,_)=_:=t.bt d2
 have e1:box n (3,1)=V ⟨174,16,U,U,[x.w.c++[sl aW.c x.ss]]⟩:=t.bt (k.bt<|d.bt<|by grind [Fr.box])
 simp only[ZI,↓uL]
 refine dT rfl ?_
 simp+contextual only[u0,u1,e2,B,rk,ar,rW,aj,F,f8,ZO,ZP,ZN,ZM,aI,au,ck,e1,kj,ix,ND,sr,eE,vm,NR,tn,↓uL]
 obtain⟨T,A⟩:=u.ix o
 obtain⟨K,v,cd,th,dn⟩:=u.kf G o
 have hL:L n=4096:=by rw[t.1,k.1,d.1,g.1,f]
 have H:∀l∈(cY x.w j.toNat).bm.ak,L l.bk<100000:=(u.wo.st _<|qI o).1.1
 have b:∀(m:Int) (z:Bool),aF (L (cY x.w j.toNat).bm.ak) m->aOj x.w j i=(Q ((gd (cY x.w j.toNat).bm.ak m.toNat).pw=(gd x.w.ac j.toNat).aq)||(z&&Q ((gd x.w.ac j.toNat).aq∈(gd (cY x.w j.toNat).bm.ak m.toNat).bk)))->
   (eV (bs 186 aPz n 11) λy M=>sV (aK 2 M y<|AV.a (gd (gd x.ss j.toNat).ak m.toNat).c)<|Ig y (.p (8,(aZ O 8).lB+1) 0 0) [iv m,bv z] λr=>r=bv (aOj x.w j i)):=by
  intro m z hm hb
  rw[A]
  refine eF rfl rfl (by decide) (by omega) λS N b5=>?_
  have f3:box S (8,_)=_:=N.bt B
  have:=H _<|ii hm
  simp+contextual only[Ig,u0,u1,b5,f3,rk,ar,rW,aj,au,ck,↓uL]
  grind
 rw[A] at*
 simp only[T,bR]
 simp only[wW] at F
 refine⟨(by grind [aOj]),λh=>⟨λD=>?_,λD=>⟨λq=>?_,λq=>⟨λE=>?_,λE=>⟨λs=>?_,λs=>⟨λC=>?_,λC=>?_⟩⟩⟩⟩⟩⟩
 ·have e:=u4 D
  have:=v (by omega) (by omega)
  refine⟨this,b _ U this ?_⟩
  grind [aOj]
 ·have e:=u4 q
  have:=v (by omega) (by omega)
  refine⟨this,b _ U this ?_⟩
  grind [aOj]
 ·have e:=u4 E
  have:=v (by omega) (by omega)
  refine⟨this,b _ I this ?_⟩
  grind [aOj]
 ·have e:=u4 s
  have:=cd (by omega) (by omega)
  refine⟨this,K this,b _ I (K this) ?_⟩
  grind [aOj]
 ·grind [aOj]
 grind [aOj]
def E8:FT:=qe Oa
def ayc{x j i Lw K}:=sT E8 Oa x j i Lw K (j:=by simp+contextual only[ij,j9])
def slE{l:List aP}{i j:Int}{Y:ae}{K:o8}:rV (fo 7 Y (sl aP.c l) (V<|iv i) (V<|iv j) J) K=((0<=i/\i<=j/\j<=L l)/\K (sl aP.c<|(l.take j.toNat).drop i.toNat)):=by simp only[fo,lM,sl];by_cases a:0<=i;by_cases d:0<=j;simp only[a,d,NA,qY,Option.getD_none,mi,bJ,bR];by_cases e:i<=j/\j<=L l;have b:i.toNat<=j.toNat/\j.toNat<=L l:=(by omega);rw[d7 ⟨b.1,b.2,by simp[aP.c]⟩];simp only[NA,rV,e,ld,bR,kM];grind [aP.c,List.map_drop,List.map_take,List.drop_take];grind [rV];grind [rV];simp[a,rV]
def ams{l:List aP}{i j k:Nat}(a:j<=L l)(b:k<L ((l.take j).drop i)):gd ((l.take j).drop i) k=gd l (i+k)/\i+k<j:=by grind [List.length_drop,gC,Nat.min_eq_left,bT]
def NZ(x:jY)(i j:Int)(A:nK x/\aF (L x.w.ac) i/\aF (L x.w.ac) j/\i<j/\(gd x.w.ac j.toNat).aq=(gd x.w.ac i.toNat).aq/\(gd (cY x.w i.toNat).bm.ay (gd x.w.ac i.toNat).aq.toNat).atomic=U/\(∀k,k<j.toNat->i.toNat<=k->((gd x.w.ac k).aq≠(gd x.w.ac i.toNat).aq\/(gd x.w.ac k).kind≠15))):Ct 157 [.a x.c,iv i,iv j] (·=bv U):=by refine aKJ rfl λB z t K=>?_;obtain⟨d,b,m,D,o,f,C⟩:=A;have v:box B (3,1)=V ⟨174,16,U,U,[x.w.c++[sl aW.c x.ss]]⟩:=t;obtain⟨r,s⟩:=d.ix b;have O:=d.wo.ev;have p:aF (L (cY x.w i.toNat).bm.ay) (gd x.w.ac i.toNat).aq:=(by have e:=(d.wo.st _<|qI b).2;simp only[fN,bN] at e;rw[(iY e.1).2.2.2];exact(d.wo.named<|qI b).2);have l:Q (j<=i)=I:=(by simp;omega);have q:dq.wrap (i+1)=i+1:=(by have:=b.1;have:=b.2;grind [eM]);have g:0<=i+1/\i+1<=j/\j<=L x.w.ac:=(by have:=b.1;have:=m.2;omega);have n:Q ((gd x.w.ac j.toNat).aq≠(gd x.w.ac i.toNat).aq)=I:=(by simp[o]);simp+contextual only[Ie,u0,u1,v,kj,ix,ND,rk,aj,dc,b,m,r,s,p,l,f,q,slE,g,n,fh,kz,lG,eE,vm,NR,hH,bR,cT,↓uL];refine pQ (L<|(x.w.ac.take j.toNat).drop (i+1).toNat) [9] (λk=>True) trivial λk Y N M y=>?_;simp+contextual only[If,u0,u1,ix,rk,bh,au,aI,aj,↓uL];have E:L ((x.w.ac.take j.toNat).drop (i+1).toNat)<=16:=(by simp;omega);refine⟨λh=>⟨vp h,?_⟩,λh=>trivial⟩;obtain⟨g1,H⟩:=ams (by omega)<|aL h;refine eF rfl rfl (by decide) (by rw[y.1,z];decide) λG F u=>?_;simp+contextual only[ZG,If,Ie,u0,u1,u,rk,aj,au,↓uL];grind [oL,aL,Fr.trans]
def E7:FT:=qe NZ
def ayb{x i j Lw K}:=sT E7 NZ x i j Lw K (j:=by simp+contextual only[ij,j9])
def Oe(x:jY)(i j:Int)(hp:nK x/\aF (L x.w.ac) i/\aF (L x.w.ac) j/\j<i/\((gd x.w.ac i.toNat).kind=18\/(gd x.w.ac i.toNat).kind=19)/\(gd x.w.ac j.toNat).kind=16/\(gd x.w.ac i.toNat).nt=(gd x.w.ac j.toNat).nt/\(gd x.w.ac i.toNat).aq≠(gd x.w.ac j.toNat).aq/\(∀k,k<i.toNat->j.toNat<k->(gd x.w.ac k).aq≠(gd x.w.ac j.toNat).aq)/\(gd (cY x.w i.toNat).bm.ay (gd x.w.ac j.toNat).aq.toNat).cQ=3/\((gd x.w.ac i.toNat).kind=19\/(gd x.w.ac i.toNat).value=(gd x.w.ac j.toNat).aq)):Ct 155 [.a x.c,iv i,iv j] (·=bv U):=by refine aKO rfl λE e O h0=>?_;obtain⟨m,n,b,ak,al,am,ao,av,A,ap,hv⟩:=hp;have T:box E (3,1)=V ⟨174,16,U,U,[x.w.c++[sl aW.c x.ss]]⟩:=O;obtain⟨a1,a2⟩:=m.ix n;have hw:=m.wo.ev;have aw:aF (L (cY x.w i.toNat).bm.ay) (gd x.w.ac j.toNat).aq:=(by have v:=(m.wo.st _<|qI n).2;simp only[fN,bN] at v;rw[(iY v.1).2.2.2];exact(m.wo.named<|qI b).2);have C:aN (V 16) (x.w.c++[sl aW.c x.ss])=V (.a x.c):=rfl;have y:([i,j].all λi=>dh i<|L x.w.ac)=U:=(by grind [dX]);have B:Q (i<=j)=I:=(by simp;omega);have D:dq.wrap (j+1)=j+1:=(by have:=b.1;have:=b.2;grind [eM]);have z:0<=j+1/\j+1<=i/\i<=L x.w.ac:=(by have:=b.1;have:=n.2;omega);simp+contextual only[ZZ,u0,u1,T,C,fi,Z5,ar,sG,rW,kj,ix,rk,aj,n,b,bR,↓uL];rw[y,B];refine⟨by simp,λh=>(nomatch h),λ_=>?_⟩;refine mo e λH f P=>?_;simp only[Z4,↓uL];refine mo (f.1.trans e) λK d R=>?_;simp only[Z3,↓uL];have W:box K (7,_)=_:=d.bt P;refine gN (cs:=aP.c<|gd x.w.ac i.toNat) W (by rw[d.1,f.1,e];decide) rfl rfl λM g X=>?_;have Z:box M (8,_)=_:=g.bt R;simp only[Z2,↓uL];refine gN (cs:=aP.c<|gd x.w.ac j.toNat) Z (by rw[g.1,d.1,f.1,e];decide) rfl rfl λp o t=>?_;have s:box p (7,_)=_:=o.bt X;have r:box p (3,1)=V ⟨174,16,U,U,[x.w.c++[sl aW.c x.ss]]⟩:=o.bt (g.bt<|d.bt<|by grind [Fr.box]);simp only[Z1,↓uL];refine dT rfl ?_;have q:(Q ((gd x.w.ac i.toNat).kind≠18)&&Q ((gd x.w.ac i.toNat).kind≠19)||Q ((gd x.w.ac j.toNat).kind≠16)||Q ((gd x.w.ac i.toNat).nt≠(gd x.w.ac j.toNat).nt)||Q ((gd x.w.ac i.toNat).aq=(gd x.w.ac j.toNat).aq))=I:=(by grind);simp+contextual only[u0,u1,r,s,t,kj,rk,ix,aj,q,eE,vm,NR,bR,D,slE,z,cT,↓uL];generalize(aZ H 8).lB+1=F at*;generalize(aZ E 7).lB+1=v7 at*;have hL:L p=4096:=(by rw[o.1,g.1,d.1,f.1,e]);refine pQ (L<|(x.w.ac.take i.toNat).drop (j+1).toNat) [10] (λk=>True) trivial λk Y hk hc l=>?_;have f1:box Y (3,1)=_:=l.bt r;have f2:box Y (7,v7)=_:=l.bt s;have u:box Y (8,F)=_:=l.bt t;have an:L ((x.w.ac.take i.toNat).drop (j+1).toNat)<=16:=(by simp;omega);simp+contextual only[Z6,u0,u1,f1,f2,u,kj,ix,ND,rk,bh,au,aI,aj,↓uL];refine⟨λh=>⟨vp h,?_⟩,λh=>?_⟩;obtain⟨g1,g2⟩:=ams (by omega)<|aL h;refine eF rfl rfl (by decide) (by rw[l.1,hL];decide) λN G S=>?_;have h3:box N (8,F)=_:=G.bt u;simp+contextual only[Z0,u0,u1,S,h3,rk,aj,au,↓uL];rw[g1];have:=A ((j+1).toNat+k) g2 (by have:=b.1;omega);grind [oL,aL,Fr.trans];simp_all
def Fc:FT:=qe Oe
def al5{x i j Lw K}:=sT Fc Oe x i j Lw K (j:=by simp+contextual only[ij,j9])
def Ob(x:jY)(g:cJ)(n:kB x.w/\aF (L x.w.ac) g.ea/\aF (L x.w.ac) g.eb/\aF (L x.w.ac) g.ec/\aF (L x.w.ac) g.ed/\g.ec<=g.ed/\(rP x.w g).aq=(xI x.w g).aq/\(rP x.w g).aq≠(jn x.w g).aq/\nh (jn x.w g) (rP x.w g)=U/\nh (xI x.w g) (mB x.w g)=U):Ct 158 [.a x.c, .a g.c] (·=bv U):=by refine aKL rfl rfl λs u i j t=>?_;obtain⟨v,o,p,q,r,d,f,h,l,m⟩:=n;have k:box s (2,1)=V ⟨174,16,U,U,[x.w.c++[sl aW.c x.ss]]⟩:=i;have e:aN (V 16) (x.w.c++[sl aW.c x.ss])=V (.a x.c):=rfl;have b:¬(gd x.w.ac g.ed.toNat).aq=(gd x.w.ac g.ea.toNat).aq:=f▸h;simp+contextual only[ZQ,u0,u1,k,j,e,ar,sG,rW,kj,ix,rk,aj,o,p,q,r,d,f,b,l,m,bR,aTo,bkk,aNV,hH,ld,↓uL];done
def E9:FT:=aIc Ob
def ayd{x g Lw K}:=gX E9 Ob x g Lw K (j:=by simp+contextual only[ij,j9])
def Bc{a:AV}{b:Bool}:mL (bv I) a (bv b)=V (bv b):=rfl
def apk:dO:=(227,Fu)::(153,Ff)::(206,E8)::(157,E7)::(155,Fc)::(158,E9)::apj
def Rd:eJ apk:=it (Rt Oy)<|it (tE Of)<|it (tE Oa)<|it (tE NZ)<|it (tE Oe)<|it (aCb Ob)<|rf
def aBm:=ai @ayv<|ai @ayg<|ai @ayc<|ai @ayb<|ai @al5<|ai @ayd<|@rW
def Sv a s0 R:=aO .neq a a λt1=>aE R s0 [t1]
def aJV{a:AV}{R:o8}(h:H0 λs0=>Sv a s0 R):Ct 285 [a] R:=z0 at1 Rd Tryz.func285 h
def atx:=bi 11 [(1,([0,2],[])),(4,([0,2],[])),(7,([0,2],[]))]
def aaC R s0 a:=Rg->rV (sO (V .u8)<|gt a 0) λt4=>rV (sxA (sv [0,1,2,2,3,3,3,3,4,4,4,4,4,4,4,4,5,5,5,5,5,5,5,5,5,5,5,5,5,5,5,5,6,6,6,6,6,6,6,6,6,6,6,6,6,6,6,6,6,6,6,6,6,6,6,6,6,6,6,6,6,6,6,6,7,7,7,7,7,7,7,7,7,7,7,7,7,7,7,7,7,7,7,7,7,7,7,7,7,7,7,7,7,7,7,7,7,7,7,7,7,7,7,7,7,7,7,7,7,7,7,7,7,7,7,7,7,7,7,7,7,7,7,7,7,7,7,7,8,8,8,8,8,8,8,8,8,8,8,8,8,8,8,8,8,8,8,8,8,8,8,8,8,8,8,8,8,8,8,8,8,8,8,8,8,8,8,8,8,8,8,8,8,8,8,8,8,8,8,8,8,8,8,8,8,8,8,8,8,8,8,8,8,8,8,8,8,8,8,8,8,8,8,8,8,8,8,8,8,8,8,8,8,8,8,8,8,8,8,8,8,8,8,8,8,8,8,8,8,8,8,8,8,8,8,8,8,8,8,8,8,8,8,8,8,8,8,8,8,8,8,8,8,8,8,8]) t4) λb=>rV (sO (V .i64) b) λc=>aV (gt a 1) c λd=>aE R s0 [d]
def aaF a(b:cG):=aO .geq (gt a 0) (.s<|.int .u64 256) λd=>ah d (aO .shr (gt a 0) (.s<|.int .u64 8) λe=>aV (gt a 1) (iv 8) λc=>b [e,c])<|b [gt a 0,gt a 1]
def aaB R s0 a:=Rg->jR 7 (aaC R s0) (aaF a)
def aaE a(b:cG):=aO .geq (gt a 0) (.s<|.int .u64 65536) λc=>ah c (aO .shr (gt a 0) (.s<|.int .u64 16) λd=>aV (gt a 1) (iv 16) λe=>b [d,e])<|b [gt a 0,gt a 1]
def aaA R s0 a:=Rg->jR 4 (aaB R s0) (aaE a)
def aaD a(b:cG):=aO .geq a (.s<|.int .u64 4294967296) λc=>ah c (aO .shr a (.s<|.int .u64 32) λd=>b [d,iv 32])<|b [a,iv 0]
def aaz a s0 R:=jR 1 (aaA R s0)<|aaD a
def aKY{a:AV}{R:o8}(h:H0 λs0=>aaz a s0 R):Ct 268 [a] R:=z0 atx Rd Tryz.func268 h
def NF(x:Int):Ct 285 [iv x] (·=bv I):=by refine aJV λs0 b a=>?_;simp only[Sv,u0,u1,aTo,bqV,aNK,↓uL]
def BO:FT:=lH NF
def axT{x Lw K}:=np BO NF x Lw K
def avZ{a b:Int}:wl .geq 0 [] (.s<|.int .u64 a) (.s<|.int .u64 b)=V (bv<|Q<|b<=a):=rfl
def Oo(n:Int)(g:0<=n/\n<=12):Ct 268 [.s<|.int .u64 n] (λr=>∃k:Int,r=iv k):=by refine aKY λs0 f e=>?_;obtain⟨m,rfl⟩:∃m:Nat,n=m:=⟨n.toNat,by omega⟩;have d:m<=12:=(by omega);have a:Q (4294967296<=(m:Int))=I:=(by simp;omega);have b:Q (65536<=(m:Int))=I:=(by simp;omega);have c:Q (256<=(m:Int))=I:=(by simp;omega);simp+contextual only[aaC,aaF,aaB,aaE,aaA,aaD,aaz,f8,u0,avZ,au,ck,a,b,c,aI,↓iB,eE,vm,NR,bR,↓uL];match m,d with|0,_=>exact⟨rfl,_,rfl⟩|1,_=>exact⟨rfl,_,rfl⟩|2,_=>exact⟨rfl,_,rfl⟩|3,_=>exact⟨rfl,_,rfl⟩|4,_=>exact⟨rfl,_,rfl⟩|5,_=>exact⟨rfl,_,rfl⟩|6,_=>exact⟨rfl,_,rfl⟩|7,_=>exact⟨rfl,_,rfl⟩|8,_=>exact⟨rfl,_,rfl⟩|9,_=>exact⟨rfl,_,rfl⟩|10,_=>exact⟨rfl,_,rfl⟩|11,_=>exact⟨rfl,_,rfl⟩|12,_=>exact⟨rfl,_,rfl⟩
def Fo:FT:=om Oo
def ayo{n Lw K}:=qz Fo Oo n Lw K
def apm:dO:=(285,BO)::(268,Fo)::apk
def Re:eJ apm:=it (nH NF)<|it (rj Oo)<|Rd
def La:=ai @axT<|ai @ayo<|@aBm
def Su b c s0 R:=fV BO s0 [b] λt1=>fm t1 c λt3=>az t1 (fV BO s0 [t3]) λh=>az t1 (cf h) λi=>aD t1 i (bv I) λa=>bX a b λd=>bX a c λe=>aC a (aU d e) λf=>aD a (bv U) f λg=>aE R s0 [g]
def aJU{a b:AV}{R:o8}(h:H0 λs0=>Su a b s0 R):Ct 264 [a,b] R:=z0 at1 Re Tryz.func264 h
def atw:=bi 4 []
def aay a s0 R:=ah (bv I) (rV (sO (V .u32) a) λt1=>fV (cX 267) s0 [t1] λb=>aE R s0 [b]) (fV Fo s0 [a] λt3=>aE R s0 [t3])
def aKX{a:AV}{R:o8}(h:H0 λs0=>aay a s0 R):Ct 229 [a] R:=z0 atw Re Tryz.func229 h
def NE(x y:Int):Ct 264 [iv x,iv y] (·=bv (Q<|x<y)):=by refine aJU λs0 b a=>?_;simp+contextual only[Su,u0,u1,ar,La,kN,kM,lG,jN,jA,qE,Bc,↓uL]
def BN:FT:=lI NE
def axS{x y Lw K}:=nq BN NE x y Lw K
def Om(n:Int)(a:0<=n/\n<=12):Ct 229 [.s<|.int .u64 n] (λr=>∃k:Int,r=iv k):=by refine aKX λs0 c b=>?_;simp+contextual only[aay,u0,u1,ar,La,eE,vm,NR,bR,↓uL];refine⟨a,?_⟩;rintro r ⟨k,rfl⟩;exact⟨.inl rfl,rfl,k,rfl⟩
def Fm:FT:=om Om
def ayn{n Lw K}:=qz Fm Om n Lw K
def apn:dO:=(264,BN)::(229,Fm)::apm
def wR:eJ apn:=it (nI NE)<|it (rj Om)<|Re
def ut:=ai @axS<|ai @ayn<|@La
def au5:=bi 23 [(6,([3],[0])),(14,([3,5],[0,4])),(17,([3],[0,4,5]))]
def arT a(f:aG)(c:bu) g b d:=Rg->aV (gt a 1) (iv 1) λe=>f [gt b 0,e] d/\c [gt b 0,e] d<c a g
def arU a c b p(d:aG):=ao 1 a c (gt b 1) λf=>aM a f λg=>aO .sub (gt b 1) (iv 1) λh=>ao 1 a c h λi=>aM a i λj=>aO .neq g j λk=>ah k (ao 1 a c (gt b 1) λl=>aM a l λm=>ao 1 a p (gt b 0) λn=>sV (aK 1 a n m) λe=>aV (gt b 0) (iv 1) λo=>d [o] e)<|d [gt b 0] a
def arS d b R a:=rV (fo 1 a d J (V<|gt b 0) J) λc=>fe R a [c]
def arV c d R e f a b:=Rg->aJ b c λg=>aU (gt a 1) g λh=>ah h (jV 17 (arT a e f b)<|arU b c a d) (rV (fo 1 b d (V<|gt a 0) J J) λi=>sV (pA (.int .i64 0) b i)<|arS d a R)
def aj0 c R(j:aG)(e:bu) b a:=Rg->aJ a c λk=>aU (gt b 0) k λl=>ah l (ao 1 a c (gt b 0) λm=>aM a m λn=>aO .sub (gt b 0) (iv 1) λo=>ao 1 a c o λf=>aM a f λg=>bf n g λh=>ah h (rV (fo 1 a c (V<|gt b 0) J J) λi=>lV [gt b 0,iv 1] a<|arV i c R)<|aV (gt b 0) (iv 1) λd=>j [d] a/\e [d] a<e b a)<|fe R a [c]
def JN a s0 R:=aJ s0 a λt1=>aU t1 (iv 2) λb=>ah b (fe R s0 [a])<|lV [iv 1] s0<|aj0 a R
def aJN{a:AV}{s0:ae}{R:be}(h:JN a s0 R):EB 186 [a] s0 R:=zB au5 wR Tryz.func186 h
def aMy{a:AV}{s0:ae}{R:be}(b:L s0=4096)(h:JN a s0 R):EB 186 [a] s0 R:=by refine aJN ?_;exact h
def avb:=bi 10 [(1,([6],[0,1,2])),(6,([7],[0,1,2,6]))]
def aj8 a b g h j l i f m k(n:aG)(e:bu) o c:=dH [km,km,km,km,lb U [gt a 0,iv 1] [],km,km,lb U [gt a 0,iv 1] [],lb U [b,g] [],bo h,km,km,lb U [b,gt a 0] [],bo j,lb U [b,gt a 0] [],lb I [l,i] [],lb U [b,f] [],lb I [m,k] []] [(2,15),(3,15),(4,15)] (aO .sub (gt a 0) (iv 1) λd=>n [d] c/\e [d] c<e a o)
def aj9 e b c k f g i j h l m n a:=ao 1 a e b λd=>sV (aK 1 a d c)<|aj8 k e f g i j h b d c l m n
def CS A d k(y:aG)(l:bu) C z B b a:=Rg->aO .gtr (gt b 0) A λc=>fm c d λD=>fm c (gt b 0) λm=>az c (ao 1 a D m) λn=>az c (aM a n) λo=>fm c d λp=>fm c (gt b 0) λq=>az c (aO .sub q<|iv 1) λr=>az c (ao 1 a p r) λs=>az c (aM a s) λt=>az c (fV BN a [o,t]) λu=>aD c u (bv I) λv=>ah v (aO .sub (gt b 0) (iv 1) λw=>aO .sub (gt b 0) (iv 1) λe=>ao 1 a d e λf=>aM a f λg=>ao 1 a d (gt b 0) λh=>aM a h λx=>ao 1 a d (gt b 0) λi=>sV (aK 1 a i g)<|aj9 d w x b e f h i g z B a) (aV (gt k 0) (iv 1) λj=>y [j] a/\l [j] a<l k C)
def aka f e d R c g a b:=Rg->aU (gt a 0) f λt4=>ah t4 (lV [gt a 0] b<|CS e d a c g b)<|fe R b []
def JT b a c s0 R:=aV a (iv 1) λt1=>lV [t1] s0<|aka c a b R
def aJR{a b c:AV}{s0:ae}{R:be}(h:JT a b c s0 R):EB 258 [a,b,c] s0 R:=zB avb wR Tryz.func258 h
def aME{a b c:AV}{s0:ae}{R:be}(d:L s0=4096)(h:JT a b c s0 R):EB 258 [a,b,c] s0 R:=by refine aJR ?_;exact h
def aj6 t1 g h R(f:aG)(d:bu) a b:=Rg->aU (gt a 0) t1 λt4=>ah t4 (ao 1 b g (gt a 0) λi=>aM b i λj=>cF h [j] b 16 λk c=>ah k (fe R c [gt a 0])<|aV (gt a 0) (iv 1) λe=>f [e] c/\d [e] c<d a b)<|fe R b [iv<|-1]
def JQ a b s0 R:=aJ s0 a λt1=>lV [iv 0] s0<|aj6 t1 a b R
def aJP{a b:AV}{s0:ae}{R:be}(h:JQ a b s0 R):EB 230 [a,b] s0 R:=zB au9 wR Tryz.func230 h
def aMB{a b:AV}{s0:ae}{R:be}(c:L s0=4096)(h:JQ a b s0 R):EB 230 [a,b] s0 R:=by refine aJP ?_;exact h
def Ij a b s0 R:=aM s0 b λt1=>bf a t1 λc=>fe R s0 [c]
def aJo{a b:AV}{s0:ae}{R:be}(h:Ij a b s0 R):EB 188 [a,b] s0 R:=zB at1 wR Tryz.func188 h
def aK2{a b:AV}{s0:ae}{R:be}(c:L s0=4096)(h:Ij a b s0 R):EB 188 [a,b] s0 R:=by refine aJo ?_;exact h
def atF:=bi 13 [(4,([7,13],[1,2,3,11,12])),(7,([7],[1,2,3,11,12,13])),(10,([],[7]))]
def Iv c(f:aG)(e:bu) g d a:=Rg->aV (gt c 1) (iv 1) λb=>f [gt d 0,b] a/\e [gt d 0,b] a<e c g
def abC e o d p(f:aG) b:=aw 3 b e λg=>fV BV b [g,o] λa=>fm a (gt d 0) λh=>az a (aU h<|iv 0) λi=>fm a i λc=>bX c (gt d 1) λj=>bX c p λk=>aC c (bf j k) λl=>az a (aD c (bv U) l) λm=>aD a m (bv I) λn=>ah n (f [gt d 1] b)<|f [gt d 0] b
def abE c t4 b h i g:=ao 3 c t4 (gt b 1) λe=>aw 3 c e λf=>eV (bs 85 aQ2 c 9) λa d=>sV (aK 3 d a f)<|abC a h b i g
def Iu R b(c:eQ) a:=Rg->fe R a [gt b 0]
def abD c a e(b:aG):=aO .geq (gt c 0) (iv 0) λf=>ah f (ab 3 a e λg=>ao 3 a g (gt c 0) λh=>aB 0 a h λi=>sV (aK 1 a i<|iv 4) λd=>b [] d)<|b [] a
def abF h t4 e f R c d g a b:=Rg->aU (gt a 1) h λi=>ah i (jV 7 (Iv a d g b)<|abE b t4 a e f)<|jV 10 (Iu R a)<|abD a b c
def Ir a c d b R:=ab 3 b a λt4=>aJ b t4 λe=>lV [iv<|-1,iv 0] b<|abF e t4 c d R a
def aJq{a b c:AV}{s0:ae}{R:be}(h:eV (qm 36 4 s0 3 a) λd e=>Ir d b c e R):EB 189 [a,b,c] s0 R:=zB atF wR Tryz.func189 h
def aK7{d:List AV}{e f:AV}{s0:ae}{R:be}(j:L s0=4096)(l0:L d=4)(h:∀(b:ae) (c:Nat),Kp s0 b->(∀k,k≠3->aZ b k=aZ s0 k)->(∀x,box s0 (3,c)≠V x)->box b (3,c)=V ⟨36,4,U,U,[d]⟩->Ir (.p (3,c) 0 0) e f b R):EB 189 [.a d,e,f] s0 R:=by refine aJq ?_;refine iN rfl l0 (by decide) (by decide) j λb c m g0 n g=>?_;exact h b c m (λk i=>g0 k i) (λx l=>n x<|(Kp.refl _).keep _ _ l) g
def atG:=bi 12 [(4,([5,11],[1,2,9,10])),(7,([5],[1,2,9,10,11]))]
def It c(f:aG)(e:bu) g d a:=Rg->aV (gt c 1) (iv 1) λb=>f [gt d 0,b] a/\e [gt d 0,b] a<e c g
def abz c m f b(d:aG) a:=aw 3 a c λg=>fV BV a [g,m] λh=>ah h (ab 3 a f λi=>ao 3 a i (gt b 1) λj=>aB 0 a j λk=>sV (aK 1 a k<|iv 4) λe=>aV (gt b 0) (iv 1) λl=>d [l] e)<|d [gt b 0] a
def abA c t4 b i e h:=ao 3 c t4 (gt b 1) λf=>aw 3 c f λg=>eV (bs 85 aQ2 c 7) λa d=>sV (aK 3 d a g)<|abz a i e b h
def abB g t4 e c R d f a b:=Rg->aU (gt a 1) g λh=>ah h (jV 7 (It a d f b)<|abA b t4 a e c)<|fe R b [gt a 0]
def Is a c b R:=ab 3 b a λt4=>aJ b t4 λd=>lV [iv 0,iv 0] b<|abB d t4 c a R
def aJr{a b:AV}{s0:ae}{R:be}(h:eV (qm 36 4 s0 2 a) λc d=>Is c b d R):EB 190 [a,b] s0 R:=zB atG wR Tryz.func190 h
def aK8{d:List AV}{e:AV}{s0:ae}{R:be}(i:L s0=4096)(l0:L d=4)(h:∀(b:ae) (c:Nat),Kp s0 b->(∀k,k≠2->aZ b k=aZ s0 k)->(∀x,box s0 (2,c)≠V x)->box b (2,c)=V ⟨36,4,U,U,[d]⟩->Is (.p (2,c) 0 0) e b R):EB 190 [.a d,e] s0 R:=by refine aJr ?_;refine iN rfl l0 (by decide) (by decide) i λb c l g0 m f=>?_;exact h b c l (λk g=>g0 k g) (λx j=>m x<|(Kp.refl _).keep _ _ j) f
theorem axp(n c:Nat)(w:World)(R:Ending->World->Prop)(a:R (.returned<|.slice J 0 0) w):Calls aS 133 #[.slice J n c] w R:=by have b:=λ(W:World)=>run_eql_slice_nil (P:=aS) W 38 3 J n c (by kernel_rfl);go_enter Tryz.func133,Tryz.ntmps133;go_wp2;exact a
theorem axt(A:Addr)(n c:Nat)(w:World)(R:Ending->World->Prop)(b:(nU Tryz.f133).wp aS (bodyPost aS Tryz.f133 R) {tmps:=#[.slice (V A) n c,undef, .slice J 0 0, .slice (V A) n c, .bool I,undef,undef,undef],defers:=[]} w):Calls aS 133 #[.slice (V A) n c] w R:=by have d:=λ(W:World)=>run_eql_slice_nil (P:=aS) W 38 3 (V A) n c (by kernel_rfl);go_enter Tryz.func133,Tryz.ntmps133;generalize a:(BM 3 _ I).seq ET=T;go_wp2;subst a;exact b
def aCM{aa:List (List AV)}(g:∀r∈aa,L r=1)(q:L aa<1000000):∃r a,bc a 3 1 r aa/\cZ aS GG 133 [.l aa I I] eK r a/\(aa=[]->r= .l [] U U):=by have h:=DX (fn:=133) (f:=Tryz.f133) (an:=[J,J]) Tryz.func133 rfl rfl (by grind [axp]) (by grind [axt]) (by kernel_rfl) (by kernel_rfl) (aa:=aa) (R:=λr a=>bc a 3 1 r aa/\(aa=[]->r= .l [] U U/\a=eK)) (aND (show iV aS GG [] [J,J] (nU Tryz.f133) 0 (tO aS Tryz.f133 λr a=>bc a 3 1 r aa/\(aa=[]->r= .l [] U U/\a=eK)) (gt<|xE<|.l aa I I) eK=(eV (aX bH 0 eK []) λk i=>eV (cj 3 fB 8 i 7 k<|.l aa I I) λt4 j=>fe (λr a=>bc a 3 1 r aa/\(aa=[]->r= .l [] U U/\a=eK)) j [t4]) by kernel_rfl) ?_) (λr a h=>h.2);obtain⟨r,a,b,d⟩:=h;exact⟨r,a,b.1,d,λe=>(b.2 e).1⟩;simp only[nS,bQ];by_cases c:aa=[];subst c;simp only[cj,gL,vw,NA,eV,fe,aoz];grind [bc.nil];refine gD (e:=3) (new:=aa) bc.nil rfl (by decide) (by rw[show L eK=4096 from oA ..];decide) (by simp) g (by grind) λn Y' o m p _=>?_;grind [fe,aoz,absurd]
def Kr{Y:ae}{d:Nat}{K:be}{aa:List (List AV)}{x:AV}(p:dG Y x= .l aa I I)(o:∀r∈aa,L r=1)(n:L aa<1000000)(q:aa.all (λr=>r.all gY)=U)(c:d<L Y)(e:∀a Y',bc Y' 3 1 a aa->Fx Y Y' []->(∀k∈aA a,bK Y k/\k.1=d)->K a Y'):cN 133 [x] Y d K:=by obtain⟨r,i,g,h,_⟩:=aCM o n;have f:[x].map (dG Y)=[.l aa I I]:=(by simp[p]);refine .inl ⟨by rw[f];rfl,by simp[vg,c],r,i,by rw[f];exact h,?_⟩;rcases g with⟨j,rfl⟩|⟨b,rfl,m⟩;exact .inl ⟨rfl,e _ _ (.inl ⟨j,rfl⟩) (Fx.refl _ _) (by simp[aA])⟩;refine .inr ⟨b,_,_,rfl,m,?_,e _ _ (.inr ⟨lA Y d,rfl,iy c⟩) (kH c)<|by simp[aA,lA,bK]⟩;grind [qA]
theorem axo(n c:Nat)(w:World)(R:Ending->World->Prop)(a:R (.returned<|.slice J 0 0) w):Calls aS 132 #[.slice J n c] w R:=by have b:=λ(W:World)=>run_eql_slice_nil (P:=aS) W 33 4 J n c (by kernel_rfl);go_enter Tryz.func132,Tryz.ntmps132;go_wp2;exact a
theorem axs(A:Addr)(n c:Nat)(w:World)(R:Ending->World->Prop)(b:(nU Tryz.f132).wp aS (bodyPost aS Tryz.f132 R) {tmps:=#[.slice (V A) n c,undef, .slice J 0 0, .slice (V A) n c, .bool I,undef,undef,undef],defers:=[]} w):Calls aS 132 #[.slice (V A) n c] w R:=by have d:=λ(W:World)=>run_eql_slice_nil (P:=aS) W 33 4 (V A) n c (by kernel_rfl);go_enter Tryz.func132,Tryz.ntmps132;generalize a:(BM 3 _ I).seq ET=T;go_wp2;subst a;exact b
def aCL{aa:List (List AV)}(g:∀r∈aa,L r=1)(q:L aa<1000000):∃r a,bc a 4 1 r aa/\cZ aS GG 132 [.l aa I I] eK r a/\(aa=[]->r= .l [] U U):=by have h:=DX (fn:=132) (f:=Tryz.f132) (an:=[J,J]) Tryz.func132 rfl rfl (by grind [axo]) (by grind [axs]) (by kernel_rfl) (by kernel_rfl) (aa:=aa) (R:=λr a=>bc a 4 1 r aa/\(aa=[]->r= .l [] U U/\a=eK)) (aND (show iV aS GG [] [J,J] (nU Tryz.f132) 0 (tO aS Tryz.f132 λr a=>bc a 4 1 r aa/\(aa=[]->r= .l [] U U/\a=eK)) (gt<|xE<|.l aa I I) eK=(eV (aX BD 0 eK []) λk i=>eV (cj 4 BE 1 i 7 k<|.l aa I I) λt4 j=>fe (λr a=>bc a 4 1 r aa/\(aa=[]->r= .l [] U U/\a=eK)) j [t4]) by kernel_rfl) ?_) (λr a h=>h.2);obtain⟨r,a,b,d⟩:=h;exact⟨r,a,b.1,d,λe=>(b.2 e).1⟩;simp only[nS,bQ];by_cases c:aa=[];subst c;simp only[cj,gL,vw,NA,eV,fe,aoz];grind [bc.nil];refine gD (e:=4) (new:=aa) bc.nil rfl (by decide) (by rw[show L eK=4096 from oA ..];decide) (by simp) g (by grind) λn Y' o m p _=>?_;grind [fe,aoz,absurd]
def aw2{Y:ae}{d:Nat}{K:be}{aa:List (List AV)}{x:AV}(p:dG Y x= .l aa I I)(o:∀r∈aa,L r=1)(n:L aa<1000000)(q:aa.all (λr=>r.all gY)=U)(c:d<L Y)(e:∀a Y',bc Y' 4 1 a aa->Fx Y Y' []->(∀k∈aA a,bK Y k/\k.1=d)->K a Y'):cN 132 [x] Y d K:=by obtain⟨r,i,g,h,_⟩:=aCL o n;have f:[x].map (dG Y)=[.l aa I I]:=(by simp[p]);refine .inl ⟨by rw[f];rfl,by simp[vg,c],r,i,by rw[f];exact h,?_⟩;rcases g with⟨j,rfl⟩|⟨b,rfl,m⟩;exact .inl ⟨rfl,e _ _ (.inl ⟨j,rfl⟩) (Fx.refl _ _) (by simp[aA])⟩;refine .inr ⟨b,_,_,rfl,m,?_,e _ _ (.inr ⟨lA Y d,rfl,iy c⟩) (kH c)<|by simp[aA,lA,bK]⟩;grind [qA]
theorem axn(n c:Nat)(w:World)(R:Ending->World->Prop)(a:R (.returned<|.slice J 0 0) w):Calls aS 182 #[.slice J n c] w R:=by have b:=λ(W:World)=>run_eql_slice_nil (P:=aS) W 34 85 J n c (by kernel_rfl);go_enter Tryz.func182,Tryz.ntmps182;go_wp2;exact a
theorem axr(A:Addr)(n c:Nat)(w:World)(R:Ending->World->Prop)(b:(nU Tryz.f182).wp aS (bodyPost aS Tryz.f182 R) {tmps:=#[.slice (V A) n c,undef, .slice J 0 0, .slice (V A) n c, .bool I,undef,undef,undef],defers:=[]} w):Calls aS 182 #[.slice (V A) n c] w R:=by have d:=λ(W:World)=>run_eql_slice_nil (P:=aS) W 34 85 (V A) n c (by kernel_rfl);go_enter Tryz.func182,Tryz.ntmps182;generalize a:(BM 3 _ I).seq ET=T;go_wp2;subst a;exact b
def aCK{aa:List (List AV)}(g:∀r∈aa,L r=3)(q:L aa<1000000):∃r a,bc a 85 3 r aa/\cZ aS GG 182 [.l aa I I] eK r a/\(aa=[]->r= .l [] U U):=by have h:=DX (fn:=182) (f:=Tryz.f182) (an:=[J,J]) Tryz.func182 rfl rfl (by grind [axn]) (by grind [axr]) (by kernel_rfl) (by kernel_rfl) (aa:=aa) (R:=λr a=>bc a 85 3 r aa/\(aa=[]->r= .l [] U U/\a=eK)) (aND (show iV aS GG [] [J,J] (nU Tryz.f182) 0 (tO aS Tryz.f182 λr a=>bc a 85 3 r aa/\(aa=[]->r= .l [] U U/\a=eK)) (gt<|xE<|.l aa I I) eK=(eV (aX biW 0 eK []) λk i=>eV (cj 85 aQ2 24 i 7 k<|.l aa I I) λt4 j=>fe (λr a=>bc a 85 3 r aa/\(aa=[]->r= .l [] U U/\a=eK)) j [t4]) by kernel_rfl) ?_) (λr a h=>h.2);obtain⟨r,a,b,d⟩:=h;exact⟨r,a,b.1,d,λe=>(b.2 e).1⟩;simp only[nS,bQ];by_cases c:aa=[];subst c;simp only[cj,gL,vw,NA,eV,fe,aoz];grind [bc.nil];refine gD (e:=85) (new:=aa) bc.nil rfl (by decide) (by rw[show L eK=4096 from oA ..];decide) (by simp) g (by grind) λn Y' o m p _=>?_;grind [fe,aoz,absurd]
def aw1{Y:ae}{d:Nat}{K:be}{aa:List (List AV)}{x:AV}(p:dG Y x= .l aa I I)(o:∀r∈aa,L r=3)(n:L aa<1000000)(q:aa.all (λr=>r.all gY)=U)(c:d<L Y)(e:∀a Y',bc Y' 85 3 a aa->Fx Y Y' []->(∀k∈aA a,bK Y k/\k.1=d)->K a Y'):cN 182 [x] Y d K:=by obtain⟨r,i,g,h,_⟩:=aCK o n;have f:[x].map (dG Y)=[.l aa I I]:=(by simp[p]);refine .inl ⟨by rw[f];rfl,by simp[vg,c],r,i,by rw[f];exact h,?_⟩;rcases g with⟨j,rfl⟩|⟨b,rfl,m⟩;exact .inl ⟨rfl,e _ _ (.inl ⟨j,rfl⟩) (Fx.refl _ _) (by simp[aA])⟩;refine .inr ⟨b,_,_,rfl,m,?_,e _ _ (.inr ⟨lA Y d,rfl,iy c⟩) (kH c)<|by simp[aA,lA,bK]⟩;grind [qA]
theorem axq(n c:Nat)(w:World)(R:Ending->World->Prop)(a:R (.returned<|.slice J 0 0) w):Calls aS 204 #[.slice J n c] w R:=by have b:=λ(W:World)=>run_eql_slice_nil (P:=aS) W 37 2 J n c (by kernel_rfl);go_enter Tryz.func204,Tryz.ntmps204;go_wp2;exact a
theorem axu(A:Addr)(n c:Nat)(w:World)(R:Ending->World->Prop)(b:(nU Tryz.f204).wp aS (bodyPost aS Tryz.f204 R) {tmps:=#[.slice (V A) n c,undef, .slice J 0 0, .slice (V A) n c, .bool I,undef,undef,undef],defers:=[]} w):Calls aS 204 #[.slice (V A) n c] w R:=by have d:=λ(W:World)=>run_eql_slice_nil (P:=aS) W 37 2 (V A) n c (by kernel_rfl);go_enter Tryz.func204,Tryz.ntmps204;generalize a:(BM 3 _ I).seq ET=T;go_wp2;subst a;exact b
def aCN{aa:List (List AV)}(g:∀r∈aa,L r=1)(q:L aa<1000000):∃r a,bc a 2 1 r aa/\cZ aS GG 204 [.l aa I I] eK r a/\(aa=[]->r= .l [] U U):=by have h:=DX (fn:=204) (f:=Tryz.f204) (an:=[J,J]) Tryz.func204 rfl rfl (by grind [axq]) (by grind [axu]) (by kernel_rfl) (by kernel_rfl) (aa:=aa) (R:=λr a=>bc a 2 1 r aa/\(aa=[]->r= .l [] U U/\a=eK)) (aND (show iV aS GG [] [J,J] (nU Tryz.f204) 0 (tO aS Tryz.f204 λr a=>bc a 2 1 r aa/\(aa=[]->r= .l [] U U/\a=eK)) (gt<|xE<|.l aa I I) eK=(eV (aX yW 0 eK []) λk i=>eV (cj 2 EN 8 i 7 k<|.l aa I I) λt4 j=>fe (λr a=>bc a 2 1 r aa/\(aa=[]->r= .l [] U U/\a=eK)) j [t4]) by kernel_rfl) ?_) (λr a h=>h.2);obtain⟨r,a,b,d⟩:=h;exact⟨r,a,b.1,d,λe=>(b.2 e).1⟩;simp only[nS,bQ];by_cases c:aa=[];subst c;simp only[cj,gL,vw,NA,eV,fe,aoz];grind [bc.nil];refine gD (e:=2) (new:=aa) bc.nil rfl (by decide) (by rw[show L eK=4096 from oA ..];decide) (by simp) g (by grind) λn Y' o m p _=>?_;grind [fe,aoz,absurd]
def jC(l:List Int):Prop:=∀i,i+1<L l->gd l i<gd l (i+1)
def AD{l:List Int}(h:jC l):∀{i j:Nat},i<j->j<L l->gd l i<gd l j:=by intro i j c a;induction j with|zero=>omega|succ j e=>have d:=h j a;grind
section
variable{Y:ae}{b:Id}{l:List Int}{n:Nat}{K:o8}
theorem mx{e:TypeId}{i:Int}{o v:Bool}{aa:List (List AV)}(d:box Y b=V ⟨e,1,o,v,aa⟩)(h:aF n i):rV (cz 1 Y (.m b n)<|iv i) K=K (.p b i.toNat 0):=by have a:0<=i:=h.1;have c:i.toNat<n:=(by have:=h.1;have:=h.2;omega);grind [cz,rV]
theorem ml{e:TypeId}{o v:Bool}{k:Nat}(a:box Y b=V ⟨e,1,o,v,l.map ci⟩)(c:k<L l):lS J Y (.p b k 0)=V (iv<|gd l k):=by grind [lS,iE,aN,bT]
end
theorem aIh{l:List Int}{k:Nat}{x:Int}:(l.map ci).set k ((ci<|gd l k).set 0<|iv x)=(l.set k x).map ci:=by simp
def Qo{Y:ae}{b:Id}{l:List Int}{k:Nat}{x:Int}{K:ae->Prop}(c:box Y b=V ⟨3,1,U,I,l.map ci⟩)(d:k<L l)(a:∀Y',Fx Y Y' [b]->box Y' b=V ⟨3,1,U,I,(l.set k x).map ci⟩->K Y'):sV (aK 1 Y (.p b k 0)<|iv x) K:=by have e:(l.map ci)[k]?=V (ci<|gd l k):=(by grind [eC,bT]);grind [wL,aIh]
def Dt{a b:List Int}{k:Nat}(h:k<L a):gd (a++b) k=gd a k:=by grind [bT,List.getElem_append_left]
def aBD{a:List Int}{j k:Nat}(h:k<j)(c:k<L a):gd (a.take j) k=gd a k:=by grind [bT]
def aBB{a d:List Int}{t:Int}:gd (a++t::d) (L a)=t:=by grind [bT]
def aIA{r:List Int}{t:Int}{j:Nat}(c:0<j)(g:j<=L r):((r.take j++t::r.drop j).set j<|gd r<|j-1).set (j-1) t=r.take (j-1)++t::r.drop (j-1):=by obtain⟨i,rfl⟩:∃i,j=i+1:=⟨j-1,by omega⟩;have a:i<L r:=(by omega);have d:r.take (i+1)=r.take i++[gd r i]:=(by rw[iJ a,bT a]);have e:r.drop i=gd r i::r.drop (i+1):=(by rw[List.drop_eq_getElem_cons a,bT a]);have f:L (r.take i)=i:=(by simp;omega);simp_all
def aCw{Y:ae}{b:Id}{r:List Int}{t:Int}(q:jC r)(ht:t∉r)(hn:L r<12)(M:box Y b=V ⟨3,1,U,I,(r++[t]).map ci⟩)(hl:L Y=4096):∃y f,(y= .t []/\box f b=V ⟨3,1,U,I,(fk r t).map ci⟩/\Fx Y f [b])/\cZ aS GG 258 [.m b<|L r+1,iv 0,iv ((L r+1:Nat):Int)] Y y f:=by refine aME hl ?_;simp only[JT,cS,aY,↓uL];rw[show dq.wrap (0+1)=((1:Nat):Int) from rfl];refine AI (α:=Unit) (λ_ i=>[iv i]) 0 (L r+1) 1 (by omega) (λi _ Y'=>1<=i/\box Y' b=V ⟨3,1,U,I,(if i<L r+1 then r++[t] else fk r t).map ci⟩/\Fx Y Y' [b]) (s0:=()) ⟨by omega,?_,Fx.refl _ _⟩ ?_;split;exact M;have:r=[]:=(by simp_all);subst this;exact M;rintro i _ f hi ⟨ad,p,F1⟩;simp only[aka,aI,au,u0,u1,↓uL];refine⟨λh=>?_,λh=>?_⟩;have x:=aL h;rw[d7 x] at p;have e:∀{k:Nat},k<L r+1->k<L (r++[t]):=λh=>(by simp;omega);have nx:∀g,box g b=V ⟨3,1,U,I,(if i+1<L r+1 then r++[t] else fk r t).map ci⟩->Fx Y g [b]->yI (λ(_:Unit) i=>[iv i]) (L r+1) (λi _ Y'=>1<=i/\box Y' b=V ⟨3,1,U,I,(if i<L r+1 then r++[t] else fk r t).map ci⟩/\Fx Y Y' [b]) [iv<|dq.wrap<|(i:Int)+1] g/\gM 0 (L r+1) [iv<|dq.wrap<|(i:Int)+1] g<gM 0 (L r+1) [iv i] f:=λg N z=>yU x ⟨by omega,N,z⟩;have R:Q ((0:Int)<(i:Int))=U:=(by simp;omega);have C:∀j:Nat,0<j->j<100->dq.wrap ((j:Int)-1)=((j-1:Nat):Int):=(by grind [eM]);rcases jj i (L r) with u|u;refine⟨λvs Y'=>vs=[iv i]/\Y'=f,λ_ _=>0,⟨rfl,rfl⟩,?_⟩;rintro vs Y' ⟨rfl,rfl⟩;have T:Q (gd (r++[t]) i<gd (r++[t]) (i-1))=I:=(by rw[Dt u,Dt<|by omega];have:=AD q (show i-1<i by omega) u;simp;omega);simp only[CS,aI,au,u0,u1,R,jA,qE,C i (by omega) (by omega),mx p<|dJ<|show i<L r+1 by omega,mx p<|dJ<|show i-1<L r+1 by omega,bh,ml p<|e<|show i<L r+1 by omega,ml p<|e<|show i-1<L r+1 by omega,ar,ut,T,uO,vb,eE,vm,NR,bR,AL,↓uL];simp_all;obtain rfl:i=L r:=(by omega);refine⟨λvs Y'=>∃j:Nat,j<=L r/\vs=[iv j]/\box Y' b=V ⟨3,1,U,I,(r.take j++t::r.drop j).map ci⟩/\(∀k,j<=k->k<L r->t<gd r k)/\Fx Y Y' [b],λvs _=>match gt vs 0 with| .s (.int _ i)=>i.toNat|_=>0,(by grind),?_⟩;rintro vs Y' ⟨j,S,rfl,o,Z,D⟩;have w:L (r.take j++t::r.drop j)=L r+1:=(by simp;omega);have G:(∀k,k<j->gd r k<t)->box Y' b=V ⟨3,1,U,I,(if L r+1<L r+1 then r++[t] else fk r t).map ci⟩:=λA=>(by rw[bA (by omega),o];congr 3;rw[QJ r t j S A (by grind),bA];grind);rcases oD j with rfl|v;simp only[CS,aI,au,u0,u1,Int.lt_irrefl,Int.ofNat_eq_natCast,Int.natCast_zero,aNK,jN,Bc,eE,vm,NR,bR,↓uL];simp_all;have B:Q ((0:Int)<(j:Int))=U:=(by simp;omega);have O:gd (r.take j++t::r.drop j) j=t:=(by have:=aBB (a:=r.take j) (d:=r.drop j) (t:=t);simp_all);have P:gd (r.take j++t::r.drop j) (j-1)=gd r (j-1):=(by rw[Dt (by simp;omega),aBD (by omega)<|by omega]);simp only[CS,aI,au,u0,u1,B,jA,qE,C j v (by omega),mx o<|dJ<|show j<L r+1 by omega,mx o<|dJ<|show j-1<L r+1 by omega,bh,ml o (show j<_ by rw[w];omega),ml o (show j-1<_ by rw[w];omega),ar,ut,O,P,uO,vb,NR,bR,AL,↓uL];refine⟨λc=>?_,λc=>?_⟩;have ab:=u4 c;refine Qo o (by omega) λg z E=>?_;simp only[aj9,mx E<|dJ<|show j-1<L r+1 by omega,bh,↓uL];refine Qo E (by simp;omega) λY3 W F=>?_;simp only[aj8,↓uL];refine dT rfl ?_;simp only[au,u0,u1,C j v (by omega),↓uL];rw[aIA v S] at F;refine⟨⟨j-1,by omega,rfl,F,λk X h2=>?_,(D.trans<|z.trans W).mono<|by simp⟩,by omega⟩;grind;have af:=aYF c;refine nx _ (G λk hk=>?_) D;have X:gd r (j-1)<t:=(by grind [gd,dB]);rcases jj k (j-1) with H|H;have:=AD q H (by omega);omega;grind;grind [Nat.le_antisymm,bw,fe,aoz]
def aCq{Y:ae}{b:Id}{l:List Int}(f:jC l)(c:box Y b=V ⟨3,1,U,I,l.map ci⟩)(o:L Y=4096)(s:L l<1000):∃e g,(e= .m b (L l)/\g=Y)/\cZ aS GG 186 [.m b<|L l] Y e g:=by refine aMy o ?_;have d:fS Y (.m b<|L l)=V (iv<|L l):=(by simp[fS,c]);simp only[JN,d,u0,u1,↓uL];refine⟨λh=>by simp[fe,aoz],λh=>?_⟩;rw[show(1:Int)=((1:Nat):Int) from rfl];refine AI (α:=Unit) (λ_ i=>[iv i]) 0 (L l) 1 (by grind) (λi _ Y'=>1<=i/\Y'=Y) (s0:=()) ⟨by omega,rfl⟩ ?_;rintro i _ Y' r ⟨q,rfl⟩;simp only[aj0,aI,au,d,u0,u1,↓uL];refine⟨λj=>?_,λj=>by simp[fe,aoz]⟩;have a:=aL j;have p:dq.wrap ((i:Int)-1)=((i-1:Nat):Int):=(by grind [eM]);have k:Q (gd l i=gd l (i-1))=I:=(by have:=AD f (show i-1<i by omega) a;simp;omega);simp only[mx c<|dJ a,bh,ml c a,u0,u1,p,mx c<|dJ<|show i-1<L l by omega,ml c (show i-1<L l by omega),k,eE,vm,NR,bR,↓uL];exact yU a ⟨by omega,rfl⟩
def alB{Y:ae}{d:Nat}{K:be}{b:Id}{t x:Int}{e:TypeId}(c:box Y b=V ⟨e,1,U,U,[[iv t]]⟩)(g:L Y=4096)(a:K (bv<|Q<|x=t) Y):cF (.f 188 [] [.p b 0 0]) [iv x] Y d K:=by simp only[cF,rn];rw[bA (show¬GG.nw 188=U by decide),d7<|show GG.imp 188=U by decide];refine(aS2 rfl (aK2 g ?_) a:cB 188 [iv x, .p b 0 0] Y d K);simp only[Ij,u0,u1,c,iF,fe,aoz,ip,↓uL];grind [Fx.refl]
def aCv{Y:ae}{b c:Id}{l:List Int}{t:Int}{e:TypeId}(g:box Y b=V ⟨3,1,U,I,l.map ci⟩)(r:box Y c=V ⟨e,1,U,U,[[iv t]]⟩)(o:L Y=4096)(w:L l<1000):∃d i,(d=iv (oW l t)/\Fx Y i [])/\cZ aS GG 230 [.m b<|L l, .f 188 [] [.p c 0 0]] Y d i:=by refine aMB o ?_;have q:fS Y (.m b<|L l)=V (iv<|L l):=(by simp[fS,g]);simp only[JQ,q,u0,u1,↓uL];refine yV (L l) (λk _ Y'=>Y'=Y/\∀j,j<k->gd l j≠t) ⟨rfl,by simp⟩ ?_;rintro k _ Y' v ⟨rfl,u⟩;simp only[aj6,aI,au,u0,u1,↓uL];refine⟨λh=>?_,λh=>?_⟩;have a:=aL h;simp only[mx g<|dJ a,bh,ml g a,aY,↓uL];refine alB r o ?_;simp only[u0,u1,↓uL];refine⟨λs=>?_,λs=>yU a<|by grind⟩;grind [fe,aoz,anR,Fx.refl];grind [fe,aoz,anS,C3,bw,Fx.refl]
def gH(s:aW)(nt lD:Int)(k:Nat):Int:=if eh s nt k=[] then-1 else if lD∈eh s nt k then lD else gd (eh s nt k) 0
theorem AN{s:aW}{nt x:Int}{k:Nat}:x∈eh s nt k↔∃i:Nat,i<k/\pe s nt i=U/\x=i:=by grind [eh]
theorem Li{s:aW}{nt:Int}{k:Nat}(h:eh s nt k≠[]):0<=gd (eh s nt k) 0/\gd (eh s nt k) 0<k:=by grind [dB,eh,aqS,AN]
def axd{s:aW}{nt lD:Int}{k:Nat}(h:0<=gH s nt lD k):gH s nt lD k<k/\eh s nt k≠[]:=by grind [gH,AN,Li]
def axe{s:aW}{nt lD:Int}{k:Nat}:gH s nt lD (k+1)=if(pe s nt k&&(Q (gH s nt lD k<0)||Q ((k:Int)=lD)))=U then(k:Int) else gH s nt lD k:=by have d:=vc s nt k;cases j:pe s nt k with|false=>grind [eE,gH]|true=>rw[j,d7 rfl] at d;simp only[iw];by_cases c:eh s nt k=[];have f:gH s nt lD k= -1:=(by grind [gH]);rw[f,d7 (by simp),gH,d,c];simp only[dW,List.cons_ne_nil,aPZ,cE];split;omega;rfl;have m:¬gH s nt lD k<0:=(by rw[gH,bA c];split;grind [AN];simp_all [Li]);rw[show Q (gH s nt lD k<0)=I by grind,lG];rw[gH,d,bA<|by simp];by_cases i:(k:Int)=lD;simp_all;rw[bA (show¬Q ((k:Int)=lD)=U by simpa using i),gH,bA c];have e:lD∈eh s nt k++[(k:Int)]↔lD∈eh s nt k:=(by grind);have g:gd (eh s nt k++[(k:Int)]) 0=gd (eh s nt k) 0:=Dt<|aqS.2 c;by_cases a:lD∈eh s nt k;rw[d7<|e.2 a,d7 a];rw[bA<|λh=>a<|e.1 h,bA a,g]
def giT{Y:ae}{a:AV}{l:List kw}{k:Nat}{K:o8}(d:bc Y 85 3 a<|l.map kw.c)(g:k<L l):(rV (cz 3 Y a<|iv k) λt=>rV (lS (V 3) Y t) K)=K (.a (gd l k).c):=by rcases d with⟨e,_⟩|⟨b,rfl,f⟩;simp_all;simp_all [cz,rV,lS,iE,aN,bT,kw.c]
def DB{Y:ae}{a:AV}{l:List kw}{i:Int}{j:Nat}{x:Value}{K:AV->be}(r:bc Y 85 3 a<|l.map kw.c)(e:aF (L l) i)(y:j<3)(g:kw)(v:(gd l i.toNat).c.set j (.s x)=g.c)(t:∀b Y',aA a=[b]->Fx Y Y' (aA a)->bc Y' 85 3 a ((l.set i.toNat g).map kw.c)->K (.p b i.toNat 0) (.p b i.toNat j) Y'):rV (cz 3 Y a<|iv i) λp=>rV (iQ j Y p) λq=>sV (aK 1 Y q<|.s x) (K p q):=by have o:i.toNat<L l:=(by have:=e.1;have:=e.2;omega);rcases r with⟨w,_⟩|⟨b,rfl,d⟩;simp_all;have f:cz 3 Y (.m b<|L<|l.map kw.c) (iv i)=V (.p b i.toNat 0):=(by simp[cz,e.1,d,o]);rw[f];simp only[rV,rR,d,df,aj];have u:(l.map kw.c)[i.toNat]?=V (gd l i.toNat).c:=(by grind [eC,bT]);refine wL d u (by grind [kw.c]) λY' h k=>t b Y' rfl h ?_;rw[v] at k;refine .inr ⟨b,by simp,?_⟩;simp_all
def aCD(s:aW)(nt lD:Int){W x2 f:AV}{Y:ae}(B:L Y=4096)(hn:L s.ay<1000)(R:bc Y 85 3 f<|s.ay.map kw.c):∃r d,(r=iv (gH s nt lD<|L s.ay)/\bc d 85 3 f ((if 0<=gH s nt lD (L s.ay) then s.ay.set (gH s nt lD<|L s.ay).toNat {gd s.ay (gH s nt lD<|L s.ay).toNat with cQ:=4} else s.ay).map kw.c)/\Fx Y d (aA f))/\cZ aS GG 189 [.a [W,iv s.tx,x2,f],iv nt,iv lD] Y r d:=by refine aK7 B rfl λq v3 K2 aa nf v=>?_;have u:=K2.fx [];have x:=R.fx u (by simp);have D:L q=4096:=K2.len.trans B;simp only[Ir,u0,u1,v,aj,iF,nM,ip,lnI x,bJ,↓uL];refine jD (α:=Int) (λa i=>[iv a,iv i]) 1 (L s.ay) (λk a Y'=>a=gH s nt lD k/\Fx q Y' []) (s0:= -1) ⟨by simp[gH,eh],Fx.refl _ _⟩ ?_;rintro k _ d hk ⟨rfl,e⟩;have y:=x.fx e (by simp);have C:L d=4096:=e.len.trans D;have O:=e.kq v;simp only[abF,aI,au,ck,u0,u1,di,↓uL];refine⟨λh=>?_,λh=>?_⟩;have j:=aL h;simp only[abE,au,ck,giT y j,↓uL];refine so C λT Y2 H N2 P=>?_;refine cy (cs:=kw.c<|gd s.ay k) P rfl rfl (by decide) λm M w=>?_;have o:box m (9,T)=V ⟨85,3,U,U,[kw.c<|gd s.ay k]⟩:=w;have t:Fx d m []:=(H.trans M).mono (by grind [bK.no]);have F:∀a:Int,a=gH s nt lD (k+1)->Iv [iv<|gH s nt lD k,iv k] (yI (λa i=>[iv a,iv i]) (L s.ay) λk a Y'=>a=gH s nt lD k/\Fx q Y' []) (gM 1<|L s.ay) d [iv a] m:=(by rintro a rfl;simp only[Iv,aI,au,ck,u0,u1,↓uL];exact dR (mk:=λa i=>[iv a,iv i]) (p:=1) (s:=gH s nt lD k) (s':=gH s nt lD<|k+1) (λ_ _=>rfl) j (by omega) ⟨rfl,e.trans t⟩);have X:=axe (s:=s) (nt:=nt) (lD:=lD) (k:=k);have E:(Q ((gd s.ay k).cQ=3)&&Q ((gd s.ay k).cond=nt))=pe s nt k:=rfl;simp+contextual only[abC,u0,u1,o,rk,ar,ut,aj,au,ck,E,↓uL];refine⟨λS=>F _ ?_,λS=>F _ ?_⟩;simp_all;simp_all;obtain rfl:k=L s.ay:=(by grind);have N:Fx Y d []:=(u.trans e).mono (by simp);simp only[abD,au,ck,u0,u1,↓uL];refine⟨λA=>?_,λA=>?_⟩;have g:=u4 A;have z:=(axd g).1;simp only[O,u0,u1,aj,iF,nM,ip,↓uL];refine DB y ⟨g,z⟩ (by decide) {gd s.ay (gH s nt lD<|L s.ay).toNat with cQ:=4} rfl λb Y' Z G g'=>?_;simp only[Iu,aI,au,fe,aoz,↓uL];refine⟨trivial,?_,(N.trans G).mono<|by simp_all⟩;simp_all;simp only[Iu,aI,au,fe,aoz,↓uL];grind [Fx.mono]
abbrev mH(s:aW)(l:List Int):aW:=l.foldl (λs u=>ni s u {fA s u with cQ:=4}) s
def anr:∀(l:List Int) (s:aW),L (mH s l).ay=L s.ay
 |[],s=>rfl
 |u::l,s=>by
  show L (mH (ni s u _) l).ay=_
  rw[anr l];simp[ni]
theorem anq:∀(l:List Int) (s:aW) (k:Nat),(∀u∈l,u.toNat≠k)->gd (mH s l).ay k=gd s.ay k
 |[],s,k,_=>rfl
 |u::l,s,k,h=>by
  show gd (mH (ni s u _) l).ay k=_
  rw[anq l _ k<|by simp_all]
  grind [ni,gd]
def aD2(s:aW)(l:List Int)(u:Int):mH s (l++[u])=ni (mH s l) u {fA (mH s l) u with cQ:=4}:=by simp[mH]
def aCE(s:aW)(nt:Int){x1 x2 d:AV}{Y:ae}(F:L Y=4096)(hn:L s.ay<1000)(v:bc Y 85 3 d<|s.ay.map kw.c):∃r f,(r=iv (L<|fO s nt)/\bc f 85 3 d ((mH s<|fO s nt).ay.map kw.c)/\Fx Y f (aA d))/\cZ aS GG 190 [.a [x1,iv s.tx,x2,d],iv nt] Y r f:=by refine aK8 F rfl λO v3 K2 ah nf q=>?_;have z:=K2.fx [];have C:=v.fx z (by simp);have H:L O=4096:=K2.len.trans F;have y:∀{P:ae} {l:List kw} {w:Id} {x:bY},bc P 85 3 d (l.map kw.c)->box P w=V x->x.var=U->w∉aA d:=λv hw hx hm=>(by rcases v with⟨_,rfl⟩|⟨b,rfl,o⟩;simp[aA] at hm;grind [aA,cE]);simp only[Is,u0,u1,q,aj,iF,nM,ip,lnI C,bJ,↓uL];refine jD (α:=Int) (λa i=>[iv a,iv i]) 1 (L s.ay) (λk a Y'=>a=(L (eh s nt k):Int)/\bc Y' 85 3 d ((mH s<|eh s nt k).ay.map kw.c)/\Fx O Y' (aA d)) (s0:=0) (by grind [eh,Fx.refl]) ?_;rintro k _ f hk ⟨rfl,u,g⟩;have G:L f=4096:=g.len.trans H;have W:=g.keep _ _ (y C q rfl) q;have M:=anr (eh s nt k) s;have ag:=wU s nt k;simp only[abB,aI,au,ck,u0,u1,di,↓uL];refine⟨λh=>?_,λh=>?_⟩;have j:=aL h;have E:gd (mH s<|eh s nt k).ay k=gd s.ay k:=(by grind [anq,AN]);simp only[abA,au,ck,giT u (by rw[M];exact j),E,↓uL];refine so G λv9 Y2 S N2 Z=>?_;refine cy (cs:=kw.c<|gd s.ay k) Z rfl rfl (by decide) λA T B=>?_;have t:box A (7,v9)=V ⟨85,3,U,U,[kw.c<|gd s.ay k]⟩:=B;have e:Fx f A []:=(S.trans T).mono (by grind [bK.no]);have D:=u.fx e (by simp);have X:=e.kq W;have m:=vc s nt k;have N:(Q ((gd s.ay k).cQ=3)&&Q ((gd s.ay k).cond=nt))=pe s nt k:=rfl;simp+contextual only[abz,u0,u1,t,rk,ar,ut,aj,au,ck,N,↓uL];refine⟨λo=>?_,λo=>?_⟩;rw[o,d7 rfl] at m;simp only[X,u0,u1,aj,iF,nM,ip,↓uL];refine DB D (by grind [dJ]) (by decide) {fA (mH s<|eh s nt k) k with cQ:=4} rfl λb Y' af R g'=>?_;simp only[It,aI,au,ck,u0,u1,↓uL];refine dR (mk:=λa i=>[iv a,iv i]) (p:=1) (s:=(L (eh s nt k):Int)) (s':=dq.wrap<|(L (eh s nt k):Int)+1) (λ_ _=>rfl) j (by omega) ?_;refine⟨?_,?_,(g.trans<|e.trans R).mono<|by simp_all⟩;grind [fX];rw[m,aD2];exact g';rw[o] at m;simp only[eE,aPZ,cL] at m;simp only[It,aI,au,ck,u0,u1,↓uL];refine dR (mk:=λa i=>[iv a,iv i]) (p:=1) (s:=(L (eh s nt k):Int)) (s':=(L (eh s nt k):Int)) (λ_ _=>rfl) j (by omega) ?_;rw[m];exact⟨rfl,D,(g.trans e).mono<|by simp_all⟩;obtain rfl:k=L s.ay:=(by grind);simp only[fe,aoz];exact⟨rfl,u,(z.trans g).mono<|by simp_all⟩
def apl:dO:=apn
def yR:eJ apl:=wR
def aBn:=@ut
def atE:=bi 13 [(4,([13],[1,2,3,11,12]))]
def abo b i k l j m p a o n(g:aG)(c:bu) h d:=dH [km,km,bo b,bo i,bo b,bo k,lb I [.f 133 [] [],l] [24],lb U [j,m] [],lb U [p,gt a 0] [],lb I [o,n] []] [(0,6),(1,6),(2,6),(3,6)] (aV (gt a 0) (iv 1) λe=>g [e] d/\c [e] d<c a h)
def abq c n a g k l m h i j d b:=rV (bM aPz C2 [(0,c),(1,d)]) λe=>ao 2 b n (gt a 0) λf=>sV (aK 2 b f e)<|abo g k l m c d n a f e h i j
def abr b k f g h i a:=aB 0 a b λc=>aM a c λj=>aB 1 a b λd=>aM a d λe=>cN 133 [e] a 24<|abq j k f b c d e g h i
def abs c t3 R a:=aw 4 a c λd=>sV (aK 4 a t3 d) λb=>aw 4 b t3 λe=>fe R b [e]
def abt b t3 R c a:=aB 3 a b λd=>sV (aK 1 a d c)<|abs b t3 R
def abu b t3 R a:=ab 3 a b λc=>cN 182 [c] a 36<|abt b t3 R
def abv b t3 R c a:=aB 2 a b λd=>sV (aK 1 a d c)<|abu b t3 R
def abw b t3 R a:=ab 2 a b λc=>cN 132 [c] a 32<|abv b t3 R
def aby i h n d t3 R e f b a:=Rg->aU (gt b 0) i λj=>ah j (ao 2 a h (gt b 0) λk=>aw 2 a k λl=>eV (bs 186 aPz a 5) λc g=>sV (aK 2 g c l)<|abr c n b e f a) (aB 0 a d λm=>sV (aK 1 a m n)<|abw d t3 R)
def abx a t3 R e c:=ab 0 c a λb=>aJ c b λd=>lV [iv 0] c<|aby d b e a t3 R
def abp a R t3 b:=ab 0 b a λd=>aJ b d λc=>eV (qO 186 bh4 32 b 9 c c)<|abx a t3 R
def Iq a b R:=eV (bs 36 aNC b 2)<|abp a R
def aJp{a:AV}{s0:ae}{R:be}(h:eV (qm 36 4 s0 1 a) λb c=>Iq b c R):EB 184 [a] s0 R:=zB atE yR Tryz.func184 h
def aK6{d:List AV}{s0:ae}{R:be}(g:L s0=4096)(l0:L d=4)(h:∀(b:ae) (c:Nat),Kp s0 b->(∀k,k≠1->aZ b k=aZ s0 k)->(∀x,box s0 (1,c)≠V x)->box b (1,c)=V ⟨36,4,U,U,[d]⟩->Iq (.p (1,c) 0 0) b R):EB 184 [.a d] s0 R:=by refine aJp ?_;refine iN rfl l0 (by decide) (by decide) g λb c j g0 l e=>?_;exact h b c j (λk f=>g0 k f) (λx i=>l x<|(Kp.refl _).keep _ _ i) e
def avc:=bi 34 [(2,([1,2,3,8,9],[0])),(10,([3],[0,1,2,8,9,10])),(14,([11,12],[0,1,2,3,8,9,10])),(18,([],[0,1,2,3,8,9,10,11]))]
def arW g(h:aG) a f d c(m1:bu) i(j:AV) b:=aV g (iv 1) λe=>h [e,gt a 1,gt f 0,d,c] b/\m1 [e,gt a 1,gt f 0,d,c] b<m1 a i
def arX(g:aG) a c f e d(m1:bu) h(i:AV) b:=g [gt a 0,c,gt f 0,e,d] b/\m1 [gt a 0,c,gt f 0,e,d] b<m1 a h
def ar0 a g c f(n:aG) e(m1:bu) t3(E:eQ):=Rg->aO .gtr (gt a 0) (iv 0) λb=>fm b g λo=>fm b (gt a 0) λp=>az b (aO .sub p<|iv 1) λq=>az b (ao 1 c o q) λr=>az b (aM c r) λs=>fm b g λt=>fm b (gt f 0) λu=>az b (ao 1 c t u) λv=>az b (aM c v) λw=>az b (fV BN c [s,w]) λx=>az b (cf x) λy=>aD b y (bv I) λz=>ah z (fV (cX 265) c [g,gt a 0,gt a 1,gt f 0] λh=>n [h,gt a 1,gt e 0,gt a 3,gt a 4] c/\m1 [h,gt a 1,gt e 0,gt a 3,gt a 4] c<m1 a c) (fV (cX 266) c [g,gt a 0,gt a 1,gt f 0] λi=>rV (eO 0 i) λd=>rV (eO 1 i) λj=>aO .sub d (gt a 0) λk=>aO .sub (gt a 1) d λl=>aO .quo t3 (iv 8) λm=>aU k l λA=>ah A (aO .geq k m λB=>cB 228 [g,gt a 0,d,gt e 0] c 121<|arW d n a e B j m1 c)<|aO .geq l m λC=>aV d (iv 1) λD=>cB 228 [g,D,gt a 1,gt e 0] c 132<|arX n a d e C j m1 c)
def ar3 a d e k R(c:cG):=fm (gt a 3) (gt a 4) λf=>aD (gt a 3) f (bv I) λb=>fm b (gt d 1) λg=>az b (bf g<|iv 1) λh=>aD b h (bv I) λi=>ah i (fV (cX 263) e [k,gt a 0,gt a 1] λj=>ah j (fe R e [])<|c [])<|c []
def arZ b c d f e m1 t3 R a:=Rg->jR 18 (ar0 b c d a f e m1 t3) (ar3 b a d c R)
def ar2 d j i a c(b:cG):=bf d (iv 2) λe=>ah e (fV (cX 262) j [i,gt a 0,gt a 1] λk=>aO .sub (gt a 1) (iv 1) λf=>aO .sub c (gt a 0) λg=>aO .sub f g λh=>b [h,iv 1])<|b [c,d]
def arY d c a h m1 t3 R g:=Rg->fV (cX 261) d [c,gt a 0,gt a 1] λb=>rV (eO 0 b) λe=>rV (eO 1 b) λf=>jR 14 (arZ a c d h g m1 t3 R)<|ar2 f d c a e
def a8D a f e(b:cG):=cf (gt a 3) λc=>ah c (fV (cX 260) f [e,gt a 0,gt a 1] λg=>aO .sub (gt a 2) (iv 1) λd=>b [d])<|b [gt a 2]
def akb c R d m1 a b:=Rg->aO .sub (gt a 1) (gt a 0) λt3=>aO .leq t3 (iv 12) λt4=>ah t4 (cB 258 [c,gt a 0,gt a 1] b 27 λg e=>fe R e []) (bf (gt a 2) (iv 0) λf=>ah f (fV (cX 259) b [c,gt a 0,gt a 1] λh=>fe R b [])<|jR 10 (arY b c a d m1 t3 R)<|a8D a b c)
def JU a b c d s0 R:=lV [b,c,d,bv U,bv U] s0<|akb a R
def aJS{a b c d:AV}{s0:ae}{R:be}(h:JU a b c d s0 R):EB 228 [a,b,c,d] s0 R:=zB avc yR Tryz.func228 h
def aMF{a b c d:AV}{s0:ae}{R:be}(e:L s0=4096)(h:JU a b c d s0 R):EB 228 [a,b,c,d] s0 R:=by refine aJS ?_;exact h
def ava:=bi 1 []
def JS a s0 R:=aJ s0 a λt1=>rV (sO (V .u64) t1) λc=>fV Fm s0 [c] λt3=>cB 228 [a,iv 0,t1,t3] s0 10 λt4 b=>fe R b []
def aJQ{a:AV}{s0:ae}{R:be}(h:JS a s0 R):EB 185 [a] s0 R:=zB ava yR Tryz.func185 h
def aMD{a:AV}{s0:ae}{R:be}(b:L s0=4096)(h:JS a s0 R):EB 185 [a] s0 R:=by refine aJQ ?_;exact h
def au7:=bi 16 [(7,([5,6],[0,1])),(10,([5],[0,1,6]))]
def JP c(f:aG)(e:bu) g d a:=Rg->aV (gt c 1) (iv 1) λb=>f [gt d 0,b] a/\e [gt d 0,b] a<e c g
def aj4 d f a m(e:aG):=ao 1 d f (gt a 1) λh=>aM d h λc=>cF m [c] d 28 λi b=>cf i λj=>ah j (ao 1 b f (gt a 0) λk=>sV (aK 1 b k c) λg=>aV (gt a 0) (iv 1) λl=>e [l] g)<|e [gt a 0] b
def aj2 d c R a:=rV (fo 1 a d J (V<|gt c 0) J) λb=>fe R a [b]
def aj5 c f R e g a b:=Rg->aJ b c λh=>aU (gt a 1) h λi=>ah i (jV 10 (JP a e g b)<|aj4 b c a f) (rV (fo 1 b c (V<|gt a 0) J J) λd=>sV (pA (.int .i64 0) b d)<|aj2 c a R)
def aj3 R a c t1 b:=bf t1 (iv<|-1) λt3=>ah t3 (fe R b [a]) (aV t1 (iv 1) λt4=>lV [t1,t4] b<|aj5 a c R)
def JO a b s0 R:=cB 230 [a,b] s0 10<|aj3 R a b
def aJO{a b:AV}{s0:ae}{R:be}(h:JO a b s0 R):EB 187 [a,b] s0 R:=zB au7 yR Tryz.func187 h
def aMA{a b:AV}{s0:ae}{R:be}(c:L s0=4096)(h:JO a b s0 R):EB 187 [a,b] s0 R:=by refine aJO ?_;exact h
def atB:=bi 12 []
def aa7 h d R i f g K a:=bf h (iv 1) λt=>ah t (ab 0 a d λu=>bf u (iv 1) λv=>aE R a [v]) (bf h (iv 17) λw=>ah w (ab 0 a d λx=>bf x (iv 4) λe=>aT e 1 a d λy=>fm e i λz=>az e (bf y z) λA=>aD e A (bv I) λc=>aT c 0 a f λB=>aT c 2 a g λC=>fm c i λD=>az c (ao 2 a C D) λE=>aT c 1 a E λF=>az c (ao 2 a B F) λG=>aT c 0 a G λH=>az c (bf H<|iv<|-1) λj=>aD c j (bv I) λk=>aE R a [k])<|ab 0 a d λl=>bf l (iv 2) λb=>az b (aw 6 a g) λm=>az b (aw 4 a f) λn=>fm b K λo=>fm b h λp=>fm b i λq=>az b (fV Fu a [m,n,o,p,q]) λr=>aD b r (bv I) λs=>aE R a [s])
def In c e g h i a R:=aw 6 a c λy=>aw 4 a e λz=>fV zf a [y,z] λA=>cf A λd=>bX d g λk=>bn d 4 a c λl=>aC d (aJ a l) λm=>aC d (fV ry a [k,m]) λn=>aC d (cf n) λo=>aD d (bv U) o λb=>aC b (aw 6 a c) λp=>bX b h λq=>bX b i λr=>aC b (fV Ft a [p,q,r]) λs=>aC b (cf s) λt=>aD b (bv U) t λu=>ah u (aE R a [bv I]) (ab 3 a e λv=>ao 3 a v g λw=>aw 3 a w λx=>eV (bs 85 aQ2 a 11) λf j=>sV (aK 3 j f x)<|aa7 h f R i e c g)
def aK3{b:List AV}{c:List AV}{d e f:AV}{R:o8}(l0:L b=6)(l1:L c=4)(h:H2 31 6 5 b 36 4 6 c λg i j=>In g i d e f j R):Ct 183 [.a b, .a c,d,e,f] R:=z2 atB yR Tryz.func183 l0 l1 h
def aCG{Y:ae}{b:Id}{r:List Int}{t d:Int}(e:jC r)(k:t∉r)(j:L r<12)(i:box Y b=V ⟨3,1,U,I,(r++[t]).map ci⟩)(f:L Y=4096):∃a c,(a= .t []/\box c b=V ⟨3,1,U,I,(fk r t).map ci⟩/\Fx Y c [b])/\cZ aS GG 228 [.m b<|L r+1,iv 0,iv ((L r+1:Nat):Int),iv d] Y a c:=by refine aMF f ?_;simp only[JU,↓uL];refine⟨λvs Y'=>vs=[iv 0,iv ((L r+1:Nat):Int),iv d,bv U,bv U]/\Y'=Y,λ_ _=>0,⟨rfl,rfl⟩,?_⟩;rintro vs Y' ⟨rfl,rfl⟩;have g:Q (((L r+1:Nat):Int)<=12)=U:=(by simp;omega);simp only[akb,aI,au,ck,u0,u1,Int.sub_zero,eM (x:=((L r+1:Nat):Int)) (by omega) (by omega),g,↓iC,↓uL];refine jH rfl (aCw e k j i f) ?_;rintro a c ⟨rfl,l,h⟩;exact⟨h.len,by grind [fe,aoz]⟩
def aCO{Y:ae}{b:Id}{r:List Int}{t:Int}(d:jC r)(l:t∉r)(j:L r<12)(e:box Y b=V ⟨3,1,U,I,(r++[t]).map ci⟩)(g:L Y=4096):∃a c,(a= .t []/\box c b=V ⟨3,1,U,I,(fk r t).map ci⟩/\Fx Y c [b])/\cZ aS GG 185 [.m b<|L r+1] Y a c:=by refine aMD g ?_;have h:fS Y (.m b<|L r+1)=V (iv ((L r+1:Nat):Int)):=(by simp[fS,e]);have f:sO (V .u64) (iv ((L r+1:Nat):Int))=V (.s<|.int .u64 ((L r+1:Nat):Int)):=(by show V (AV.s<|.int .u64<|IntKind.u64.wrap _)=_;grind [IntKind.wrap_u64]);simp only[JS,h,aY,f,ar,ut,jM,↓uL];refine⟨by omega,?_⟩;rintro k ⟨n,rfl⟩;refine⟨.inl rfl,?_⟩;refine jH rfl (aCG d l j e g) ?_;rintro a c ⟨rfl,o,i⟩;exact⟨i.len,by grind [fe,aoz]⟩
def apJ{l:List Int}{t:Int}{j:Nat}(h:j<L l):fJ (l.take<|j+1) t=fJ (l.take j) t++if gd l j≠t then[gd l j] else[]:=by grind [fJ,iJ,bT]
theorem aE6{l:List Int}{t:Int}(h:t∈l):∃i:Nat,oW l t=i/\i<L l/\gd l i=t/\∀j,j<i->gd l j≠t:=by have a:(l.findIdx? λx=>Q<|x=t).isSome=U:=(by simp_all);grind [Option.isSome_iff_exists,List.findIdx?_eq_some_iff_getElem,oW,bT]
def aCs{Y:ae}{b c:Id}{l:List Int}{t:Int}{e:TypeId}(hm:t∈l)(B:box Y b=V ⟨3,1,U,I,l.map ci⟩)(D:box Y c=V ⟨e,1,U,U,[[iv t]]⟩)(z:L Y=4096)(hn:L l<1000):∃x n,(x= .m b (L<|fJ l t)/\box n b=V ⟨3,1,U,I,(fJ l t++er (L l-L (fJ l t)) 0).map ci⟩/\Fx Y n [b])/\cZ aS GG 187 [.m b<|L l, .f 188 [] [.p c 0 0]] Y x n:=by refine aMA z ?_;have C:c≠b:=(by grind);simp only[JO,↓uL];refine aS2 rfl (aCv B D z hn) ?_;obtain⟨v,hp,N,M,ac⟩:=aE6 hm;rw[hp];have R:Q ((v:Int)= -1)=I:=(by simp);simp only[aj3,u0,u1,R,eE,vm,NR,bR,↓uL];rw[fX<|by omega];have X:fJ (l.take<|v+1) t=l.take v:=(by rw[apJ N,bA (by simp[M]),cL,fJ,List.filter_eq_self];grind [ou,bT]);refine AI (α:=Nat) (λa i=>[iv (a:Int),iv i]) 1 (L l) (v+1) (by omega) (λj a Y'=>∃d:List Int,a=L (fJ (l.take j) t)/\a<j/\L d=L l/\d.take a=fJ (l.take j) t/\d.drop j=l.drop j/\box Y' b=V ⟨3,1,U,I,d.map ci⟩/\Fx Y Y' [b]) (s0:=v) ⟨l,?_,by omega,rfl,?_,rfl,B,Fx.refl _ _⟩ ?_;grind;rw[X];rintro j a n hj ⟨d,A,ak,F,W,K,o,r⟩;have O:L n=4096:=r.len.trans z;have c1:=r.keep _ _ (by simpa using C) D;have P:fS n (.m b<|L l)=V (iv<|L l):=(by simp[fS,o]);simp only[aj5,aI,au,ck,P,u0,u1,↓uL];refine⟨λh=>?_,λh=>?_⟩;have q:=aL h;have H:gd d j=gd l j:=(by have h1:(d.drop j)[0]?=(l.drop j)[0]?:=(by rw[K]);grind [eC,bT]);have w:=apJ (t:=t) q;simp only[di,aj4,au,ck,mx o<|dJ q,bh,ml o (show j<L d by omega),aY,H,↓uL];refine alB c1 O ?_;simp only[u0,u1,↓uL];refine⟨λhv=>?_,λhv=>?_⟩;have u:gd l j≠t:=(by grind);rw[d7 u] at w;simp only[mx o<|dJ<|show a<L l by omega,bh];refine Qo o (by omega) λY2 Z b2=>?_;simp only[JP,aI,au,ck,u0,u1,↓uL];rw[fX (k:=a)<|by omega];refine dR (mk:=λ(a:Nat) i=>[iv (a:Int),iv i]) (p:=1) (s:=a) (s':=a+1) (λ_ _=>rfl) q (by omega) ?_;refine⟨d.set a<|gd l j,by simp_all,by omega,by simp[F],?_,?_,b2,(r.trans Z).mono<|by simp⟩;grind [iJ,List.take_set_of_le];rw[List.drop_set_of_lt<|by omega];have:d.drop (j+1)=(d.drop j).drop 1:=(by simp);simp_all;have u:gd l j=t:=(by grind);rw[bA (by simp[u]),cL] at w;simp only[JP,aI,au,ck,u0,u1,↓uL];refine dR (mk:=λ(a:Nat) i=>[iv (a:Int),iv i]) (p:=1) (s:=a) (s':=a) (λ_ _=>rfl) q (by omega) ?_;refine⟨d,by simp_all,by omega,F,by simp_all,?_,o,r⟩;have:d.drop (j+1)=(d.drop j).drop 1:=(by simp);simp_all;obtain rfl:j=L l:=(by grind);rw[gV] at A W;have T:fo 1 n (.m b<|L l) (V<|iv (a:Int)) J J=V (.g 2 b a<|L l-a):=(by simp only[fo,lM];grind [qY,bh]);simp only[T,aY,↓uL];have E:pA (.int .i64 0) n (.g 2 b a<|L l-a)=V (wr n b ⟨3,1,U,I,(d.take a++er (L l-a) 0++d.drop (L l)).map ci⟩):=(by simp only[pA,o];rw[d7 ⟨trivial,by omega⟩];congr 3;rw[show a+(L l-a)=L l by omega];simp);simp only[E,aoq,aj2,au,↓uL];have y:=lO (x':=⟨3,1,U,I,(d.take a++er (L l-a) 0++d.drop (L l)).map ci⟩) o;have S:fo 1 (wr n b ⟨3,1,U,I,(d.take a++er (L l-a) 0++d.drop (L l)).map ci⟩) (.m b<|L l) J (V<|iv (a:Int)) J=V (.m b a):=(by simp only[fo,lM];rw[d7<|by omega];simp only[qY,y,qd,bh,mi];rw[d7 ⟨trivial,trivial,by omega⟩]);simp only[S,aY,fe,aoz,↓uL];have G:d.drop (L l)=[]:=(by grind);rw[G,cL,W] at y;subst A;rw[show d.take (L<|fJ l t)++er (L l-L (fJ l t)) 0++d.drop (L l)=fJ l t++er (L l-L (fJ l t)) 0 by simp_all];exact⟨rfl,y,(r.trans<|wc o).mono<|by simp⟩
def anf{Y a:ae}{b:Id}{x:bY}(c:Fx Y a [b])(h:box a b=V x):LoC b x Y a:=⟨c.len,c.lB,(by grind [Fx.keep]),h⟩
def awP{Y:ae}{d:Nat}{K:be}{b:Id}{l:List Int}(e:jC l)(c:box Y b=V ⟨3,1,U,I,l.map ci⟩)(j:L Y=4096)(k:L l<1000)(i:∀Y',Fx Y Y' [b]->box Y' b=V ⟨3,1,U,I,l.map ci⟩->K (.m b<|L l) Y'):cN 186 [.m b<|L l] Y d K:=by refine .inr (.inl ⟨.m b<|L l,b,_,⟨3,1,U,I,l.map ci⟩,L l,rfl,c,(by grind [qA,gY]), .inr ⟨_,rfl⟩,λg f n=>?_,i _ (wc c)<|lO c⟩);have a:box g b=V ⟨3,1,U,I,l.map ci⟩:=(by grind [nQ,pP,dC,dK]);obtain⟨r,o,⟨rfl,rfl⟩,h⟩:=aCq e a (f.trans j) k;exact⟨_,h,anf (Fx.refl _ _) a⟩
def awR{Y:ae}{d:Nat}{K:be}{b c:Id}{l:List Int}{t:Int}{e:TypeId}(u:t∈l)(a:box Y b=V ⟨3,1,U,I,l.map ci⟩)(z:box Y c=V ⟨e,1,U,U,[[iv t]]⟩)(s:L Y=4096)(v:L l<1000)(q:∀Y',Fx Y Y' [b]->box Y' b=V ⟨3,1,U,I,(fJ l t++er (L l-L (fJ l t)) 0).map ci⟩->K (.m b<|L<|fJ l t) Y'):cN 187 [.m b<|L l, .f 188 [] [.p c 0 0]] Y d K:=by have x:L (fJ l t)<=L l:=fZ _ _;refine .inr (.inl ⟨.m b<|L<|fJ l t,b,_,⟨3,1,U,I,(fJ l t++er (L l-L (fJ l t)) 0).map ci⟩,L l,rfl,a,(by grind [qA,gY]), .inr ⟨_,rfl⟩,λg k w=>?_,q _ (wc a)<|lO a⟩);have i:box g b=V ⟨3,1,U,I,l.map ci⟩:=(by grind [nQ,pP,dC,dK]);have j:box g c=V ⟨e,1,U,U,[[iv t]]⟩:=(by grind [nQ,pP,dC,dK]);obtain⟨r,y,⟨rfl,n,o⟩,h⟩:=aCs u i j (k.trans s) v;exact⟨_,h,anf o n⟩
theorem Ny{x:Int}{l:List Int}:jC (x::l)↔(∀y∈l.head?,x<y)/\jC l:=by constructor;intro h;refine⟨λy a=>?_,λi b=>by have:=h (i+1) (by simp;omega);grind [gd]⟩;(cases l with|nil=>simp at a|cons z l=>simp only[List.head?_cons,Option.mem_def,bE] at a;subst a;have:=h 0 (by simp);grind [gd]);rintro⟨d,c⟩ i b;cases i with|zero=>(cases l with|nil=>simp at b|cons z l=>simp_all [gd])|succ i=>have:=c i (by simp_all);grind [gd]
def aE9{l:List Int}{t:Int}:∀y∈(fk l t).head?,y=t\/y∈l.head?:=by cases l with|nil=>simp[fk]|cons x l=>grind [fk]
theorem Nz:∀{l:List Int} {t:Int},jC l->jC (fk l t)
 |[],t,_=>by intro i c;simp[fk] at c
 |x::l,t,h=>by
  have b:=Ny.1 h
  simp only[fk]
  split
  ·rename_i d
   refine Ny.2 ⟨λy a=>?_,Nz b.2⟩
   rcases aE9 y a with rfl|a
   ·exact d
   simp_all
  grind [Ny]
def an0:∀{l:List Int} {t:Int},(∀x∈l,x<t)->fk l t=l++[t]
 |[],t,_=>rfl
 |x::l,t,h=>by
  simp only[fk,d7<|h x<|by simp,zn]
  rw[an0<|by simp_all]
def an3{l:List Int}(h:jC l):∀k,k<=L l->jh [] l k=l.take k
 |0,_=>rfl
 |k+1,f=>by
  have a:k<L l:=by omega
  have c:jh [] l (k+1)=fk (jh [] l k) (gd l k):=by
   grind [jh,iJ,bT]
  rw[c,an3 h k (by omega),iJ a,<-bT a]
  refine an0 λx d=>?_
  obtain⟨j,e,rfl⟩:=ou d
  have b:j<k:=by grind
  have:=AD h b a
  grind [bT]
theorem Ro{l:List Int}{t:Int}(h:jC l):mP l [t]=fk l t:=by show jh (jh [] l<|L l) [t] 1=_;rw[an3 h _<|dA _,gV];rfl
def io(n:Nat)(f:Nat->List AV):List (List AV):=(aH n).map f
theorem aH0{n:Nat}{f:Nat->List AV}:L (io n f)=n:=by simp[io]
def uU{n:Nat}{f:Nat->List AV}{k:Nat}(h:k<n):(io n f)[k]?=V (f k):=by simp[io,h]
def yC{n:Nat}{f g:Nat->List AV}(h:∀i,i<n->f i=g i):io n f=io n g:=ja λi a=>h i<|fq.1 a
def Bl{n:Nat}{f:Nat->List AV}{k:Nat}{x:List AV}:(io n f).set k x=io n λi=>if i=k then x else f i:=by refine biF (by simp[io]) λj a b=>?_;grind [io]
def Q0{n:Nat}{x:List AV}:er n x=io n λ_=>x:=by refine biF (by simp[io]) λj a b=>?_;simp[io]
def aH1{α:Type}[Inhabited α]{l:List α}{g:α->List AV}:(l.map g)=io (L l) λi=>g (gd l i):=by refine biF (by simp[io]) λj a b=>?_;grind [io,bT]
def qg(Y:ae)(e:TypeId)(z:Nat)(a:AV)(aa:List<|List AV):Prop:=(aa=[]/\a= .l [] U U)\/∃b c,a= .m b (L aa)/\box Y b=V ⟨e,z,U,I,c⟩/\c.take (L aa)=aa
theorem qg.fx{Y Y':ae}{ks:List Id}{e:TypeId}{z:Nat}{a:AV}{aa:List (List AV)}(i:qg Y e z a aa)(g:Fx Y Y' ks)(j:∀b∈aA a,b∉ks):qg Y' e z a aa:=by rcases i with h|⟨b,c,rfl,d,f⟩;exact .inl h;exact .inr ⟨b,c,rfl,g.keep b _ (j b<|by simp[aA]) d,f⟩
def bc.x{Y:ae}{e:TypeId}{z:Nat}{a:AV}{aa:List (List AV)}(d:bc Y e z a aa):qg Y e z a aa:=by rcases d with h|⟨b,rfl,c⟩;exact .inl h;exact .inr ⟨b,aa,rfl,c,gV⟩
theorem qg.ids{Y:ae}{e:TypeId}{z:Nat}{a:AV}{aa:List (List AV)}(d:qg Y e z a aa):∀k∈aA a,∃c,box Y k=V ⟨e,z,U,I,c⟩:=by rcases d with⟨_,rfl⟩|⟨b,c,rfl,f,g⟩;simp[aA];grind [aA,cE]
theorem qg.ce{Y:ae}{e:TypeId}{z:Nat}{a:AV}{aa:List (List AV)}(c:qg Y e z a aa):eY a=V [a]:=by rcases c with⟨_,rfl⟩|⟨b,_,rfl,_⟩<;>rfl
theorem qg.fr{Y:ae}{e:TypeId}{a:AV}{l:List Int}(f:qg Y e 1 a<|l.map ci):frN Y a=sl ci l:=by rcases f with⟨h,rfl⟩|⟨b,g,rfl,c,d⟩;simp at h;subst h;rfl;simp only[frN,aOn,c,NA,gK];rw[d];rfl
def vC(Y:ae)(a:AV)(ls:List cg):Prop:=∃(b:Id) (f:Nat->AV),a= .m b (L ls)/\box Y b=V ⟨186,2,U,U,io (L ls) λi=>[iv (gd ls i).pw,f i]⟩/\(∀i,i<L ls->bc Y 3 1 (f i) ((gd ls i).bk.map ci))/\(∀i j,i<L ls->j<L ls->i≠j->∀k∈aA (f i),k∉aA (f j))/\∀i,i<L ls->∀k∈aA (f i),k.1=24
def sC(Y:ae)(a:AV)(ls:List cg):Prop:=∃(b:Id) (f:Nat->AV),a= .m b (L ls)/\box Y b=V ⟨186,2,U,U,io (L ls) λi=>[iv (gd ls i).pw,f i]⟩/\(∀i,i<L ls->qg Y 3 1 (f i) ((gd ls i).bk.map ci))/\∀i j,i<L ls->j<L ls->i≠j->∀k∈aA (f i),k∉aA (f j)
def Bp{Y:ae}{b:Id}{i j z y:Nat}{e:TypeId}{o:Bool}{aa:List (List AV)}{r cs:List AV}{x:AV}{K:ae->Prop}(a:box Y b=V ⟨e,z,o,U,aa⟩)(g:aa[i]?=V r)(h:eY x=V cs)(k:L cs=y)(f:j+y<=L r)(d:∀Y',Fx Y Y' [b]->box Y' b=V ⟨e,z,o,U,aa.set i<|r.take j++cs++r.drop (j+y)⟩->K Y'):sV (aK y Y (.p b i j) x) K:=by have c:aK y Y (.p b i j) x=V (wr Y b ⟨e,z,o,U,aa.set i<|r.take j++cs++r.drop (j+y)⟩):=(by grind [aK,aBG,pW]);rw[c];exact d _ (wc a)<|lO a
def AP{e:TypeId}{a:List AV}{c d n:Nat}{Y:ae}{K:be}(k:0<L a)(j:a.all eN=U)(f:d<L Y)(l:n*(c+1)<=1099511627776)(i:∀b Y',b.1=d->bK Y b->Fx Y Y' []->box Y' b=V ⟨e,L a,U,uj a,er n<|mz a⟩->K (.m b n) Y'):eV (qO e a c Y d (iv n)<|iv n) K:=by have g:qO e a c Y d (iv n) (iv n)=V (.m (lA Y d) n,put Y d ⟨e,L a,U,uj a,er n<|mz a⟩):=(by have h:(n:Int)*((c:Int)+1)<=((1099511627776:Nat):Int):=(by grind);simp only[qO];rw[d7 ⟨by omega,Int.le_refl _,k,j,by simp[vg,f],h⟩];simp);rw[g];exact i _ _ rfl (qQ Y d) (kH f)<|iy f
def aqw(s:aW)(r:AV)(f Y:ae):Prop:=∃d e b,r= .a [d,iv s.tx,e,b]/\vC Y d s.ak/\bc Y 4 1 e (s.done.map cb)/\bc Y 85 3 b (s.ay.map kw.c)/\(∀k∈aA d++aA e++aA b,bK f k)/\∀k∈aA b,k.1≠7/\k.1≠8
def aCp(s:aW){Y:ae}(hl:L Y=4096)(hp:L s.ak<1000/\L s.done<1000/\L s.ay<1000/\∀l∈s.ak,L l.bk<1000):∃r Y1,(aqw s r Y Y1/\Fx Y Y1 [])/\cZ aS GG 184 [.a s.c] Y r Y1:=by refine aK6 hl rfl λs2 n K2 bw bz b1=>?_;have D:Fx Y s2 []:=K2.fx [];have ao:L s2=4096:=K2.len.trans hl;simp only[Iq,↓uL];refine so ao λK Y2 N N2 b2=>?_;have d1:=N.kq b1;have a0:L Y2=4096:=N.len.trans ao;simp only[abp,u0,u1,d1,rk,aj,cT,↓uL];refine AP (by decide) (by decide) (by omega) (by omega) λd Y3 bt NL F3 aQ=>?_;have hL:box Y3 d=V ⟨186,2,U,U,io (L s.ak) λ_=>[iv 0, .l [] U U]⟩:=(by rw[aQ,Q0];rfl);have e1:=F3.kq d1;simp only[abx,u0,u1,e1,rk,aj,cT,↓uL];refine yV (L s.ak) (λk _ Y'=>Fx Y2 Y' []/\∃f:Nat->AV,box Y' d=V ⟨186,2,U,U,io (L s.ak) λi=>if i<k then[iv (gd s.ak i).pw,f i] else[iv 0, .l [] U U]⟩/\(∀i,i<k->bc Y' 3 1 (f i) ((gd s.ak i).bk.map ci))/\(∀i j,i<k->j<k->i≠j->∀q∈aA (f i),q∉aA (f j))/\(∀i,i<k->∀q∈aA (f i),q≠d)/\∀i,i<k->∀q∈aA (f i),q.1=24) (by simp_all) ?_;rintro k _ A hk ⟨E,f,aT,T,aP,bs,aR⟩;have W:L A=4096:=E.len.trans a0;have g1:=E.kq d1;have g2:=E.kq b2;simp only[aby,aI,au,u0,u1,ix,rk,bh,g1,aj,↓uL];refine⟨λh=>⟨vp h,?_⟩,λh=>?_⟩;have X:=aL h;refine so W λv5 Y5 o N5 b5=>?_;refine cy (cs:=cg.c<|gd s.ak k) b5 rfl rfl (by decide) λZ t P=>?_;have aN:box Z (5,v5)=V ⟨186,2,U,U,[cg.c<|gd s.ak k]⟩:=P;have C:Fx A Z []:=(o.trans t).mono (by grind [bK.no]);have bu:L Z=4096:=C.len.trans W;simp only[abr,u0,u1,aN,rk,aj,↓uL];refine Kr (aa:=(gd s.ak k).bk.map ci) rfl fF (by grind [dB]) (by simp[gY]) (by omega) λG Y7 g7 u N7=>?_;have aU:bM aPz C2 [(0,iv (gd s.ak k).pw),(1,G)]=V (.a [iv (gd s.ak k).pw,G]):=(by simp[bM,aly,ms g7,zU]);have an:=u.kq<|C.kq aT;have aV:cz 2 Y7 (.m d<|L s.ak) (iv k)=V (.p d k 0):=(by simp[cz,an,X]);simp only[abq,aU,aY,aV,au,↓uL];refine Bp an (uU X) (x:= .a [iv (gd s.ak k).pw,G]) rfl rfl (by simp) λY8 F R=>?_;simp only[abo,↓uL];refine dT rfl ?_;simp only[au,u0,u1,↓uL];have bm:∀q∈aA G,q≠d:=(by grind);have bn:∀i,i<k->∀q∈aA (f i),q∉aA G:=λi y q g a4=>(by obtain⟨v,b⟩:=(T i y).x.ids q g;exact(N7 q a4).1.no _<|C.kq b);have aD:Fx A Y8 [d]:=(C.trans<|u.trans F).mono (by simp);refine yU X ⟨(E.trans aD).mono (by grind [bK.no]),λi=>if i=k then G else f i,?_,?_,?_,?_,?_⟩;rw[R,Bl];congr 2;refine yC λi y=>?_;grind;intro i y;by_cases h1:i=k;grind [bc.fx];grind [bc.fx];grind;grind;grind;obtain rfl:k=L s.ak:=(by grind);have aC:box A d=V ⟨186,2,U,U,io (L s.ak) λi=>[iv (gd s.ak i).pw,f i]⟩:=(by simp_all [yC,d7]);have n1:d≠(1,n):=(NL.ne d1).symm;refine cy (cs:=[.m d<|L s.ak]) g1 rfl rfl (by simp[aW.c]) λY5 o b5=>?_;have al:box Y5 (1,n)=V ⟨36,4,U,U,[[.m d<|L s.ak,iv s.tx,sl cb s.done,sl kw.c s.ay]]⟩:=b5;have a1:L Y5=4096:=o.len.trans W;simp only[abw,u0,u1,al,aj,iF,nM,ip,↓uL];refine aw2 (aa:=s.done.map cb) rfl (by grind) (by simp;omega) (by simp[gY]) (by omega) λB Z g6 t N6=>?_;have P:=t.kq al;simp only[abv,u0,u1,P,aj,↓uL];refine cy (cs:=[B]) P (ms g6) rfl (by simp) λY7 u b7=>?_;have am:box Y7 (1,n)=V ⟨36,4,U,U,[[.m d<|L s.ak,iv s.tx,B,sl kw.c s.ay]]⟩:=b7;have bv:L Y7=4096:=u.len.trans<|t.len.trans a1;simp only[abu,u0,u1,am,aj,iF,nM,ip,↓uL];refine aw1 (aa:=s.ay.map kw.c) rfl (qW (f:=kw.c) λ_=>rfl) (by simp;omega) (by simp[gY,kw.c]) (by omega) λH Y8 g8 F N8=>?_;have R:=F.kq am;simp only[abt,u0,u1,R,aj,↓uL];refine cy (cs:=[H]) R (ms g8) rfl (by simp) λY9 F9 b9=>?_;have aO:box Y9 (1,n)=V ⟨36,4,U,U,[[.m d<|L s.ak,iv s.tx,B,H]]⟩:=b9;have af:Fx A Y9 [(1,n)]:=(o.trans<|t.trans<|u.trans<|F.trans F9).mono (by simp);have bx:(2,K)≠(1,n):=(by simp);have g9:=af.kq g2;simp only[abs,u0,u1,aO,aj,uS,↓uL];refine cy (cs:=[.m d<|L s.ak,iv s.tx,B,H]) g9 rfl rfl (by decide) λah M aM=>?_;have av:box ah (2,K)=V ⟨36,4,U,U,[[.m d<|L s.ak,iv s.tx,B,H]]⟩:=aM;simp only[u0,u1,av,aj,uS,fe,aoz,↓uL];have ag:Fx Y A []:=(D.trans<|N.trans E).mono (by simp);have O:Fx A ah [(1,n),(2,K)]:=(af.trans M).mono (by simp);have hv:∀{q:Id} {e:TypeId} {z:Nat} {v:List (List AV)} {τ:ae},box τ q=V ⟨e,z,U,I,v⟩->∀{w:Id} {x:bY},box τ w=V x->x.var=U->q≠w:=(by grind);have k1:∀i,i<L s.ak->∀q∈aA (f i),q∉[(1,n),(2,K)]:=λi y q g=>(by obtain⟨v,b⟩:=(T i y).x.ids q g;simp only[eW,ql,aNN,not_or];grind);have i2:∀q∈aA B,q∉[(1,n)]/\q∉[(2,K)]:=λq g=>(by obtain⟨v,b⟩:=g6.x.ids q g;have S:=t.kq<|o.kq g2;exact⟨by simpa using hv b P rfl,by simpa using hv b S rfl⟩);have i3:∀q∈aA H,q∉[(1,n)]/\q∉[(2,K)]:=λq g=>(by obtain⟨v,b⟩:=g8.x.ids q g;have S:=F.kq<|u.kq<|t.kq<|o.kq g2;exact⟨by simpa using hv b R rfl,by simpa using hv b S rfl⟩);refine⟨⟨_,B,H,rfl,⟨d,f,rfl,?_,λi y=>(T i y).fx O<|k1 i y,aP,aR⟩,?_,?_,?_,λk hk=>by have:=(N8 k hk).2;omega⟩,?_⟩;refine O.keep _ _ ?_ aC;simp only[eW,ql,aNN,not_or];grind;exact((g6.fx u λq g=>(i2 q g).1).fx F<|by simp).fx (F9.trans M) (by grind);exact g8.fx (F9.trans M) (by grind);intro q g;simp only[dF,aA,cE] at g;rcases g with(rfl|g)|g;exact NL.old<|D.trans N;exact rC (gl (ag.lB _)<|o.lB _) (N6 q g).1;exact rC (gl (ag.lB _)<|gl (o.lB _)<|gl (t.lB _)<|u.lB _) (N8 q g).1;refine((D.trans N).trans<|E.trans O).mono ?_;simp only[dW,eW,ql,aNN];rintro q (rfl|rfl);grind;exact .inr λx hx=>N2.no _<|D.kq hx
def Ov(w:br)(s:aW)(t kind nt:Int)(v:lh w s=U/\L w.bC<=2/\(∀l∈s.ak,L l.bk<100000)):Ct 183 [.a w.c, .a s.c,iv t,iv kind,iv nt] (·=bv (jm w s t kind nt)):=by refine aK3 rfl rfl λK G h i D=>?_;obtain⟨b,k,n⟩:=v;obtain⟨z,A,B,C⟩:=iY b;simp+contextual only[In,u0,u1,ut,ar,h,i,rk,ix,cT,aj,b,k,fh,lG,bR,ld,↓uL];rcases g:dh t (L w.ay) with _|_;simp[jm,g,iC];rcases d:named w kind nt with _|_;simp[jm,g,d,iC];have f:aF (L s.ay) t:=(by grind [dX]);simp only[fh,kz,↓iB,f,bR,eE,vm,NR];refine eF rfl rfl (by decide) (by omega) λY F o=>?_;have p:box Y (5,1)=_:=F.bt h;have q:box Y (6,1)=_:=F.bt i;have m:jm w s t kind nt=lc w s t kind nt:=(by simp[jm,b,g,d]);rw[m,axG];simp+contextual only[aa7,In,↓iC,↓iB,↓iS,u0,u1,ut,ar,o,p,q,rk,ix,cT,aj,↓uL];obtain⟨x,H,r,M,y⟩:=D0 b d;refine⟨λu=>?_,λu=>⟨λe=>?_,λe=>⟨λ_=>⟨b,d,f,n⟩,?_⟩⟩⟩;rfl;have:=u4 e;have j:=r (by omega) (by omega);exact⟨λ_ _=>j,λ_ _=>x j,rfl⟩;simp only[aoC];rcases E:Q ((gd s.ay t.toNat).cQ=2) with _|_<;>simp_all
def BU:FT:=zb Ov
def ays{w s t kind nt Lw K}:=KQ BU Ov w s t kind nt Lw K
def Rm:dO:=(183,BU)::apl
def ape:eJ Rm:=it (Rt Ov)<|yR
def aml:=ai @ays<|@aBn
def ak9:=bi 31 [(6,([15],[7,12])),(10,([42],[4,5,6,7,8,12,15,27])),(12,([51],[4,5,6,7,8,12,15,27]))]
def aaV c e d g k i j h(a:aG) b:=dH [bo c,bo e,km,km,lb I [.f 186 [] [],d] [76],lb U [g,k] [],bo i,lb I [j,h] []] [(0,4),(1,4),(2,4)]<|a [iv 0] b
def Im b g h j i f c a:=ao 2 a b g λd=>aB 1 a d λe=>sV (aK 1 a e c)<|aaV h j i b g d e c f
def aaW b c g e(h:AV) a:=aB 0 a b λd=>aM a d λf=>cN 186 [c] a 76<|Im f g b d c e
def aaX b g h e i j a l k m d c f:=dH [bo b,bo g,km,lb U [h,e] [],bo i,bo j,bo a,lb I [l] [],lb I [k,m] [69],km] [(0,7),(1,7),(2,7),(3,7),(4,7),(5,7)]<|cB 185 [c] f 71<|aaW b c e d
def aaY b g i j d k l a m h o p n(c:aG) e:=dH [bo b,bo g,km,bo b,bo i,km,lb U [j,d] [],bo k,bo l,bo a,lb I [.f 187 [] [],m,.f 188 [] [a]] [91],lb U [h,d] [],bo o,lb I [p,n] []] [(0,10),(1,10),(2,10)]<|c [iv 0] e
def aaZ c h i j k l m n a o g d b:=ao 2 b c h λe=>aB 1 b e λf=>sV (aK 1 b f d)<|aaY i j k l h m n a o c e f d g
def aa0 b d a g e f j k h i l m o(n:aG) c:=dH [bo b,bo d,bo a,bo b,bo g,bo a,km,lb U [e,f] [],bo j,lb I [k,iv 3] [],lb U [h,i] [],bo l,lb I [m,o] []] [(3,9),(4,9),(5,9),(6,9)]<|n [iv 0] c
def aaO c d n o g b j h i k l m a:=ao 3 a c d λe=>aB 1 a e λf=>sV (aK 1 a f n)<|aa0 o g b j h i k l c d e f n m
def Ik c b m l a:=aB 3 a c λd=>aM a d λe=>aM a b λf=>aB 3 a c λg=>aM a g λj=>aM a b λk=>ao 3 a e f λh=>aB 0 a h λi=>sV (aK 1 a i<|iv 3)<|aaO j k m c d b g e f h i l
def aaP b d a g e f j k h i l m(n:aG) c:=dH [bo b,bo d,bo a,bo b,bo g,bo a,lb U [e,f] [],bo j,lb I [k,iv 2] [],lb U [h,i] [],bo l,lb I [m,iv 0] []] [(3,8),(4,8),(5,8)]<|n [iv 0] c
def aaQ c d n g b j h i k l m a:=ao 3 a c d λe=>aB 1 a e λf=>sV (aK 1 a f<|iv 0)<|aaP n g b j h i k l c d e f m
def Il c b l a:=aB 3 a c λd=>aM a d λe=>aM a b λf=>aB 3 a c λg=>aM a g λj=>aM a b λk=>ao 3 a e f λh=>aB 0 a h λi=>sV (aK 1 a i<|iv 2)<|aaQ j k c d b g e f h i l
def aa2 a c g(d:aG) e b u a5 av:=Rg->ah (gt av 0) (ab 0 a c λaD=>ao 2 a aD g λaE=>aB 0 a aE λaF=>sV (aK 1 a aF<|iv<|-1) λax=>d [iv 0] ax) (bf e (iv 8) λaI=>ah aI (aB 0 a c λh=>aM a h λi=>ao 2 a i g λj=>aB 1 a j λk=>aM a k λl=>aM a b λm=>eV (aX bH 1 a [(0,m)]) λn ay=>eV (cj 3 fB 8 ay 69 l n)<|aaX c h i g j k b m l n d)<|bf e (iv 9) λaJ=>ah aJ (aB 0 a c λo=>aM a o λaL=>aB 0 a c λp=>aM a p λq=>ao 2 a q g λr=>aB 1 a r λs=>aM a s λt=>cN 187 [t,.f 188 [] [b]] a 91<|aaZ aL g c o p q r s b t d)<|bf e (iv 12) λaN=>ah aN (aM a b λaO=>aB 1 a c λaP=>sV (aK 1 a aP aO) λaz=>d [iv 0] az)<|bf e (iv 13) λaQ=>ah aQ (aB 1 a c λaR=>sV (aK 1 a aR<|iv<|-1) λaA=>d [iv 0] aA)<|bf e (iv 14) λaT=>ah aT (ab 3 a c λaU=>aM a b λaV=>ao 3 a aU aV λaW=>aB 2 a aW λaY=>sV (aK 1 a aY<|bv U) λaC=>d [iv 0] aC)<|bf e (iv 15) λA=>ah A (ab 3 a c λB=>aM a b λC=>ao 3 a B C λD=>aB 2 a D λE=>sV (aK 1 a E<|bv I) λv=>d [iv 0] v)<|bf e (iv 16) λF=>ah F (ab 0 a c λG=>ab 2 a u λH=>ao 2 a H g λK=>ab 1 a K λM=>ao 2 a G M λN=>aB 0 a N λO=>sV (aK 1 a O<|iv<|-1)<|Ik c b g d)<|bf e (iv 17) λP=>ah P (ab 0 a c λR=>ab 2 a u λS=>ao 2 a S g λT=>ab 1 a T λW=>aM a b λX=>ao 2 a R W λZ=>aB 0 a Z λaa=>sV (aK 1 a aa X)<|Il c b d)<|bf e (iv 18) λac=>ah ac (aw 4 a c λad=>cB 189 [ad,g,a5] a 166 λae w=>d [ae] w)<|bf e (iv 19) λaf=>ah af (aw 4 a c λag=>cB 190 [ag,g] a 171 λak x=>d [ak] x)<|bf e (iv 20) λal=>ah al (ab 3 a c λam=>ao 3 a am g λan=>aB 0 a an λap=>sV (aK 1 a ap<|iv 1) λy=>d [iv 0] y)<|bf e (iv 22) λaq=>ah aq (ab 2 a c λar=>ao 1 a ar g λau=>sV (aK 1 a au<|bv U) λz=>d [iv 0] z)<|d [iv 0] a)
def aa1 b d a g(c:aG) f m n e:=Rg->ah (gt e 0) (ab 0 b d λi=>aM b a λj=>ao 2 b i g λk=>aB 0 b k λl=>sV (aK 1 b l j) λh=>c [iv 0] h) (jR 12 (aa2 b d g c f a m n)<|acA f)
def aa6 e a d b s r t(c:aG):=bf e (iv 1) λh=>ah h (ab 3 a d λi=>aM a b λj=>ao 3 a i j λk=>aB 0 a k λl=>sV (aK 1 a l<|iv 2) λf=>c [iv 0] f) (bf e (iv 2) λm=>ah m (ab 3 a d λn=>aM a b λo=>ao 3 a n o λp=>aB 0 a p λq=>sV (aK 1 a q<|iv 5) λg=>c [iv 0] g)<|jR 10 (aa1 a d b s c e r t)<|acz e)
def aaR b h R e a f d g c:=jV 6 (CP b h R)<|aa6 e c b a f d g
def aaS b i R f a g e h d c:=sV (aK 4 c b d)<|aaR b i R f a g e h
def aaT d c a f g R n e b:=aw 6 b d λo=>aw 4 b c λh=>aM b a λi=>fV BU b [o,h,i,f,g] λj=>cf j λk=>ah k (rV (bM aNC alz []) λl=>sV (aK 4 b e l)<|acl e R) (aw 4 b c λm=>cB 184 [m] b 26<|aaS c e R f a g d n)
def Ii c b a d e f g R:=eV (bs 36 aNC g 12)<|aaT c b a d e R f
def aK1{e:List AV}{f:List AV}{d g i j:AV}{R:o8}(l0:L e=6)(l1:L f=4)(z:eY d=V [d])(h:∀b:ae,L b=4096->box b (6,1)=V ⟨31,6,U,U,[e]⟩->box b (7,1)=V ⟨36,4,U,U,[f]⟩->box b (8,1)=V ⟨3,1,U,U,[[d]]⟩->(∀k,k≠6->k≠7->k≠8->aZ b k=mO)->Ii (.p (6,1) 0 0) (.p (7,1) 0 0) (.p (8,1) 0 0) g i j b R):Fn aS GG 130 [.a e, .a f,d,g,i,j] R:=by refine uq ready ape Tryz.func130 (an:=ak9) (by kernel_rfl) (aND (show ZF aS GG Rm ak9 Tryz.f130 [.a e, .a f,d,g,i,j] R=(eV (qm 31 6 (ly Tryz.f130) 6<|.a e) λq m=>eV (qm 36 4 m 7<|.a f) λo n=>eV (qm 3 1 n 8 d) λc b=>Ii q o c g i j b R) by kernel_rfl) ?_);refine mY (N:=4096) rfl l0 (by decide) (by decide) uB (by rw[i8]) λm A r D g0=>?_;refine mY (N:=4096) rfl l1 (by decide) (by decide) A (by rw[g0 _ (by decide),i8]) λn B s u g1=>?_;refine mY (N:=4096) z rfl (by decide) (by decide) B (by rw[g1 _ (by decide),g0 _ (by decide),i8]) λb C t l v=>?_;exact h b C (by rw[l _ _ (by decide),u _ _<|by decide];exact r) (by rw[l _ _<|by decide];exact s) t (λk w x y=>by rw[v k y,g1 k x,g0 k w];exact i8 _ k)
def aCn{B:aG}{A:(aG)->Prop}(Q:aG)(b:∀a,(∀vs Y',Q vs Y'->a vs Y')->A a)(c:∀vs Y',Q vs Y'->B vs Y'):A B:=b B c
structure Sz(Y:ae)(s:aW)(a1 a2 a3:AV):Prop where
 bx:box Y (7,1)=V ⟨36,4,U,U,[[a1,iv s.tx,a2,a3]]⟩
 g1:sC Y a1 s.ak
 g2:bc Y 4 1 a2 (s.done.map cb)
 g3:bc Y 85 3 a3 (s.ay.map kw.c)
theorem bc.ids{Y:ae}{e:TypeId}{z:Nat}{a:AV}{aa:List (List AV)}(c:bc Y e z a aa):∀k∈aA a,box Y k=V ⟨e,z,U,I,aa⟩:=by rcases c with⟨_,rfl⟩|⟨b,rfl,d⟩;simp[aA];grind [aA,cE]
def vC.g{Y:ae}{a:AV}{ls:List cg}(h:vC Y a ls):sC Y a ls:=by obtain⟨b,f,c,d,e,j,_⟩:=h;exact⟨b,f,c,d,λi k=>(e i k).x,j⟩
theorem vC.fx{Y Y':ae}{ks:List Id}{a:AV}{ls:List cg}(h:vC Y a ls)(c:Fx Y Y' ks)(p:∀k∈ks,(∃x,box Y k=V x/\((x.var=U/\x.elem≠186)\/(x.var=I/\x.elem≠3)))\/∀x,box Y k≠V x):vC Y' a ls:=by obtain⟨b,f,rfl,m,d,g,j⟩:=h;refine⟨b,f,rfl,c.keep _ _ (λn=>?_) m,λi e=>(d i e).fx c λq o n=>?_,g,j⟩;grind;have l:=(d i e).ids q o;grind
theorem sC.fx{Y Y':ae}{ks:List Id}{a:AV}{ls:List cg}(e:sC Y a ls)(c:Fx Y Y' ks)(m:∀k∈ks,(∃x,box Y k=V x/\((x.var=U/\x.elem≠186)\/(x.var=I/\x.elem≠3)))\/∀x,box Y k≠V x):sC Y' a ls:=by obtain⟨b,f,rfl,h,g,d⟩:=e;refine⟨b,f,rfl,c.keep _ _ (λl=>?_) h,λi j=>(g i j).fx c λq n l=>?_,d⟩;grind;grind [qg.ids]
theorem sC.fr{Y:ae}{a:AV}{ls:List cg}(j:sC Y a ls):dQ Y a= .l (ls.map cg.c) I U:=by obtain⟨b,f,rfl,o,e,n⟩:=j;have m:∀i,i<L ls->([iv (gd ls i).pw,f i].map<|frN Y)=cg.c (gd ls i):=λi d=>(by simp only[ji,mU,(e i d).fr,cg.c];rfl);have p:(io (L ls) λi=>[iv (gd ls i).pw,f i]).map (·.map (frN Y))=ls.map cg.c:=(by rw[aH1 (l:=ls) (g:=cg.c)];grind [io,vA,ja]);have k:((io (L ls) λi=>[iv (gd ls i).pw,f i]).all λr=>r.all λc=>eN<|frN Y c)=U:=(by rw[dV];intro r h;simp only[io,dN,fq] at h;obtain⟨i,d,rfl⟩:=h;simp only[Cs,aqG,(e i d).fr,ru];rfl);have q:(io (L ls) λi=>[iv (gd ls i).pw,f i]).take (L ls)=io (L ls) λi=>[iv (gd ls i).pw,f i]:=(by grind [List.take_of_length_le,aH0]);grind [dQ]
def bc.frD{Y:ae}{e:TypeId}{z:Nat}{a:AV}{aa:List (List AV)}(c:bc Y e z a aa):∃t o,dQ Y a= .l aa t o:=by rcases c with⟨rfl,rfl⟩|⟨b,rfl,d⟩;exact⟨_,_,rfl⟩;simp_all [dQ]
section
variable{Y:ae}{s:aW}{a1 a2 a3:AV}
theorem Sz.fx{Y':ae}(S:Sz Y s a1 a2 a3)(a:Fx Y Y' []):Sz Y' s a1 a2 a3:=⟨a.kq S.bx,S.g1.fx a (by simp),S.g2.fx a (by simp),S.g3.fx a<|by simp⟩
theorem Sz.th{i:Int}{j:Nat}{x:Value}{K:AV->be}(S:Sz Y s a1 a2 a3)(n:aF (L s.ay) i)(o:j<3)(d:kw)(r:(gd s.ay i.toNat).c.set j (.s x)=d.c)(m:∀b Y',Fx Y Y' (aA a3)->Sz Y' (ni s i d) a1 a2 a3->aA a3=[b]->K (.p b i.toNat 0) (.p b i.toNat j) Y'):rV (cz 3 Y a3<|iv i) λp=>rV (iQ j Y p) λq=>sV (aK 1 Y q<|.s x) (K p q):=by refine DB S.g3 n o d r λb Y' h a l=>m b Y' a ⟨?_,?_,?_,l⟩ h;refine a.keep _ _ (λf=>?_) S.bx;have:=S.g3.ids _ f;rw[S.bx] at this;cases this;exact S.g1.fx a λk e=> .inl ⟨_,S.g3.ids k e, .inr ⟨rfl,by simp⟩⟩;exact S.g2.fx a λk e f=>by have g:=S.g2.ids _ e;rw[S.g3.ids _ f] at g;cases g
theorem Sz.lk{i o:Int}{K:AV->be}(S:Sz Y s a1 a2 a3)(e:aF (L s.ak) i)(r:∀b Y',Fx Y Y' (aA a1)->Sz Y' (lC s i {cH s i with pw:=o}) a1 a2 a3->aA a1=[b]->K (.p b i.toNat 0) (.p b i.toNat 0) Y'):rV (cz 2 Y a1<|iv i) λp=>rV (iQ 0 Y p) λq=>sV (aK 1 Y q<|iv o) (K p q):=by have h:i.toNat<L s.ak:=(by have:=e.1;have:=e.2;omega);obtain⟨b,f,rfl,d,w,v⟩:=S.g1;have j:cz 2 Y (.m b<|L s.ak) (iv i)=V (.p b i.toNat 0):=(by simp[cz,e.1,d,h]);rw[j];simp only[rV,rR,d,df,aj];refine Bp d (uU h) (x:=iv o) rfl rfl (by simp) λY' c l=>r b Y' c ⟨?_,?_,?_,?_⟩ rfl;refine c.keep _ _ (λg=>?_) S.bx;simp only[cE] at g;have:=S.bx;simp_all;refine⟨b,f,by simp[lC],?_,λk a=>?_,?_⟩;rw[l,Bl];simp only[lC,zq];congr 2;refine yC λk a=>?_;grind [gd,cH,oq];have t:k<L s.ak:=(by grind [lC]);have u:(gd (lC s i {cH s i with pw:=o}).ak k).bk=(gd s.ak k).bk:=(by grind [lC,cH,gd,oq]);grind [qg.fx,qg.ids];grind [lC];exact S.g2.fx c λk a g=>(by have n:=S.g2.ids _ a;simp_all);exact S.g3.fx c λk a g=>by have n:=S.g3.ids _ a;simp_all
theorem Sz.dn{i:Int}{v:Bool}{K:ae->Prop}(S:Sz Y s a1 a2 a3)(e:aF (L s.done) i)(g:∀Y',Fx Y Y' (aA a2)->Sz Y' {s with done:=s.done.set i.toNat v} a1 a2 a3->K Y'):rV (cz 1 Y a2<|iv i) λp=>sV (aK 1 Y p<|bv v) K:=by have n:i.toNat<L s.done:=(by have:=e.1;have:=e.2;omega);refine ixI S.g2 (by grind) λb d h=>?_;have l:(s.done.map cb)[i.toNat]?=V (cb<|gd s.done i.toNat):=(by grind [eC,bT]);refine wL h l (by simp) λY' f m=>?_;have F:Fx Y Y' (aA a2):=(by rw[d];exact f);refine g Y' F ⟨?_,?_,?_,?_⟩;grind [Fx.keep,bc.ids,Sz.g2,Sz.bx];exact S.g1.fx F λk a=> .inl ⟨_,S.g2.ids k a, .inr ⟨rfl,by simp⟩⟩;refine .inr ⟨b,by rw[d];simp,?_⟩;simp_all;exact S.g3.fx F λk a j=>by have c:=S.g3.ids _ a;rw[S.g2.ids _ j] at c;cases c
theorem Sz.tx{x:Int}{K:ae->Prop}(S:Sz Y s a1 a2 a3)(e:∀Y',Fx Y Y' [(7,1)]->Sz Y' {s with tx:=x} a1 a2 a3->K Y'):sV (aK 1 Y (.p (7,1) 0 1)<|iv x) K:=by refine cy (cs:=[iv x]) S.bx rfl rfl (by simp) λY' F c=>e Y' F ⟨c,?_,?_,?_⟩;exact S.g1.fx F (by grind [Sz.bx]);exact S.g2.fx F λk a b=>(by simp only[cE] at b;have d:=S.g2.ids _ a;grind [Sz.bx]);exact S.g3.fx F λk a b=>by simp only[cE] at b;have d:=S.g3.ids _ a;grind [Sz.bx]
end
theorem sC.ids{Y:ae}{a:AV}{ls:List cg}(c:sC Y a ls):∀k∈aA a,∃aa,box Y k=V ⟨186,2,U,U,aa⟩:=by obtain⟨b,f,rfl,d,_⟩:=c;grind [aA,cE]
theorem Sz.no{Y:ae}{s:aW}{a1 a2 a3:AV}(S:Sz Y s a1 a2 a3){c:Id}{x:bY}(b:box Y c=V x)(e:x.var=U)(d:x.elem≠186):c∉aA a1/\c∉aA a2/\c∉aA a3:=by refine⟨λh=>?_,λh=>?_,λh=>?_⟩;obtain⟨aa,a⟩:=S.g1.ids _ h;grind;have a:=S.g2.ids _ h;grind;have a:=S.g3.ids _ h;grind
def Bk{a b c d:AV}:aN J ([a,b,c,d].drop 3)=V d:=rfl
def aHW{a b c d:AV}:aN J ([a,b,c,d].drop 2)=V c:=rfl
def QW{a b c d:AV}:aN J ([a,b,c,d].drop 0)=V a:=rfl
def Ou(w:br)(s:aW)(t kind nt lD:Int)(hp:jm w s t kind nt=U/\L w.bC<=2/\(∀l∈s.ak,L l.bk<12)/\(∀l∈s.ak,jC l.bk)/\L s.ak<1000/\L s.done<1000/\L s.ay<1000):Ct 130 [.a w.c, .a s.c,iv t,iv kind,iv nt,iv lD] (λr=>∃f,r= .t [.a<|eD (cU w s t kind nt lD).1 f,iv (cU w s t kind nt lD).2,bv U]):=by refine aK1 rfl rfl rfl λs6 hl b1 b2 b3 h0=>?_;obtain⟨he,cF,bd,cK,dy,dz,bH⟩:=hp;have bs:=he;simp only[jm,bN] at bs;obtain⟨hf,hi,hn,af⟩:=bs;obtain⟨f1,f2,f3,f4⟩:=iY hf;obtain⟨mI,lk,cd,th,dn⟩:=D0 hf hn;have ag:aF (L s.ay) t:=(by grind [dX]);simp only[Ii,↓uL];refine mo hl λs8 F8 b8=>?_;have c1:box s8 (6,1)=_:=F8.bt b1;have c2:box s8 (7,1)=V ⟨36,4,U,U,[s.c]⟩:=(by grind [Fr.box]);have c3:box s8 (8,1)=V ⟨3,1,U,U,[[iv t]]⟩:=(by grind [Fr.box]);have bw:L s8=4096:=(by rw[F8.1,hl]);generalize(aZ s6 12).lB+1=Z at*;have cc:lh w s=U/\L w.bC<=2/\∀l∈s.ak,L l.bk<100000:=⟨hf,cF,λl hl=>by have:=bd l hl;omega⟩;simp+contextual only[aaT,u0,u1,c1,c2,c3,rk,iF,ip,ar,aml,he,aj,fh,eE,vm,NR,bR,↓uL];refine⟨cc,?_⟩;refine jH rfl (aCp s bw<|by grind) ?_;rintro r Y1 ⟨⟨a1,a2,a3,rfl,g1,g2,g3,hN,bG⟩,F1⟩;refine⟨F1.len,?_⟩;have d1:=F1.kq c1;have d2:=F1.kq c2;have d3:=F1.kq c3;have d8:=F1.kq b8;simp only[aaS,↓uL];refine cy (cs:=[a1,iv s.tx,a2,a3]) d2 rfl rfl (by simp[aW.c]) λC F2 e2=>?_;have bp:vC C a1 s.ak:=(by grind [vC.fx]);have S:Sz C s a1 a2 a3:=(by refine⟨e2,g1.g.fx F2 λk W=>?_,g2.fx F2 λk W H=>?_,g3.fx F2 λk W H=>?_⟩;simp_all;simp only[cE] at H;have y:=g2.ids _ W;simp_all;grind);have e1:box C (6,1)=_:=F2.kq d1;have e3:=F2.kq d3;have e8:box C (12,Z)=V ⟨36,4,U,U,[aNC]⟩:=F2.kq d8;have ax:L C=4096:=F2.len.trans<|F1.len.trans bw;simp only[aaR,di,↓uL];refine aCn (λvs Y'=>vs=[iv (cU w s t kind nt lD).2]/\Sz Y' (cU w s t kind nt lD).1 a1 a2 a3/\∃aa,box Y' (12,Z)=V ⟨36,4,U,U,[aa]⟩/\L aa=4) (λo hJ=>?_) ?_;have aq:∀(sv:aW×Int) Y',cU w s t kind nt lD=sv->Sz Y' sv.1 a1 a2 a3->(∃aa,box Y' (12,Z)=V ⟨36,4,U,U,[aa]⟩/\L aa=4)->o [iv sv.2] Y':=(by grind);have r0:∃aa,box C (12,Z)=V ⟨36,4,U,U,[aa]⟩/\L aa=4:=⟨_,e8,rfl⟩;have rK:∀{Y Y':ae} {s':aW} {ks:List Id},Sz Y s' a1 a2 a3->(∃aa,box Y (12,Z)=V ⟨36,4,U,U,[aa]⟩/\L aa=4)->Fx Y Y' ks->(ks=aA a1\/ks=aA a2\/ks=aA a3\/ks=[(7,1)])->(∃aa,box Y' (12,Z)=V ⟨36,4,U,U,[aa]⟩/\L aa=4):=(by rintro Y Y' s' ks N ⟨aa,y,A⟩ F dw;obtain⟨n1,n2,n3⟩:=N.no y rfl (by simp);refine⟨aa,F.keep _ _ ?_ y,A⟩;grind);simp+contextual only[aa6,u0,u1,S.bx,e3,aj,dc,Bk,iF,ip,↓uL];refine⟨λk1=>?_,λk1=>⟨λk2=>?_,λk2=>?_⟩⟩;have dB:=u4 k1;exact S.th ag (by decide) {fA s t with cQ:=2} rfl (by grind [cU]);have dD:=u4 k2;exact S.th ag (by decide) {fA s t with cQ:=5} rfl (by grind [cU]);simp only[f8,acz,iM,aY,sw,↓uL];simp+contextual only[aa1,aI,au,u0,u1,S.bx,e3,aj,dc,Bk,QW,iF,ip,↓uL];refine⟨λk6=>?_,λk6=>?_⟩;simp only[fH,j1] at k6;exact S.lk (by grind) (by grind [cU]);simp only[f8,acA,iM,aY,sw,↓uL];simp+contextual only[aa2,aI,au,u0,u1,S.bx,e1,e3,aj,dc,Bk,QW,aHW,iF,ip,↓uL];refine⟨λk7=>?_,λk7=>?_⟩;simp only[fH,j1] at k7;exact S.lk (by grind) (by grind [cU]);refine⟨λk8=>?_,λk8=>⟨λk9=>?_,λk9=>⟨λbI=>?_,λbI=>⟨λbM=>?_,λbM=>⟨λbO=>?_,λbO=>⟨λbP=>?_,λbP=>⟨λbS=>?_,λbS=>⟨λbT=>?_,λbT=>⟨λbU=>?_,λbU=>⟨λbV=>?_,λbV=>⟨λbW=>?_,λbW=>⟨λbX=>?_,λbX=>?_⟩⟩⟩⟩⟩⟩⟩⟩⟩⟩⟩⟩;have k:=u4 k8;have M:=lk (by omega) (by omega);have G:nt.toNat<L s.ak:=qI M;obtain⟨B,f,rfl,P,hX,hD,hP⟩:=bp;have hc:=hX _ G;have aM:=cK _<|ii M;have be:=bd _<|ii M;have bF:t∉(gd s.ak nt.toNat).bk:=(by rw[lc] at af;simp[k] at af;exact af.2.2);have ba:cz 2 C (.m B<|L s.ak) (iv nt)=V (.p B nt.toNat 0):=(by simp[cz,M.1,P,G]);have bb:lS J C (.p B nt.toNat 1)=V (f nt.toNat):=(by simp only[lS,iE,P,qd,uU G,df];rfl);simp only[ba,aY,rR,P,df,aj,bb,iz,bQ,↓uL];refine gD (new:=[ci t]) hc rfl (by decide) (by omega) fF (by simp) (by simp;omega) λa' R ao D cI cJ=>?_;have cx:(gd s.ak nt.toNat).bk.map ci++[ci t]=((gd s.ak nt.toNat).bk++[t]).map ci:=(by simp);rw[cx] at ao;obtain⟨z,rfl,a6⟩:∃z,a'= .m z (L (gd s.ak nt.toNat).bk+1)/\box R z=V ⟨3,1,U,I,((gd s.ak nt.toNat).bk++[t]).map ci⟩:=(by rcases ao with⟨y,_⟩|⟨z,y,A⟩;simp at y;exact⟨z,by rw[y];simp,A⟩);have a8:z.1≠7:=(by rcases cJ z (by simp[aA]) with h|h;grind;omega);have bq:z∈aA (f nt.toNat)\/bK C z:=cI z (by simp[aA]);simp only[aaX,↓uL];refine dT (by simp[eL,okT,tok,lb,cD,dC,dK]) ?_;refine jH rfl (aCO aM bF be a6<|D.len.trans ax) ?_;rintro r Y4 ⟨rfl,cB,F4⟩;refine⟨F4.len,?_⟩;have nv:∀{q:Id} {x:bY},box C q=V x->x.elem≠3\/x.var=U->q∉aA (f nt.toNat)/\q≠z:=λ{q x} v X=>(by have y:q∉aA (f nt.toNat):=λH=>(by rw[hc.ids _ H] at v;grind);grind [bK.no]);have b5:∀{q:Id} {x:bY},box C q=V x->x.elem≠3\/x.var=U->box Y4 q=V x:=λ{q x} v X=>(by obtain⟨n1,n2⟩:=nv v X;exact F4.keep _ _ (by simpa using n2)<|D.keep _ _ n1 v);simp only[aaW,u0,u1,b5 S.bx<|.inl<|by simp,aj,QW,ip,iF,↓uL];have ck:L (fk (gd s.ak nt.toNat).bk t)=L (gd s.ak nt.toNat).bk+1:=(by have:=QK (gd s.ak nt.toNat).bk t;have h0:∀{l:List Int} {t:Int},t∉l->L (fk l t)=L l+1:=(by intro l;induction l with|nil=>intro t _;rfl|cons x l ih=>intro t ht;simp only[eW,not_or] at ht;simp only[fk];split;simp[ih ht.2];grind);exact h0 bF);have bB:=awP (d:=76) (K:=Im (.m B<|L s.ak) (iv nt) (.p (7,1) 0 0) (.p (7,1) 0 0) (.m z<|L (gd s.ak nt.toNat).bk+1) o) (Nz aM) cB (F4.len.trans<|D.len.trans ax) (by omega);rw[ck] at bB;refine bB λY5 F5 cC=>?_;have b6:∀{q:Id} {x:bY},box C q=V x->x.elem≠3\/x.var=U->box Y5 q=V x:=λ{q x} v X=>F5.keep _ _ (by simpa using(nv v X).2) (b5 v X);have aJ:=b6 P (.inl<|by simp);have ch:cz 2 Y5 (.m B<|L s.ak) (iv nt)=V (.p B nt.toNat 0):=(by simp[cz,M.1,aJ,G]);simp only[Im,ch,aY,rR,aJ,df,aj,↓uL];refine Bp aJ (uU G) (x:= .m z<|L (gd s.ak nt.toNat).bk+1) rfl rfl (by simp) λY6 F6 a7=>?_;simp only[aaV,↓uL];have nL:∀{q:Id} {x:bY},box C q=V x->x.elem≠186->q≠B:=(by grind);have O:∀{q:Id} {x:bY},box C q=V x->x.elem≠3\/x.var=U->x.elem≠186->box Y6 q=V x:=λ{q x} v X hL=>F6.keep _ _ (by simpa using nL v hL)<|b6 v X;have aD:z≠B:=(by grind);have S6:Sz Y6 (lC s nt {cH s nt with bk:=mP (cH s nt).bk [t]}) (.m B<|L s.ak) a2 a3:=(by refine⟨O S.bx (.inr rfl) (by simp),⟨B,λi=>if i=nt.toNat then .m z (L (gd s.ak nt.toNat).bk+1) else f i,by simp[lC],?_,λi hi=>?_,λi j hi hj bD q v=>?_⟩,?_,?_⟩;rw[a7,Bl];simp only[lC,zq];congr 2;refine yC λi hi=>?_;by_cases h:i=nt.toNat;subst h;simp[gd,G,cH];have:gd (s.ak.set nt.toNat {cH s nt with bk:=mP (cH s nt).bk [t]}) i=gd s.ak i:=(by simp only[gd,eI];rw[oq<|λe=>h e.symm]);grind;have E:i<L s.ak:=(by simpa[lC] using hi);by_cases h:i=nt.toNat;subst h;have:(gd (lC s nt {cH s nt with bk:=mP (cH s nt).bk [t]}).ak nt.toNat).bk=fk (gd s.ak nt.toNat).bk t:=(by rw[show gd (lC s nt {cH s nt with bk:=mP (cH s nt).bk [t]}).ak nt.toNat={cH s nt with bk:=mP (cH s nt).bk [t]} from by simp[lC,gd,G]];exact Ro aM);simp only[this,↓reduceIte];refine .inr ⟨z,(fk (gd s.ak nt.toNat).bk t).map ci,by grind,F6.keep _ _ (by simpa using aD) cC,gV⟩;have:gd (lC s nt {cH s nt with bk:=mP (cH s nt).bk [t]}).ak i=gd s.ak i:=(by simp only[lC,gd,eI];rw[oq<|λe=>h e.symm]);simp only[this,bA h];have q0:∀q∈aA (f i),q∉aA (f nt.toNat)/\q≠z/\q≠B:=λq v=>(by have y:=hD i nt.toNat E G h q v;have A:=(hX i E).ids q v;refine⟨y,?_,by grind⟩;rintro rfl;rcases bq with h3|h3;exact y h3;exact h3.no _ A);exact((((hX i E).fx D λq v=>(q0 q v).1).fx F4 λq v=>by simpa using(q0 q v).2.1).fx F5 λq v=>by simpa using(q0 q v).2.1).fx F6 (λq v=>by simpa using(q0 q v).2.2)|>.x;have E:i<L s.ak:=(by simpa[lC] using hi);have aO:j<L s.ak:=(by simpa[lC] using hj);have aw:∀m,m<L s.ak->m≠nt.toNat->z∉aA (f m):=λm H bz v=>(by rcases bq with h3|h3;grind;exact h3.no _<|(hX m H).ids _ v);by_cases y:i=nt.toNat;have A:j≠nt.toNat:=(by omega);simp only[d7 y,aA,cE] at v;subst v;simp only[bA A];exact aw j aO A;simp only[bA y] at v;by_cases A:j=nt.toNat;simp only[d7 A,aA,cE];rintro rfl;exact aw i E y v;simp only[bA A];exact hD i j E aO bD q v;rcases S.g2 with h|⟨q,y,A⟩;exact .inl h;exact .inr ⟨q,y,O A (.inl<|by simp) (by simp)⟩;rcases S.g3 with h|⟨q,y,A⟩;exact .inl h;exact .inr ⟨q,y,O A (.inl<|by simp) (by simp)⟩);obtain⟨aa,r1,r2⟩:=r0;refine dT (by simp[eL,okT,tok,lb,cD,dC,dK,a8.symm]) (aq (_,0) Y6 (by simp[cU,lC,k]) S6 ⟨aa,O r1 (.inr rfl) (by simp),r2⟩);have k:=u4 k9;have M:=lk (by omega) (by omega);have G:nt.toNat<L s.ak:=qI M;obtain⟨B,f,rfl,P,hX,hD,hP⟩:=bp;have hc:=hX _ G;have be:=bd _<|ii M;have H:t∈(gd s.ak nt.toNat).bk:=(by rw[lc] at af;simp[k] at af;exact af.2);obtain⟨z,bu,a6⟩:∃z,f nt.toNat= .m z (L (gd s.ak nt.toNat).bk)/\box C z=V ⟨3,1,U,I,(gd s.ak nt.toNat).bk.map ci⟩:=(by rcases hc with⟨y,_⟩|⟨z,y,A⟩;simp at y;grind;grind);have a9:aA (f nt.toNat)=[z]:=(by rw[bu];rfl);have a8:z.1≠7:=(by grind);have ba:cz 2 C (.m B<|L s.ak) (iv nt)=V (.p B nt.toNat 0):=(by simp[cz,M.1,P,G]);have bb:lS J C (.p B nt.toNat 1)=V (f nt.toNat):=(by simp only[lS,iE,P,qd,uU G,df];rfl);simp only[ba,aY,rR,P,df,aj,bb,bu,↓uL];refine awR H a6 e3 ax (by omega) λR D cA=>?_;have nv:∀{q:Id} {x:bY},box C q=V x->x.elem≠3\/x.var=U->q≠z:=(by grind);have b0:∀{q:Id} {x:bY},box C q=V x->x.elem≠3\/x.var=U->box R q=V x:=λ{q x} v X=>D.keep _ _ (by simpa using nv v X) v;have aG:=b0 P (.inl<|by simp);have cg:cz 2 R (.m B<|L s.ak) (iv nt)=V (.p B nt.toNat 0):=(by simp[cz,M.1,aG,G]);simp only[aaZ,cg,aY,rR,aG,df,aj,↓uL];refine Bp aG (uU G) (x:= .m z<|L<|fJ (gd s.ak nt.toNat).bk t) rfl rfl (by simp) λY6 F6 a7=>?_;simp only[aaY,↓uL];have nL:∀{q:Id} {x:bY},box C q=V x->x.elem≠186->q≠B:=(by grind);have O:∀{q:Id} {x:bY},box C q=V x->x.elem≠3\/x.var=U->x.elem≠186->box Y6 q=V x:=λ{q x} v X hL=>F6.keep _ _ (by simpa using nL v hL)<|b0 v X;have aD:z≠B:=(by grind);have S6:Sz Y6 (lC s nt {cH s nt with bk:=fJ (cH s nt).bk t}) (.m B<|L s.ak) a2 a3:=(by refine⟨O S.bx (.inr rfl) (by simp),⟨B,λi=>if i=nt.toNat then .m z (L<|fJ (gd s.ak nt.toNat).bk t) else f i,by simp[lC],?_,λi hi=>?_,λi j hi hj bD q v=>?_⟩,?_,?_⟩;rw[a7,Bl];simp only[lC,zq];congr 2;refine yC λi hi=>?_;by_cases h:i=nt.toNat;subst h;simp[gd,G,cH];have:gd (s.ak.set nt.toNat {cH s nt with bk:=fJ (cH s nt).bk t}) i=gd s.ak i:=(by simp only[gd,eI];rw[oq<|λe=>h e.symm]);grind;have E:i<L s.ak:=(by simpa[lC] using hi);by_cases h:i=nt.toNat;subst h;have:(gd (lC s nt {cH s nt with bk:=fJ (cH s nt).bk t}).ak nt.toNat).bk=fJ (gd s.ak nt.toNat).bk t:=(by simp[lC,gd,G,cH]);simp only[this,↓reduceIte];refine .inr ⟨z,_,by simp,F6.keep _ _ (by simpa using aD) cA,?_⟩;simp;have:gd (lC s nt {cH s nt with bk:=fJ (cH s nt).bk t}).ak i=gd s.ak i:=(by simp only[lC,gd,eI];rw[oq<|λe=>h e.symm]);simp only[this,bA h];have q0:∀q∈aA (f i),q≠z/\q≠B:=λq v=>(by have y:=hD i nt.toNat E G h q v;rw[a9] at y;have A:=(hX i E).ids q v;grind);exact(((hX i E).fx D<|by grind).fx F6<|λq v=>by simpa using(q0 q v).2).x;have E:i<L s.ak:=(by simpa[lC] using hi);have aO:j<L s.ak:=(by simpa[lC] using hj);have aw:∀m,m<L s.ak->m≠nt.toNat->z∉aA (f m):=λm H bz v=>hD m nt.toNat H G bz _ v (by grind);by_cases y:i=nt.toNat;have A:j≠nt.toNat:=(by omega);simp only[d7 y,aA,cE] at v;subst v;simp only[bA A];exact aw j aO A;simp only[bA y] at v;by_cases A:j=nt.toNat;simp only[d7 A,aA,cE];rintro rfl;exact aw i E y v;grind;rcases S.g2 with h|⟨q,y,A⟩;exact .inl h;exact .inr ⟨q,y,O A (.inl<|by simp) (by simp)⟩;rcases S.g3 with h|⟨q,y,A⟩;exact .inl h;exact .inr ⟨q,y,O A (.inl<|by simp) (by simp)⟩);obtain⟨aa,r1,r2⟩:=r0;refine dT (by simp[eL,okT,tok,lb,cD,dC,pP,dK,a8.symm]) (aq (_,0) Y6 (by simp[cU,lC,k]) S6 ⟨aa,O r1 (.inr rfl) (by simp),r2⟩);have k:=u4 bI;exact S.tx (by grind [cU]);have k:=u4 bM;exact S.tx (by grind [cU]);have k:=u4 bO;exact S.th ag (by decide) {fA s t with atomic:=U} rfl (by grind [cU]);have k:=u4 bP;exact S.th ag (by decide) {fA s t with atomic:=I} rfl (by grind [cU]);have k:=u4 bS;have T:=cd (by omega) (by omega);simp only[rk,ix,u0,u1,↓uL];refine⟨T,?_⟩;refine S.lk (K:=λ_ _ Y=>Ik (.p (7,1) 0 0) (.p (8,1) 0 0) (iv nt) o Y) (mI T) λb Y' F' N a9=>?_;have n:=S.no e3 rfl (by simp);have a4:=F'.keep _ _ n.1 e3;simp only[Ik,u0,u1,N.bx,a4,aj,Bk,iF,ip,↓uL];refine N.th (by grind [lC]) (by decide) {fA s t with cQ:=3} rfl λb3 R D S3 aL=>?_;simp only[aaO,↓uL];refine S3.th (by grind [lC,ni]) (by decide) {fA s t with cQ:=3,cond:=nt} (by simp only[ni,lC];rw[Af ag];rfl) λb4 Y4 F4 S4 cf=>?_;simp only[aa0,↓uL];refine dT ?_ (aq (_,0) Y4 ?_ S4<|rK S3 (rK N (rK S r0 F'<|by simp) D<|by simp) F4<|by simp);have:=bG b3 (by rw[aL];simp);simp[eL,okT,tok,lb,cD,dC,dK,this.1.symm,this.2.symm];simp[cU,k,ni,lC];have k:=u4 bT;have T:=cd (by omega) (by omega);simp only[rk,ix,u0,u1,↓uL];refine⟨T,?_⟩;refine S.lk (K:=λ_ _ Y=>Il (.p (7,1) 0 0) (.p (8,1) 0 0) o Y) (mI T) λb Y' F' N a9=>?_;have n:=S.no e3 rfl (by simp);have a4:=F'.keep _ _ n.1 e3;simp only[Il,u0,u1,N.bx,a4,aj,Bk,iF,ip,↓uL];refine N.th (by grind [lC]) (by decide) {fA s t with cQ:=2} rfl λb3 R D S3 aL=>?_;simp only[aaQ,↓uL];refine S3.th (by grind [lC,ni]) (by decide) {fA s t with cQ:=2,cond:=0} (by simp only[ni,lC];rw[Af ag];rfl) λb4 Y4 F4 S4 cf=>?_;simp only[aaP,↓uL];refine dT ?_ (aq (_,0) Y4 ?_ S4<|rK S3 (rK N (rK S r0 F'<|by simp) D<|by simp) F4<|by simp);have:=bG b3 (by rw[aL];simp);simp[eL,okT,tok,lb,cD,dC,dK,this.1.symm,this.2.symm];simp[cU,k,ni,lC];have k:=u4 bU;simp only[uS,aY,↓uL];refine jH rfl (aCD s nt lD ax bH S.g3) ?_;rintro r R ⟨rfl,ao,D⟩;have dv:∀x:aW,x.ak=s.ak->x.tx=s.tx->x.done=s.done->bc R 85 3 a3 (x.ay.map kw.c)->Sz R x a1 a2 a3:=λx q1 q2 q3 q4=>(by have n:=S.no S.bx rfl (by simp);refine⟨by grind [Fx.keep,Sz.bx],by rw[q1];exact S.g1.fx D λk W=> .inl ⟨_,S.g3.ids k W, .inr ⟨rfl,by simp⟩⟩,?_,q4⟩;rw[q3];exact S.g2.fx D λk W H=>by have y:=S.g2.ids _ W;rw[S.g3.ids _ H] at y;cases y);refine⟨D.len,?_⟩;by_cases hw:fO s nt=[];have hc:gH s nt lD (L s.ay)= -1:=(by rw[gH];exact d7 hw);grind [cU];have hc:gH s nt lD (L s.ay)=tD s nt lD:=(by rw[gH];exact bA hw);have h0:0<=tD s nt lD:=(by rw[<-hc,gH,bA<|show¬eh s nt (L s.ay)=[] from hw];split;grind [AN];exact(Li hw).1);grind [cU,ni,tD,fA];have k:=u4 bV;simp only[uS,aY,↓uL];refine jH rfl (aCE s nt ax bH S.g3) ?_;rintro r R ⟨rfl,ao,D⟩;have n:=S.no S.bx rfl (by simp);have H:∀(l:List Int) (s:aW),(mH s l).ak=s.ak/\(mH s l).tx=s.tx/\(mH s l).done=s.done:=(by intro l;induction l with|nil=>simp|cons u l ih=>grind [ni]);obtain⟨q1,q2,q3⟩:=H (fO s nt) s;refine⟨D.len,?_⟩;refine aq (mH s<|fO s nt,L<|fO s nt) R (by simp[cU,k]) ⟨?_,?_,?_,ao⟩ (rK S r0 D<|by simp);grind [Fx.keep,Sz.bx];rw[q1];exact S.g1.fx D λk W=> .inl ⟨_,S.g3.ids k W, .inr ⟨rfl,by simp⟩⟩;rw[q3];exact S.g2.fx D λk W H=>(by have y:=S.g2.ids _ W;rw[S.g3.ids _ H] at y;cases y);have k:=u4 bW;exact S.th (by grind) (by decide) {fA s nt with cQ:=1} rfl (by grind [cU]);have k:=u4 bX;exact S.dn (by grind) (by grind [cU]);grind [cP,decide_eq_false_iff_not,cU];rintro vs Y' ⟨rfl,N,aa,r1,r2⟩;have dx:(7:Nat)≠12:=(by decide);simp only[CP,aI,u0,u1,N.bx,aj,uS,↓uL];refine cy (cs:=[a1,iv (cU w s t kind nt lD).1.tx,a2,a3]) r1 rfl rfl (by omega) λad aV du=>?_;have cr:box ad (12,Z)=V ⟨36,4,U,U,[[a1,iv (cU w s t kind nt lD).1.tx,a2,a3]]⟩:=(by simp_all);have n:=N.no r1 rfl (by simp);have y:=N.g1.fx aV (by simp_all);have A:=N.g2.fx aV (by grind);have h3:=N.g3.fx aV (by grind);simp only[aco,u0,u1,cr,aj,uS,au,↓uL];obtain⟨t2,o2,q2⟩:=A.frD;obtain⟨t3,o3,q3⟩:=h3.frD;have hr:jS ad [.a [a1,iv (cU w s t kind nt lD).1.tx,a2,a3],iv (cU w s t kind nt lD).2,bv U]= .t [.a<|eD (cU w s t kind nt lD).1 (I,U,t2,o2,t3,o3),iv (cU w s t kind nt lD).2,bv U]:=(by show AV.t [.a [dQ ad a1,dQ ad<|iv (cU w s t kind nt lD).1.tx,dQ ad a2,dQ ad a3],_,_]=_;rw[y.fr,q2,q3];rfl);unfold aE;rw[hr];exact⟨rfl,_,rfl⟩
def BT:FT:=BL Ou
def ayr{w s t kind nt lD Lw K}:=al4 BT Ou w s t kind nt lD Lw K
def aYa:dO:=(130,BT)::Rm
def Bv:eJ aYa:=it (apO Ou)<|ape
def rX:=ai @ayr<|@aml
abbrev bnE:List AV:=[.l [] I I,iv 0,.l [] I I,.l [] I I]
abbrev baF:List AV:=[.l [] U U,.l [] U U,.l [] U U,.l [] U U,.l [] U U,.l [] U U,iv 0,.l [] U U,iv 0,.l [] U U,.l [] U U,.l [] U U,.l [] U U,.l [] U U,.l [] U U,.l [] U U]
def ath:=bi 22 [(8,([32],[1,2,4,5,30,31])),(15,([8],[1,2,4,5,7,30,31,32]))]
def Zu a(e:aG)(b:bu) f c:=aV (gt a 0) (iv 1) λd=>e [d] c/\b [d] c<b a f
def Zv i n t3 R c d e f g h a:=cf i λj=>ah j (aw 16 a n λk=>sV (aK 16 a t3 k) λb=>aw 16 b t3 λl=>aE R b [l,bv I]) (aw 4 a c λm=>sV (aK 4 a d m)<|Zu e f g h)
def Ic a t d b u t3 R f h i j g:=Rg->aB 0 a t λl=>aw 6 a l λm=>aw 4 a d λn=>ab 0 a b λo=>ab 1 a b λp=>ab 2 a b λq=>fV BT a [m,n,o,p,q,gt g 0] λe=>rV (eO 0 e) λr=>rV (eO 1 e) λv=>rV (eO 2 e) λs=>eV (bs 36 aNC a 9) λc k=>sV (aK 4 k c r)<|Zv s u t3 R c d f h i j
def ZD c a(b:cG):=ab 1 c a λd=>bf d (iv 18) λe=>ah e (ab 3 c a λf=>b [f])<|b [iv<|-1]
def Zw h c a i t3 R d e f g b:=jR 15 (Ic b h c a i t3 R d e f g)<|ZD b a
def Zx b k d c t3 R e f g h i a:=aB 15 a b λj=>sV (aK 1 a j i)<|Zw k d c b t3 R e f g h
def Zy c b m d t3 R e f g h a:=ab 15 a c λj=>aw 4 a b λk=>eV (aX bnE 1 a [(0,k)]) λl i=>eV (cj 36 aNC 80 i 40 j l)<|Zx c m b d t3 R e f g h
def ZE k j e f q t3 R g h b a:=Rg->aU (gt b 0) k λl=>ah l (ao 7 a j (gt b 0) λm=>aw 7 a m λn=>eV (bs 87 NY a 7) λc i=>sV (aK 7 i c n)<|Zy e f q c t3 R b g h a) (aw 16 a e λo=>sV (aK 16 a t3 o) λd=>aw 16 d t3 λp=>aE R d [p,bv U])
def Zz c f d t3 R a:=ab 14 a c λb=>aJ a b λe=>lV [iv 0] a<|ZE e b f d c t3 R
def ZA c f t3 R a:=ab 14 a c λh=>aJ a h λi=>aO .gtr i (iv 16) λb=>aC b (aB 0 a c) λj=>bn b 4 a j λk=>aC b (aJ a k) λl=>aC b (aO .gtr l<|iv 4) λm=>aD b (bv U) m λn=>ah n (aw 16 a f λo=>sV (aK 16 a t3 o) λe=>aw 16 e t3 λp=>aE R e [p,bv I]) (aB 7 a c λq=>aB 0 a q λr=>aw 4 a r λs=>eV (bs 36 aNC a 5) λd g=>sV (aK 4 g d s)<|Zz c f d t3 R)
def ZC a R t3 c:=aw 15 c a λe=>rV (bM baF [(0,15),(15,1)] [(0,e)]) λf=>eV (bs 174 baF c 4) λb d=>sV (aK 16 d b f)<|ZA a b t3 R
def Zt a b R:=eV (bs 174 baF b 2)<|ZC a R
def aKI{b:List AV}{R:o8}(l0:L b=15)(h:H1 43 15 1 b λc d=>Zt c d R):Ct 96 [.a b] R:=z1 ath Bv Tryz.func96 l0 h
def atm:=bi 23 [(6,([25],[1,2,23,24])),(15,([53],[1,2,6,23,24,25,51,52]))]
def ZX m a l h k R c(i:cG)(d:fD)(j:cG)(e:fD) b:=Rg->aU (gt b 0) m λn=>ah n (ao 1 a l (gt b 0) λo=>aM a o λp=>aB 0 a h λq=>ab 14 a q λr=>ao 7 a r k λs=>ab 0 a s λt=>aB 0 a h λu=>ab 14 a u λv=>ao 7 a v p λw=>ab 0 a w λx=>bf t x λy=>ah y (aE R a [bv I])<|aV (gt b 0) (iv 1) λf=>j [f]/\e [f]<e b) (aV (gt c 0) (iv 1) λg=>i [g]/\d [g]<d c)
def ZY j b d g R h i c:=Rg->aU (gt c 0) j λk=>ah k (ao 1 b d (gt c 0) λl=>aM b l λe=>ao 1 b d (iv 0) λm=>aM b m λn=>aU e n λa=>aC a (aw 16 b g) λo=>bX a d λp=>bX a (gt c 0) λq=>aC a (aV q<|iv 1) λr=>bX a d λs=>aC a (aJ b s) λt=>aC a (aO .rem r t) λu=>aC a (ao 1 b p u) λv=>aC a (aM b v) λw=>bX a e λx=>aC a (fV E8 b [o,w,x]) λy=>aC a (cf y) λz=>aD a (bv U) z λA=>ah A (aE R b [bv I])<|rV (fo 1 b d J (V<|gt c 0) J) λf=>aJ b f λB=>lR [iv 0]<|ZX B b f g e R c h i)<|aE R b [bv U]
def ZW d c b R:=aJ b c λt3=>aU t3 (iv 2) λt4=>bX t4 c λl=>aC t4 (aJ b l) λm=>aC t4 (aO .gtr m<|iv 4) λe=>aD t4 (bv U) e λa=>aC a (aw 16 b d) λf=>bX a c λg=>aC a (fV wZ b [f,g]) λh=>aC a (cf h) λi=>aD a (bv U) i λj=>ah j (aE R b [bv I]) (aJ b c λk=>lR [iv 0]<|ZY k b c d R)
def aKN{b:List AV}{c:AV}{R:o8}(l0:L b=16)(h:H1 174 16 2 b λd e=>ZW d c e R):Ct 154 [.a b,c] R:=z1 atm Bv Tryz.func154 l0 h
theorem awz{w:am}{f e:Int}(h:aOj w f e=U):wW (gd w.ac e.toNat).kind=U:=by grind [aOj,wW,decide,gd]
def Ds(l:List Int):cJ:=⟨2,0,0,0,0,l⟩
def Od(x:jY)(l:List Int)(B:nK x/\qx x.w (Ds l)=U):Ct 154 [.a x.c,sl ci l] (·=bv U):=by refine aKN rfl λC P u H=>?_;obtain⟨z,s⟩:=B;have D:=z.wo.ev;have n:box C (2,1)=V ⟨174,16,U,U,[x.w.c++[sl aW.c x.ss]]⟩:=u;simp only[qx,bN,eH,j1] at s;obtain⟨K,t,f⟩:=s;have e:(Ds l).cW=l:=rfl;have F:2<=L l/\L l<=4:=(by grind [rO,cP,decide_eq_false_iff_not]);rw[e] at t f;have A:∀j,j<L l->aF (L x.w.ac) (gd l j):=(by grind [dX]);have o:(l.all λi=>dh i<|L x.w.ac)=U:=(by grind [dV,List.mem_iff_getElem,bT]);have z1:¬((L l:Int)<2):=(by omega);have z2:¬((4:Int)<L l):=(by omega);have d:aN (V 16) (x.w.c++[sl aW.c x.ss])=V (.a x.c):=rfl;simp+contextual only[ZW,u0,u1,n,kj,d,rk,ix,aj,z1,z2,aNK,kz,lG,eE,vm,NR,bR,ar,sG,rX,o,fh,↓uL];refine⟨by omega,?_⟩;refine C7 (L l) (λk=>True) trivial λk O N=>?_;have q:wl .rem 0 [] (iv<|dq.wrap<|(k:Int)+1) (iv<|L l)=V (iv (((k+1)%L l:Nat):Int)):=(by rw[fX<|by omega];exact aod<|by omega);have p:(k+1)%L l<L l:=Nat.mod_lt _ (by omega);simp+contextual only[ZY,u0,u1,n,kj,d,rk,ix,aj,ar,sG,rX,bh,Gx,q,cT,↓uL];refine⟨λr=>?_,λr=>trivial⟩;have g:=aL r;obtain⟨y,M⟩:=f k g;have b:=y;simp only[rN,cP,fK,e,alP] at b;have G:wW (gd x.w.ac (gd l<|(k+1)%L l).toNat).kind=U:=(by grind [rN,cP,fK,awz]);simp+contextual only[b.1,b.2,eE,vm,NR,fh,kz,lG,bR,aov,cT,u0,u1,↓uL];refine⟨dJ g,⟨by omega,by omega⟩,dJ p,(by simp_all),(by omega),?_⟩;have h:L (l.take k)=k:=(by simp_all);rw[bh,h];refine C7 k (λm=>True) trivial λm R _=>?_;simp+contextual only[ZX,u0,u1,n,kj,d,rk,ix,aj,bh,cT,h,↓uL];refine⟨λv=>?_,by grind [gS]⟩;have E:=aL v;grind [gd,bT,sP,dJ,gS]
def Fb:FT:=aIc Od
def ayf{x l Lw K}:=gX Fb Od x l Lw K (j:=by simp+contextual only[ij,j9])
structure kQ(n:Nat)(s:aW):Prop where
 lo:L s.ak<=4
 dn:L s.done<=2
 th:L s.ay<=4
 rd:∀l∈s.ak,jC l.bk/\∀x∈l.bk,aF n x
def aB2{l:List Int}{n:Nat}(h:jC l)(b:∀x∈l,aF n x):∀i:Nat,i<L l->(i:Int)<=gd l i:=by intro i;induction i with|zero=>intro a;exact(b _<|dB a).1|succ i c=>intro a;have:=h i a;omega
def AC{l:List Int}{n:Nat}(h:jC l)(a:∀x∈l,aF n x):L l<=n:=by rcases oD (L l) with b|b;omega;have c:=aB2 h a (L l-1) (by omega);have d:=(a _<|dB<|show L l-1<L l by omega).2;omega
structure vL(w:am):Prop where
 wo:kB w
 th:L w.aQ.ay<=4
 sy:∀k:Nat,k<L w.ac->kQ (L w.aQ.ay) (cY w k).bm
def awH{ds:List AV}{s:aW}{Y:ae}(h:Lk ds s.c):aX bnE 1 Y [(0, .a ds)]=V (.l [s.c] U U,Y):=by unfold aX;simp only[ji,mU,Cz,RN,cL,show nrm (eR Y<|.a ds)= .a s.c from h.arg Y,x9 h];rfl
def aDi{s:aW}{f:Bool×Bool×Bool×Bool×Bool×Bool}:Lk (eD s f) s.c:=⟨rfl,rfl⟩
def aQv(w:am)(k:Nat):List aW:=(aH k).map λj=>(cY w j).bm
def aIv{w:am}{k:Nat}:aQv w (k+1)=aQv w k++[(cY w k).bm]:=by rw[aQv,qn,dg];rfl
theorem aIu{w:am}{k:Nat}:L (aQv w k)=k:=by simp[aQv]
def Kk{w:am}(h:vL w){k:Nat}(c:k<L w.ac):jm w.aQ (cY w k).bm (gd w.ac k).aq (gd w.ac k).kind (gd w.ac k).nt=U/\L w.aQ.bC<=2/\(∀l∈(cY w k).bm.ak,L l.bk<12)/\(∀l∈(cY w k).bm.ak,jC l.bk)/\L (cY w k).bm.ak<1000/\L (cY w k).bm.done<1000/\L (cY w k).bm.ay<1000:=by have d:=(h.wo.en k c).2;have a:=h.sy k c;have:=h.th;have:=a.lo;have:=a.dn;have:=a.th;refine⟨?_,h.wo.co,λl b=>by have:=AC (a.rd l b).1 (a.rd l b).2;omega,λl b=>(a.rd l b).1,by omega,by omega,by omega⟩;grind [C1,aOL,eH,cP,fK]
def aoF{w:am}(h:vL w){k:Nat}(a:k<L w.ac):(cY w<|k+1).bm=(cU w.aQ (cY w k).bm (gd w.ac k).aq (gd w.ac k).kind (gd w.ac k).nt<|og<|gd w.ac k).1:=by have b:=(h.wo.en k a).2;grind [cY,nD,oc]
def NX(w:am)(K:vL w):Ct 96 [.a w.c] (λr=>∃f o,r= .t [.a<|w.c++[.l ((aQv w<|L w.ac).map aW.c) f o],bv U]):=by refine aKI rfl λs2 z b1 h0=>?_;have bq:=K.wo.ev;have bs:=K.th;have z1:¬((16:Int)<L w.ac):=(by omega);have z2:¬((4:Int)<L w.aQ.ay):=(by omega);simp only[Zt,↓uL];refine mo z λs3 u b3=>?_;have c1:box s3 (1,1)=_:=u.bt b1;have z7:aN (V 15) w.c=V (.a w.c):=rfl;have aP:bM baF [(0,15),(15,1)] [(0, .a w.c)]=V (.a<|w.c++[.l [] U U]):=rfl;simp only[ZC,u0,u1,c1,z7,aP,aY,↓uL];refine mo (u.1.trans z) λX N ap=>?_;have aq:box X (4,(aZ s3 4).lB+1)=V ⟨174,16,U,U,[baF]⟩:=ap;have aR:L (w.c++[AV.l [] U U])=16:=(by simp[am.c,br.c,mn.c,aW.c]);have R:L (baF)=16:=rfl;have aU:4<L X:=(by rw[N.1,u.1,z];decide);refine gN aq aU R aR λs4 al b4=>?_;have D:=N.trans al;have d1:box s4 (1,1)=_:=D.bt c1;have d3:box s4 (2,_)=_:=D.bt b3;simp+contextual only[ZA,u0,u1,d1,rk,aj,Nat.add_zero,z1,z2,aNK,kz,lG,eE,vm,NR,bR,↓uL];refine eF rfl rfl (by decide) (by rw[D.1,u.1,z];decide) λC E b5=>?_;have e1:box C (1,1)=_:=E.bt d1;have e3:box C (2,_)=_:=E.bt d3;have e4:box C (4,_)=_:=E.bt b4;simp only[Zz,u0,u1,e1,rk,aj,↓uL];generalize bu:(aZ s2 2).lB+1=v2 at e3⊢;generalize bw:(aZ s3 4).lB+1=m at e4⊢;generalize bx:(aZ s4 5).lB+1=s at b5⊢;have l5:L C=4096:=(by rw[E.1,D.1,u.1,z]);refine⟨λvs Y=>∃(k:Nat) (a:AV) (ds:List AV),vs=[iv k]/\k<=L w.ac/\Lk ds (cY w k).bm.c/\box Y (5,s)=V ⟨36,4,U,U,[ds]⟩/\box Y (4,m)=V ⟨174,16,U,U,[w.c++[a]]⟩/\Gr Y [40] 36 4 a ((aQv w k).map aW.c)/\Fr C Y [4,5,7,9,40],fM<|L w.ac,⟨0,_,_,rfl,Nat.zero_le _,⟨rfl,rfl⟩,b5,e4,Gr.nil,Fr.refl _ _⟩,?_⟩;rintro vs Y ⟨k,a,ds,rfl,hk,H,aO,O,hG,G⟩;have f1:box Y (1,1)=_:=G.bt e1;have f3:box Y (2,v2)=_:=G.bt e3;have A:L Y=4096:=(by rw[G.1,l5]);have aT:L ds=4:=(by have:=aOe L H.1;grind [aW.c]);have W:aN (V 4) ds=V (.a ds):=(by show(if 4<=L ds then V (AV.a<|ds.take 4) else J)=_;grind);have T:aN (V 16) (w.c++[a])=V (.a<|w.c++[a]):=rfl;simp only[ZE,aI,u0,u1,au,f1,rk,ix,aj,bh,↓uL];refine⟨λZ=>⟨vp Z,?_⟩,λZ=>?_⟩;have B:=aL Z;refine eF rfl rfl (by decide) (by omega) λq b b7=>?_;have g1:box q (1,1)=_:=b.bt f1;have g4:box q (4,m)=_:=b.bt O;have g5:box q (5,s)=_:=b.bt aO;have G1:=hG.fr b (by decide);generalize bz:(aZ Y 7).lB+1=v7 at b7⊢;simp only[Zy,u0,u1,g4,g5,kj,W,aj,awH H,bQ,↓uL];refine fP (new:=[(cY w k).bm.c]) G1 rfl (by decide) (by decide) (by rw[b.1,A];decide) (by intro r M;obtain⟨y,_,rfl⟩:=dN.1 M;rfl) (by intro r M;simp at M;subst M;rfl) (by grind [bJ,aIu,bZ,vw]) λa' F G2 i=>?_;have h1:box F (1,1)=_:=i.bt g1;have h4:box F (4,m)=_:=i.bt g4;have h5:box F (5,s)=_:=i.bt g5;have h7:box F (7,v7)=_:=i.bt b7;simp only[Zx,u0,u1,h4,aj,↓uL];have ab:15<L (w.c++[a]):=(by grind);refine Ev h4 (by rw[i.1,b.1,A];decide) (uc G2) ab λj d i4=>?_;have aX:box j (4,m)=V ⟨174,16,U,U,[w.c++[a']]⟩:=i4;have i1:box j (1,1)=_:=d.bt h1;have i5:box j (5,s)=_:=d.bt h5;have i7:box j (7,v7)=_:=d.bt h7;have G3:=G2.fr d (by decide);have l3:L j=4096:=(by rw[d.1,i.1,b.1,A]);simp only[Zw,↓uL];simp+contextual only[f8,ZD,u0,u1,i7,rk,aj,↓uL];suffices hj:Ic j (.p (1,1) 0 0) (.p (5,s) 0 0) (.p (7,v7) 0 0) (.p (4,m) 0 0) (.p (2,v2) 0 0) _ [iv k] _ _ Y [iv<|og<|gd w.ac k] from(by refine⟨λh=>?_,λh=>?_⟩;simp only[j1] at h;rw[og,d7 h] at hj;exact hj;simp only[sA] at h;rw[og,bA h] at hj;exact hj);simp only[Ic,aI,au,u0,u1,i1,i5,i7,W,rk,aj,↓uL];simp only[jM,kU,jt,zN,tW,H.arg,rX];refine⟨Kk K B,?_⟩;rintro r ⟨f,rfl⟩;refine⟨.inl ?_,?_⟩;simp only[nA,List.any_cons,List.any_nil,x9 H];rfl;rw[<-aoF K B];simp only[oJ,pG,KM,aY,↓uL];refine mo l3 λY4 e b9=>?_;generalize bB:(aZ j 9).lB+1=v9 at b9⊢;have S:Lk (eD (cY w<|k+1).bm f) (cY w<|k+1).bm.c:=aDi;generalize P:eD (cY w<|k+1).bm f=n at S⊢;have x:L n=4:=(by rw[<-P];rfl);have af:aN (V 4) n=V (.a n):=(by rw[<-P];rfl);refine gN b9 (by rw[e.1,l3];decide) rfl x λY5 g ax=>?_;have j5:box Y5 (5,s)=_:=g.bt<|e.bt i5;have j4:box Y5 (4,m)=_:=g.bt<|e.bt aX;simp+contextual only[Zv,u0,u1,ax,af,fh,eE,vm,NR,bR,↓uL];refine gN j5 (by rw[g.1,e.1,l3];decide) aT x λY6 v k5=>?_;have k4:box Y6 (4,m)=_:=v.bt j4;simp only[Zu,au,cS,aY,↓uL];rw[fX<|by omega];refine⟨⟨k+1,a',n,rfl,B,S,k5,k4,?_,?_⟩,?_⟩;rw[aIv,dg];exact((G3.fr e<|by decide).fr g<|by decide).fr v (by decide);exact(((((G.trans<|b.mono<|by decide).trans<|i.mono<|by decide).trans<|d.mono<|by decide).trans<|e.mono<|by decide).trans<|g.mono<|by decide).trans (v.mono<|by decide);grind [fM,cM,bh];have aV:k=L w.ac:=(by grind);subst aV;simp only[O,T,u0,u1,↓uL];have aa:L (w.c++[a])=16:=(by grind);refine gN f3 (by omega) R aa λq b b2=>?_;simp only[b2,T,u0,u1,↓uL];obtain⟨f,o,hf⟩:=sU (hG.fr b<|by decide);have ad:jS q [.a<|w.c++[a],bv U]= .t [.a<|w.c++[.l ((aQv w<|L w.ac).map aW.c) f o],bv U]:=(by show AV.t [.a<|(w.c++[a]).map<|dQ q,bv U]=_;rw[dg];simp only[ji,mU,hf];rfl);unfold aE;rw[ad];exact⟨rfl,_,_,rfl⟩
def E6:FT:=om NX
def aya{w Lw K}:=qz E6 NX w Lw K (j:=by simp+contextual only[ij,j9])
def apo:dO:=(154,Fb)::(96,E6)::aYa
def Rf:eJ apo:=it (aCb Od)<|it (rj NX)<|Bv
def Ac:=ai @ayf<|ai @aya<|@rX
def zE g b a R:=ab 0 a b λr=>bf r (iv 1) λt7=>ah t7 (ab 3 a b λt9=>bf t9 (iv 0) λn=>aT n 4 a b λal=>az n (bf al<|iv 0) λam=>aD n am (bv I) λl=>aT l 5 a b λan=>az l (aJ a an) λao=>az l (bf ao<|iv 0) λap=>aD l ap (bv I) λj=>az j (aw 16 a g) λaq=>aT j 1 a b λar=>aT j 2 a b λau=>az j (fV Ff a [aq,ar,au]) λav=>aD j av (bv I) λax=>aE R a [ax]) (bf r (iv 2) λay=>ah ay (ab 1 a b λaA=>bf aA (iv 0) λo=>aT o 2 a b λaB=>az o (bf aB<|iv 0) λaC=>aD o aC (bv I) λp=>aT p 3 a b λaF=>az p (bf aF<|iv 0) λaG=>aD p aG (bv I) λq=>aT q 4 a b λaI=>az q (bf aI<|iv 0) λaK=>aD q aK (bv I) λm=>az m (aw 16 a g) λaL=>aT m 5 a b λaM=>az m (fV Fb a [aL,aM]) λaN=>aD m aN (bv I) λaO=>aE R a [aO])<|bf r (iv 3) λu=>ah u (ab 3 a b λv=>bf v (iv 0) λk=>aT k 4 a b λw=>az k (bf w<|iv 0) λx=>aD k x (bv I) λh=>aT h 5 a b λy=>az h (aJ a y) λz=>az h (bf z<|iv 0) λA=>aD h A (bv I) λe=>az e (aw 16 a g) λB=>aT e 1 a b λC=>aT e 2 a b λD=>az e (fV Fc a [B,C,D]) λE=>aD e E (bv I) λF=>aE R a [F])<|bf r (iv 4) λG=>ah G (ab 5 a b λH=>aJ a H λK=>bf K (iv 0) λd=>az d (aw 16 a g) λM=>aT d 1 a b λN=>aT d 2 a b λO=>aT d 3 a b λP=>aT d 4 a b λS=>gE (gP U d) (λs=>eV (aX bH 4 a [(0,N),(1,O),(2,P),(3,S)]) λT t=>s T t) a λW c=>az d (fV wZ c [M,W]) λX=>aD d X (bv I) λf=>az f (aw 16 c g) λZ=>aT f 1 c b λaa=>aT f 2 c b λac=>az f (fV E7 c [Z,aa,ac]) λad=>aD f ad (bv I) λi=>az i (aw 16 c g) λae=>az i (aw 6 c b) λaf=>az i (fV E9 c [ae,af]) λag=>aD i ag (bv I) λak=>aE R c [ak])<|aE R a [bv I])
def aKQ{b:List AV}{c:List AV}{R:o8}(l0:L b=16)(l1:L c=6)(h:H2 174 16 2 b 46 6 3 c λd e f=>zE d e f R):Ct 97 [.a b, .a c] R:=z2 atB Rf Tryz.func97 l0 l1 h
def Lg{A:(be)->Prop}{Y:ae}{K:be}:gF U A Y K=A K:=rfl
def Og(x:jY)(g:cJ)(S:nK x/\qC x.w g=U):Ct 97 [.a x.c, .a g.c] (·=bv U):=by refine aKQ rfl rfl λs4 hl P l h0=>?_;obtain⟨n,b⟩:=S;have m:box s4 (2,1)=V ⟨174,16,U,U,[x.w.c++[sl aW.c x.ss]]⟩:=P;have e:aN (V 16) (x.w.c++[sl aW.c x.ss])=V (.a x.c):=rfl;simp only[qC] at b;(cases f:Q<|g.kind=2);simp only[f,aoC,bN] at b;obtain⟨⟨T,W,X,Z⟩,b⟩:=b;have t:=dX.1 T;have u:=dX.1 W;have F:=dX.1 X;have G:=dX.1 Z;(cases d:Q<|g.kind=1);simp only[d,aoC] at b;(cases p:Q<|g.kind=3);simp only[p,aoC] at b;(cases y:Q<|g.kind=4);simp only[y,aoC] at b;cases b;simp only[y,vb,tZ,zR,vQ,bN,eH,cP,sA,j1,fK,aNS] at b;obtain⟨⟨⟨h,j⟩,q⟩,⟨⟨⟨⟨r,N⟩,O⟩,y7⟩,y8⟩,y9,K⟩:=b;have H:((L g.cW:Int)=0):=(by omega);have A:([g.ea,g.eb,g.ec,g.ed].all λi=>dh i<|L x.w.ac)=U:=(by simp_all);have v:nK x/\aF (L x.w.ac) g.ea/\aF (L x.w.ac) g.eb/\g.ea<g.eb/\(gd x.w.ac g.eb.toNat).aq=(gd x.w.ac g.ea.toNat).aq/\(gd (cY x.w g.ea.toNat).bm.ay (gd x.w.ac g.ea.toNat).aq.toNat).atomic=U/\(∀k,k<g.eb.toNat->g.ea.toNat<=k->((gd x.w.ac k).aq≠(gd x.w.ac g.ea.toNat).aq\/(gd x.w.ac k).kind≠15)):=(by simp_all);have hC:kB x.w/\aF (L x.w.ac) g.ea/\aF (L x.w.ac) g.eb/\aF (L x.w.ac) g.ec/\aF (L x.w.ac) g.ed/\g.ec<=g.ed/\(rP x.w g).aq=(xI x.w g).aq/\(rP x.w g).aq≠(jn x.w g).aq/\nh (jn x.w g) (rP x.w g)=U/\nh (xI x.w g) (mB x.w g)=U:=(by grind [nK.wo]);simp+contextual only[zE,u0,u1,m,l,e,kj,rk,aj,d,f,p,y,H,vR,Lg,aNV,iw,ru,ar,sG,Ac,A,n,n.wo,t,u,F,G,sr,eE,vm,NR,bR,↓uL];grind;simp only[p,vb,wz,tm,bN,eH,cP,sA,j1,fH,aNS,Bool.and_eq_false_imp] at b;obtain⟨⟨⟨⟨⟨⟨⟨⟨h,j⟩,q⟩,r⟩,N⟩,O⟩,y7⟩,y8⟩,y9,K,ag⟩:=b;have M:((L g.cW:Int)=0):=(by omega);have hL:nK x/\aF (L x.w.ac) g.ea/\aF (L x.w.ac) g.eb/\g.eb<g.ea/\((gd x.w.ac g.ea.toNat).kind=18\/(gd x.w.ac g.ea.toNat).kind=19)/\(gd x.w.ac g.eb.toNat).kind=16/\(gd x.w.ac g.ea.toNat).nt=(gd x.w.ac g.eb.toNat).nt/\(gd x.w.ac g.ea.toNat).aq≠(gd x.w.ac g.eb.toNat).aq/\(∀k,k<g.ea.toNat->g.eb.toNat<k->(gd x.w.ac k).aq≠(gd x.w.ac g.eb.toNat).aq)/\(gd (cY x.w g.ea.toNat).bm.ay (gd x.w.ac g.eb.toNat).aq.toNat).cQ=3/\((gd x.w.ac g.ea.toNat).kind=19\/(gd x.w.ac g.ea.toNat).value=(gd x.w.ac g.eb.toNat).aq):=(by grind);have fl:=@al5 x g.ea g.eb;simp+contextual only[zE,u0,u1,m,l,e,kj,rk,aj,d,f,p,h,j,M,aNV,iw,ru,ar,sG,fl,sr,eE,vm,NR,bR,↓uL];simp_all;simp only[d,vb,Ek,bN,j1,eH] at b;obtain⟨z,R,o,s,D,B,E⟩:=b;simp+contextual only[zE,u0,u1,m,l,e,kj,rk,aj,d,eE,vm,NR,bR,R,o,s,aNV,iw,ru,fh,ar,sG,Ac,sr,n.wo,t,u,z,B,D,E,aTo,bkk,kN,ld,↓uL];simp only[f,vb] at b;have d:Q (g.kind=1)=I:=(by simp_all);have o:=b;simp only[qx,bN,eH,j1] at o;obtain⟨v,af,s⟩:=o;simp only[rO,cP,sA,aNS] at v;obtain⟨⟨⟨⟨⟨h,j⟩,q⟩,r⟩,N⟩,O⟩:=v;have C:qx x.w (Ds g.cW)=U:=(by rw[<-b];simp only[qx,rO,Ds,h,j,q,r];rfl);simp+contextual only[zE,u0,u1,m,l,e,kj,rk,aj,d,f,h,j,q,r,aNV,iw,ru,ar,sG,Ac,n,C,ld,sr,eE,vm,NR,bR,↓uL]
def Fg:FT:=aIc Og
def ayh{x g Lw K}:=gX Fg Og x g Lw K (j:=by simp+contextual only[ij,j9])
structure lJ(Y:ae)(b:Id)(e1 e:TypeId)(d n:Nat)(Lw:Nat->List (List AV))(f:Nat->AV):Prop where
 bx:box Y b=V ⟨e1,1,U,U,io n λi=>[f i]⟩
 gr:∀i,i<n->bc Y e 1 (f i) (Lw i)
 dj:∀i j,i<n->j<n->i≠j->∀q∈aA (f i),q∉aA (f j)
 pl:∀i,i<n->∀q∈aA (f i),q.1=d
def lJ.ix{Y:ae}{b:Id}{g e:TypeId}{d n:Nat}{c:Nat->List (List AV)}{f:Nat->AV}(O:lJ Y b g e d n c f){i:Int}(a:aF n i):cz 1 Y (.m b n) (iv i)=V (.p b i.toNat 0):=by have h:i.toNat<n:=(by have:=a.1;have:=a.2;omega);simp[cz,a.1,O.bx,h]
theorem lJ.ln{Y:ae}{b:Id}{c e:TypeId}{d n:Nat}{a:Nat->List (List AV)}{f:Nat->AV}(O:lJ Y b c e d n a f){i:Nat}(g:i<n):fS Y (f i)=V (iv<|L<|a i):=lnI<|O.gr i g
theorem lJ.keep{Y Y':ae}{b:Id}{ks:List Id}{c e:TypeId}{d n:Nat}{a:Nat->List (List AV)}{f:Nat->AV}(O:lJ Y b c e d n a f)(F:Fx Y Y' ks)(h:b∉ks)(j:∀i,i<n->∀q∈aA (f i),q∉ks):lJ Y' b c e d n a f:=⟨F.keep _ _ h O.bx,λi g=>(O.gr i g).fx F<|j i g,O.dj,O.pl⟩
theorem lJ.no{Y:ae}{b:Id}{c e:TypeId}{d n:Nat}{a:Nat->List (List AV)}{f:Nat->AV}(O:lJ Y b c e d n a f){q:Id}{x:bY}(j:box Y q=V x)(k:x.var=U\/x.elem≠e){i:Nat}(g:i<n):q∉aA (f i):=λh=>by
 have:=(O.gr i g).ids q h
 grind
def fj(l:List aP)(t:Int)(k:Nat):List Nat:=(aH k).filter λj=>Q<|(gd l j).aq=t
theorem Bb{l:List aP}{t:Int}{k:Nat}:fj l t (k+1)=fj l t k++if(gd l k).aq=t then[k] else[]:=by grind [fj,qn,gd]
theorem wF{l:List aP}{t:Int}{k:Nat}:L (fj l t k)<=k:=by grind [fZ,decide,gd,aH,fj]
def aOu(l:List aP)(k t:Nat):List Bool:=(fj l t k).map λj=>fR<|gd l j
structure xv(w:am):Prop where
 wo:vL w
 ev:∀e∈w.ac,vo e
 sn:∀k,k<L w.ac->L (cY w k).cells<1000/\L (cY w k).bU<1000/\L (cY w k).count<1000
 ct:L w.init.count=L w.aQ.ay/\∀c∈w.init.count,0<=c/\c<=400
 rd:∀k,k<L w.ac->∀x,x∈(gd w.ac k).dI\/x∈(gd w.ac k).ep-> -1000<=x/\x<=1000/\(gd w.init.count (gd w.ac k).aq.toNat<=x->x-gd w.init.count (gd w.ac k).aq.toNat<(L (aOu w.ac k (gd w.ac k).aq.toNat):Int)/\gd (aOu w.ac k (gd w.ac k).aq.toNat) (x-gd w.init.count (gd w.ac k).aq.toNat).toNat=U)
def apq:dO:=(97,Fg)::apo
def Rh:eJ apq:=it (aCb Og)<|Rf
def Do:=ai @ayh<|@Ac
def Zr b h c R a:=az b (aw 16 a h) λd=>az b (aw 6 a c) λe=>az b (fV Fg a [d,e]) λf=>aD b f (bv I) λg=>aE R a [g]
def Zq f c b R:=aw 15 b f λg=>fV E6 b [g] λe=>rV (eO 0 e) λh=>rV (eO 1 e) λi=>eV (bs 174 baF b 5) λa d=>sV (aK 16 d a h)<|Zr i a c R
def aKG{b:List AV}{c:List AV}{R:o8}(l0:L b=15)(l1:L c=6)(h:H2 43 15 2 b 46 6 3 c λd e f=>Zq d e f R):Ct 46 [.a b, .a c] R:=z2 aur Rh Tryz.func46 l0 l1 h
def amF{l:List Int}:jC l↔l.Pairwise (·<·):=by rw[List.pairwise_iff_getElem];refine⟨λh i j b c a=>?_,λh i b=>?_⟩;have:=AD h a c;grind [bT];grind [bT]
theorem an1:∀{l:List Int} {t x:Int},x∈fk l t->x=t\/x∈l
 |[],t,x,h=>by grind [fk]
 |y::l,t,x,h=>by
  simp only[fk] at h
  split at h
  ·rcases eW.1 h with h|h
   ·simp_all
   ·rcases an1 h with h|h
    ·exact .inl h
    simp_all
  grind
theorem kQ.ni{n:Nat}{s:aW}(h:kQ n s)(i:Int)(t:kw):kQ n (ni s i t):=⟨h.lo,h.dn,by simp[Ab.ni];exact h.th,h.rd⟩
theorem kQ.lk{n:Nat}{s:aW}(h:kQ n s)(i:Int):jC (cH s i).bk/\∀x∈(cH s i).bk,aF n x:=by unfold cH gd;rw[eI];cases a:s.ak[i.toNat]? with|none=>exact⟨λi b=>u6 b (Nat.not_lt_zero _),λx a=>u6 a ql⟩|some x=>grind [kQ.rd]
theorem kQ.lC{n:Nat}{s:aW}(h:kQ n s)(i:Int)(l:cg)(b:jC l.bk/\∀x∈l.bk,aF n x):kQ n (lC s i l):=by refine⟨by simp[Ab.lC];exact h.lo,h.dn,h.th,λx a=>?_⟩;simp only[Ab.lC] at a;grind [kQ.rd]
theorem kQ.marks{n:Nat}:∀{l:List Int} {s:aW},kQ n s->kQ n (l.foldl (λs u=>Ab.ni s u {fA s u with cQ:=4}) s)|[],_,h=>h|u::l,s,h=>kQ.marks (l:=l)<|h.ni u _
theorem kQ.apply{n:Nat}{s:aW}(h:kQ n s)(w:br)(t kind nt lD:Int)(v:aF n t):kQ n (cU w s t kind nt lD).1:=by unfold cU;by_cases o:kind=1;grind [kQ.ni];rw[bA o];by_cases p:kind=2;grind [kQ.ni];rw[bA p];by_cases q:kind=6\/kind=10;grind [kQ.lC,kQ.lk];rw[bA q];by_cases r:kind=7\/kind=11;grind [kQ.lC,kQ.lk];rw[bA r];by_cases u:kind=8;grind [kQ.lC,kQ.lk,Ro,Nz,an1];rw[bA u];by_cases l:kind=9;rw[d7 l];refine h.lC _ _ ⟨amF.2<|(amF.1 (h.lk nt).1).filter _,λx m=>?_⟩;exact(h.lk nt).2 x (List.mem_filter.1 m).1;rw[bA l];by_cases a:kind=12;rw[d7 a];exact⟨h.lo,h.dn,h.th,h.rd⟩;rw[bA a];by_cases b:kind=13;rw[d7 b];exact⟨h.lo,h.dn,h.th,h.rd⟩;rw[bA b];by_cases c:kind=14;grind [kQ.ni];rw[bA c];by_cases d:kind=15;grind [kQ.ni];rw[bA d];by_cases e:kind=16;grind [kQ.ni,kQ.lC,kQ.lk];rw[bA e];by_cases f:kind=17;grind [kQ.ni,kQ.lC,kQ.lk];rw[bA f];by_cases g:kind=18;grind [kQ.ni];rw[bA g];by_cases i:kind=19;grind [kQ.marks];rw[bA i];by_cases j:kind=20;grind [kQ.ni];rw[bA j];by_cases k:kind=22;rw[d7 k];exact⟨h.lo,by simp;exact h.dn,h.th,h.rd⟩;simp_all
theorem Bq{w:am}(h:Po w=U):∀k,k<=L w.ac->kQ (L w.aQ.ay) (cY w k).bm:=by obtain⟨e,p⟩:=aQA h;obtain⟨a,v,s,t,y⟩:=tC e;intro k;induction k with|zero=>intro _;have f:=e;simp only[oh,cP,fK,sA] at f;have d:=f.2;simp only[ny,bN,j1] at d;have u:L w.init.count=L w.aQ.ay:=(by grind [fN]);refine⟨a.sy.lo,a.sy.dn,a.sy.th,λl o=>?_⟩;have m:l∈w.init.bm.ak:=o;obtain⟨j,g,rfl⟩:=ou m;have c:=(d.1 j g).2;rw[bT g] at c;refine⟨λi b=>?_,λx q=>?_⟩;have:=(c (i+1) b).2 (by omega);simp_all;obtain⟨i,b,rfl⟩:=ou q;have:=(c i b).1;grind [nO,dX,bT]|succ k r=>intro z;have n:=p k (by omega);simp only[cY,nD,n,vb,oc];refine(r<|by omega).apply _ _ _ _ _ ?_;grind [C1,eH,cP,aOL,fK,dX]
def vd{w:am}(a:hU w)(h:Po w=U):vL w:=by obtain⟨b,c⟩:=aQA h;refine⟨Rr a h,?_,by grind [Bq]⟩;grind [oh,cP,fK,mQ,eH,wJ,decide_eq_false_iff_not]
def kJ(t:Int):List aP->Nat->List Nat|[],_=>[]|e::l,i=>(if e.aq=t then[i] else[])++kJ t l (i+1)
theorem QH{t:Int}:∀{a b:List aP} {i:Nat},kJ t (a++b) i=kJ t a i++kJ t b (i+L a)
 |[],b,i=>by simp[kJ]
 |e::a,b,i=>by
  simp only[zn,kJ,bje]
  rw[QH (a:=a)]
  grind
theorem Qz{t:Int}:∀{l:List aP} {i m:Nat},m<L (kJ t l i)->pS t l m i=((gd (kJ t l i) m:Nat):Int)
 |[],i,m,h=>by simp[kJ] at h
 |e::l,i,m,h=>by
  simp only[pS]
  by_cases a:e.aq=t
  ·rw[d7 a]
   cases m with
   |zero=>simp[kJ,a,gd]
   |succ m=>
    rw[bA (by omega),show((m+1:Nat):Int)-1=(m:Int) by omega]
    rw[Qz (l:=l) (i:=i+1) (m:=m)<|by grind [kJ]]
    simp[kJ,a,gd]
  ·rw[bA a]
   rw[Qz (l:=l) (i:=i+1) (m:=m)<|by grind [kJ]]
   simp[kJ,a]
theorem anU{t:Int}{l:List aP}:∀{k:Nat},k<=L l->kJ t (l.take k) 0=fj l t k
 |0,_=>by simp[kJ,fj]
 |k+1,h=>by
  have a:k<L l:=by omega
  rw[iJ a,<-bT a,QH,anU (k:=k) (by omega),Bb]
  grind [gd,kJ]
theorem aEv{w:am}{t:Int}{k m:Nat}(b:k<=L w.ac)(c:m<L (fj w.ac t k)):oV w t m=(gd (fj w.ac t k) m:Nat):=by have a:kJ t w.ac 0=fj w.ac t k++kJ t (w.ac.drop k) k:=(by(conv=>lhs;rw[<-aq0 k w.ac]);grind [QH,anU]);grind [oV,Qz,gd,xe]
def NV(w:am)(g:cJ)(B:vL w/\qC w g=U):Ct 46 [.a w.c, .a g.c] (·=bv U):=by refine aKG rfl rfl λC k t u E=>?_;obtain⟨e,A⟩:=B;have z7:aN (V 15) w.c=V (.a w.c):=rfl;simp only[Zq,u0,u1,t,z7,ar,Do,↓uL];refine⟨e,?_⟩;rintro r ⟨f,o,rfl⟩;refine⟨.inl rfl,?_⟩;simp only[oJ,pG,aY,↓uL];have i:L (w.c++[AV.l ((aQv w<|L w.ac).map aW.c) f o])=16:=(by simp[am.c,br.c,mn.c,aW.c]);have m:L (baF)=16:=rfl;refine mo k λp b v=>?_;have d:box p (5,(aZ C 5).lB+1)=V ⟨174,16,U,U,[baF]⟩:=v;have j:5<L p:=(by rw[b.1,k];decide);refine gN d j m i λD q x=>?_;have y:box D (3,1)=_:=q.bt<|b.bt u;have n:aN (V 16) (w.c++[AV.l ((aQv w<|L w.ac).map aW.c) f o])=V (.a<|w.c++[.l ((aQv w<|L w.ac).map aW.c) f o]):=rfl;have z:nK ⟨w,aQv w<|L w.ac⟩:=⟨e.wo,rfl⟩;have h:∀s:ae,dG s (.a<|w.c++[.l ((aQv w<|L w.ac).map aW.c) f o])= .a (jY.c ⟨w,aQv w<|L w.ac⟩):=λ_=>rfl;simp+contextual only[Zr,u0,u1,x,y,n,rk,h,ar,Do,z,A,ld,bR,iw,ru,NR,hH,↓uL]
def E5:FT:=aIc NV
def ax8{w g Lw K}:=gX E5 NV w g Lw K (j:=by simp+contextual only[ij,j9])
def apr:dO:=(46,E5)::apq
def apf:eJ apr:=it (aCb NV)<|Rh
def amm:=ai @ax8<|@Do

def aps:dO:=apr
def apg:eJ aps:=apf
def Dp:=@amm

abbrev nf2:List Nat:=[37,50,66,92,122,8,10,14]
def apt:dO:=aps
def Ey:eJ apt:=apg
def Lb:=@Dp
section
attribute[local irreducible] aX
abbrev aRc:List AV:=[.l [] U U,.l [] U U,.l [] U U,.l [] U U,.l [] U U,.l [] U U]
abbrev bhN:List AV:=[.l [] U U]
abbrev aYp:List AV:=[.l [] I I]
abbrev aOQ:List AV:=[.l [] U U,.l [] U U,.l [] U U,.l [] U U,.l [] U U,.l [] U U,iv 0,.l [] U U,iv 0,.l [] U U,.l [] U U,.l [] U U,.l [] U U,.l [] U U,.l [] U U]
abbrev a72:List AV:=[.l [] I I,.l [] I I,.l [] I I,.l [] I I,.l [] I I,.l [] I I,iv 0,.l [] I I,iv 0,.l [] I I,.l [] I I,.l [] I I,.l [] I I,.l [] I I,.l [] I I]
abbrev nJ:List AV:=[iv 0,iv 0]
abbrev bh6:List AV:=[iv 0,iv 0]
abbrev aYo:List AV:=[.l [] U U,.l [] U U,.l [] U U,.l [] U U,.l [] U U,.l [] U U,.l [] U U]
abbrev biX:List AV:=[iv 0,iv 0,iv 0,iv 0,iv 0,.l [] I I,.l [] I I]
abbrev biY:List AV:=[.l [] U U,iv 0]
abbrev aoA:List AV:=[.l [] U U,iv 0,.l [] U U,.l [] U U,.l [] U U,.l [] U U,.l [] U U]
abbrev aRY:List AV:=[.l [] U U,.l [] U U,.l [] U U,.l [] U U,.l [] U U,.l [] U U,.l [] U U]
abbrev biS:List AV:=[sv [],iv 0,iv 0,bv I,iv 0]
abbrev aXN:List AV:=[sv [],bv I]
abbrev biv:List AV:=[sv [],bv I]
abbrev a7Y:List AV:=[sv [],iv 0]
abbrev biT:List AV:=[iv 0,iv 0,iv 0]
abbrev bdH:List AV:=[.l [] U U,.l [] U U]
abbrev biZ:List AV:=[iv 0,.l [] U U]
abbrev bnB:List AV:=[iv 0,.l [] I I]
abbrev aNJ:List AV:=[iv 0,.l [] U U,.l [] U U,iv 0]
abbrev bnC:List AV:=[iv 0,.l [] I I,.l [] I I,iv 0]
abbrev bcv:List AV:=[sv [],iv 0,.l [] U U,.l [] U U]
abbrev biU:List AV:=[sv [],iv 0,.l [] I I,.l [] I I]
abbrev bnF:List AV:=[.l [] U U,.l [] U U,.l [] U U,.l [] U U,.l [] U U,.l [] U U,.l [] U U,.l [] U U,iv 0,iv 0]
abbrev aoB:List AV:=[iv 0,iv 0,iv 0,iv 0,iv 0,iv 0]
abbrev bnD:List AV:=[iv 0,iv 0,iv 0,iv 0,iv 0,iv 0]
abbrev bnG:List AV:=[.s<|.pointer J,iv 0,iv 0,bv I,bv I,bv I,bv I,.l [] U U]
abbrev aR4:List AV:=[iv 0,iv 0,sv [],.l [] U U]
abbrev bh5:List AV:=[iv 0,iv 0,sv [],.l [] I I]
abbrev C8:List AV:=[iv 0,iv 0,sv [],sv [],.l [] U U,iv 0,iv 0,sv [],.l [] U U,.l [] U U,.l [] U U]
abbrev aOl:List AV:=[iv 0,iv 0,sv [],sv [],.l [] I I,iv 0,iv 0,sv [],.l [] I I,.l [] I I,.l [] I I]
abbrev bnH:List AV:=[.l [] U U,.l [] U U,iv 0,.l [] U U,.l [] U U,.l [] U U]
abbrev aXV:List AV:=[iv 0,iv 0,sv [],iv 0,iv 0,sv []]
abbrev bqq:List AV:=[iv 0,iv 0,sv [],iv 0,iv 0,sv []]
def a9k:=bi 5 []
def a1q a s0 R:=ah a (aE R s0 [iv 1])<|aE R s0 [iv 0]
def bgS{a:AV}{R:o8}(h:H0 λs0=>a1q a s0 R):Ct 286 [a] R:=z0 a9k Ey Tryz.func286 h
def a9i:=bi 8 [(5,([5],[]))]
def a1n R s0 a:=Rg->aE R s0 [gt a 0]
def a1o a c(b:cG):=aU a (iv 0) λt4=>ah t4 (aV a c λd=>b [d])<|b [a]
def a1m b a s0 R:=aU a (iv 1) λt1=>ah t1 (aE R s0 [iv 0]) (aO .rem b a λc=>jR 5 (a1n R s0)<|a1o c a)
def bgQ{a b:AV}{R:o8}(h:H0 λs0=>a1m a b s0 R):Ct 269 [a,b] R:=z0 a9i Ey Tryz.func269 h
def a1M a s0 R:=aO .geq a (iv 1) λt1=>fm t1 a λt3=>az t1 (aO .leq t3<|iv 5) λb=>aD t1 b (bv I) λc=>aE R s0 [c]
def bgW{a:AV}{R:o8}(h:H0 λs0=>a1M a s0 R):Ct 237 [a] R:=z0 at1 Ey Tryz.func237 h
def bg7{a b:AV}{R:o8}(h:H0 λs0=>ac8 a b s0 R):Ct 211 [a,b] R:=z0 at1 Ey Tryz.func211 h
def a2E s0 b e R(d:cG)(m1:fD) a:=Rg->aJ s0 b λf=>aU (gt a 0) f λt3=>ah t3 (ao 2 s0 b (gt a 0) λt4=>ab 0 s0 t4 λg=>bf g e λh=>ah h (aE R s0 [gt a 0])<|aV (gt a 0) (iv 1) λc=>d [c]/\m1 [c]<m1 a)<|aE R s0 [iv<|-1]
def a2D a b s0 R:=lR [iv 0]<|a2E s0 a b R
def bg9{a b:AV}{R:o8}(h:H0 λs0=>a2D a b s0 R):Ct 220 [a,b] R:=z0 atS Ey Tryz.func220 h
def a9l:=bi 10 [(3,([5],[1,2]))]
def a1s b d j R(i:cG)(e:fD) a:=Rg->ab 0 b d λk=>aJ b k λl=>aU (gt a 0) l λm=>ah m (ab 0 b d λn=>ao 5 b n (gt a 0) λf=>ab 0 b f λg=>bf g j λh=>ah h (aE R b [gt a 0])<|aV (gt a 0) (iv 1) λc=>i [c]/\e [c]<e a)<|aE R b [iv<|-1]
def a1r a b c R:=lR [iv 0]<|a1s c a b R
def bgT{b:List AV}{c:AV}{R:o8}(l0:L b=6)(h:H1 31 6 2 b λd e=>a1r d c e R):Ct 279 [.a b,c] R:=z1 a9l Ey Tryz.func279 l0 h
def a9n:=bi 21 [(3,([5],[1,4])),(8,([13],[1,4])),(15,([37],[1,4]))]
def a1G a b R t4 c:=Rg->ah (gt c 0) (ab 2 a b λf=>eV (aX bH 1 a [(0,f)]) λg d=>aE R d [g]) (bf t4 (iv 9) λh=>ah h (ab 2 a b λi=>ab 3 a b λj=>eV (aX bH 2 a [(0,i),(1,j)]) λk e=>aE R e [k])<|aE R a [.l [] U U])
def a1J t4(a:cG):=bf t4 (iv 8) λb=>ah b (a [b]) (bf t4 (iv 26) λc=>a [c])
def a1I b a R t4 c:=Rg->ah (gt c 0) (ab 1 b a λg=>ab 2 b a λh=>eV (aX bH 2 b [(0,g),(1,h)]) λi d=>aE R d [i]) (bf t4 (iv 4) λj=>ah j (ab 1 b a λk=>ab 2 b a λl=>ab 3 b a λm=>eV (aX bH 3 b [(0,k),(1,l),(2,m)]) λn e=>aE R e [n])<|bf t4 (iv 7) λo=>ah o (ab 1 b a λp=>ab 3 b a λq=>eV (aX bH 2 b [(0,p),(1,q)]) λr f=>aE R f [r])<|jR 15 (a1G b a R t4)<|a1J t4)
def a1L t4(a:cG):=bf t4 (iv 2) λb=>ah b (a [b]) (bf t4 (iv 3) λc=>a [c])
def a1H b a R t4 c:=Rg->ah (gt c 0) (ab 1 b a λe=>eV (aX bH 1 b [(0,e)]) λf d=>aE R d [f]) (jR 8 (a1I b a R t4)<|a1L t4)
def a1K t4(a:cG):=bf t4 (iv 1) λb=>ah b (a [b]) (bf t4 (iv 6) λc=>ah c (a [c])<|bf t4 (iv 10) λd=>ah d (a [d])<|bf t4 (iv 27) λe=>a [e])
def a1F a b R:=ab 0 b a λt4=>jR 3 (a1H b a R t4)<|a1K t4
def bgV{b:List AV}{R:o8}(l0:L b=6)(h:H1 251 6 1 b λc d=>a1F c d R):Ct 174 [.a b] R:=z1 a9n Ey Tryz.func174 l0 h
def a24 a s0 R:=aU a (iv 1) λt1=>bX t1 a λt3=>aC t1 (aO .gtr t3<|iv 100) λb=>aD t1 (bv U) b λc=>ah c (aE R s0 [iv 0])<|aE R s0 [a]
def bhe{a:AV}{R:o8}(h:H0 λs0=>a24 a s0 R):Ct 271 [a] R:=z0 a9k Ey Tryz.func271 h
def aVt b R t1 a:=aU b (iv 6) λt3=>bX t3 b λf=>aC t3 (aO .gtr f<|iv 28) λg=>aD t3 (bv U) g λh=>ah h (aE R a [iv 0]) (aO .sub b (iv 6) λc=>ao 1 a t1 c λd=>aM a d λe=>aE R a [e])
def aVs a s0 R:=eV (aX bH 23 s0 [(0,iv 3),(1,iv 3),(2,iv 4),(3,iv 4),(4,iv 5),(5,iv 6),(6,iv 7),(7,iv 8),(8,iv 9),(9,iv 10),(10,iv 11),(11,iv 12),(12,iv 13),(13,iv 14),(14,iv 15),(15,iv 16),(16,iv 18),(17,iv 19),(18,iv 20),(19,iv 21),(20,iv 22),(21,iv 23),(22,iv 2)])<|aVt a R
def bhn{a:AV}{R:o8}(h:H0 λs0=>aVs a s0 R):Ct 239 [a] R:=z0 ato Ey Tryz.func239 h
def a0q s0 b e R(d:cG)(m1:fD) a:=Rg->aJ s0 b λf=>aU (gt a 0) f λt3=>ah t3 (ao 6 s0 b (gt a 0) λt4=>ab 2 s0 t4 λg=>bf g e λh=>ah h (aE R s0 [gt a 0])<|aV (gt a 0) (iv 1) λc=>d [c]/\m1 [c]<m1 a)<|aE R s0 [iv<|-1]
def a0p a b s0 R:=lR [iv 0]<|a0q s0 a b R
def bgB{a b:AV}{R:o8}(h:H0 λs0=>a0p a b s0 R):Ct 245 [a,b] R:=z0 atS Ey Tryz.func245 h
def a0D s0 b e R(d:cG)(m1:fD) a:=Rg->aJ s0 b λf=>aU (gt a 0) f λt3=>ah t3 (ao 4 s0 b (gt a 0) λt4=>ab 0 s0 t4 λg=>bf g e λh=>ah h (aE R s0 [gt a 0])<|aV (gt a 0) (iv 1) λc=>d [c]/\m1 [c]<m1 a)<|aE R s0 [iv<|-1]
def a0C a b s0 R:=lR [iv 0]<|a0D s0 a b R
def bgG{a b:AV}{R:o8}(h:H0 λs0=>a0C a b s0 R):Ct 246 [a,b] R:=z0 atS Ey Tryz.func246 h
def a8V:=bi 9 []
def a0e a s0 R:=bf a (iv 1) λt1=>bX t1 a λt3=>aC t1 (bf t3<|iv 2) λj=>aD t1 (bv U) j λk=>ah k (aE R s0 [iv 0]) (aO .geq a (iv 3) λc=>fm c a λd=>az c (aO .leq d<|iv 5) λe=>aD c e (bv I) λf=>ah f (aE R s0 [iv 1])<|aO .geq a (iv 6) λb=>fm b a λg=>az b (aO .leq g<|iv 18) λh=>aD b h (bv I) λi=>ah i (aE R s0 [iv 2])<|aE R s0 [iv<|-1])
def bgt{a:AV}{R:o8}(h:H0 λs0=>a0e a s0 R):Ct 293 [a] R:=z0 a8V Ey Tryz.func293 h
def a0l a c R:=ab 0 c a λt4=>bf t4 (iv 0) λe=>aT e 1 c a λf=>az e (bf f<|iv 0) λg=>aD e g (bv I) λd=>aT d 2 c a λh=>az d (bf h<|sv []) λi=>aD d i (bv I) λb=>aT b 3 c a λj=>az b (aJ c j) λk=>az b (bf k<|iv 0) λl=>aD b l (bv I) λm=>aE R c [m]
def bgy{b:List AV}{R:o8}(l0:L b=4)(h:H1 259 4 1 b λc d=>a0l c d R):Ct 288 [.a b] R:=z1 at1 Ey Tryz.func288 l0 h
def a0S a b s0 R:=aO .neq a (iv 0) λt1=>ah t1 (aE R s0 [a])<|aE R s0 [b]
def bgK{a b:AV}{R:o8}(h:H0 λs0=>a0S a b s0 R):Ct 275 [a,b] R:=z0 a9k Ey Tryz.func275 h
def a0R a s0 R:=ah a (aE R s0 [iv 7])<|aE R s0 [iv 0]
def bgJ{a:AV}{R:o8}(h:H0 λs0=>a0R a s0 R):Ct 278 [a] R:=z0 a9k Ey Tryz.func278 h
def a0d b R t1 c:=rV (bM aR4 alz [(0,iv 1),(1,b)]) λt3=>sV (aK 4 c t1 t3) λa=>aw 4 a t1 λd=>aE R a [d]
def a0c a s0 R:=eV (bs 259 aR4 s0 2)<|a0d a R
def bgs{a:AV}{R:o8}(h:H0 λs0=>a0c a s0 R):Ct 178 [a] R:=z0 at1 Ey Tryz.func178 h
def a0b b R t1 c:=rV (bM aR4 alz [(0,iv 2),(2,b)]) λt3=>sV (aK 4 c t1 t3) λa=>aw 4 a t1 λd=>aE R a [d]
def a0a a s0 R:=eV (bs 259 aR4 s0 2)<|a0b a R
def bgr{a:AV}{R:o8}(h:H0 λs0=>a0a a s0 R):Ct 255 [a] R:=z0 at1 Ey Tryz.func255 h
def aUG s0 R:=rV (bM aXV O7 [(0,iv 1),(2,sv [120])]) λt1=>rV (bM aXV O7 [(0,iv 1),(2,sv [121]),(4,iv 1)]) λc=>rV (bM aXV O7 [(0,iv 2),(2,sv [118])]) λt3=>rV (bM aXV O7 [(0,iv 1),(2,sv [113]),(3,iv 2)]) λt4=>rV (bM aXV O7 [(0,iv 3),(2,sv [109])]) λd=>rV (bM aXV O7 [(0,iv 3),(2,sv [110])]) λe=>rV (bM aXV O7 [(0,iv 4),(2,sv [114])]) λf=>rV (bM aXV O7 [(0,iv 5),(2,sv [99]),(5,sv [109])]) λg=>rV (bM aXV O7 [(0,iv 6),(2,sv [102])]) λh=>eV (aX bqq 9 s0 [(0,t1),(1,c),(2,t3),(3,t4),(4,d),(5,e),(6,f),(7,g),(8,h)]) λb a=>aE R a [b]
def bgk{R:o8}(h:H0 λs0=>aUG s0 R):Ct 175 [] R:=z0 at1 Ey Tryz.func175 h
def aVS s0 R:=eV (aX bH 43 s0 [(0,iv 3),(1,iv 3),(2,iv 3),(3,iv 3),(4,iv 3),(5,iv 4),(6,iv 4),(7,iv 4),(8,iv 4),(9,iv 4),(10,iv 5),(11,iv 5),(12,iv 5),(13,iv 6),(14,iv 6),(15,iv 6),(16,iv 7),(17,iv 7),(18,iv 7),(19,iv 8),(20,iv 9),(21,iv 10),(22,iv 11),(23,iv 12),(24,iv 13),(25,iv 14),(26,iv 14),(27,iv 15),(28,iv 16),(29,iv 16),(30,iv 17),(31,iv 17),(32,iv 18),(33,iv 18),(34,iv 19),(35,iv 20),(36,iv 1),(37,iv 1),(38,iv 2),(39,iv 21),(40,iv 22),(41,iv 23),(42,iv 23)]) λt1 a=>aE R a [t1]
def bhz{R:o8}(h:H0 λs0=>aVS s0 R):Ct 164 [] R:=z0 at1 Ey Tryz.func164 h
def a9S:=bi 21 [(3,([9],[0,1,2,3])),(11,([10,11,12],[0,1,2,3,9])),(14,([10,11],[0,1,2,3,9,12]))]
def a4q b(e:cG)(c:fD) a:=Rg->aV (gt b 2) (iv 1) λd=>e [gt a 0,gt a 1,d]/\c [gt a 0,gt a 1,d]<c b
def a4r s0 d a C D B(e:cG):=ao 7 s0 d (gt a 2) λE=>ab 0 s0 E λf=>aO .neq f C λg=>ah g (e [gt a 0,gt a 1]) (bX (gt a 1) (gt a 0) λh=>bX (gt a 1) D λi=>bX (gt a 1) (gt B 0) λj=>aC (gt a 1) (ao 1 s0 i j) λk=>aC (gt a 1) (aM s0 k) λl=>aC (gt a 1) (bf h l) λm=>bX (gt a 1) m λb=>fm b d λn=>fm b (gt a 2) λo=>az b (ao 7 s0 n o) λp=>aT b 1 s0 p λq=>az b (bf q<|iv 3) λr=>fm b r λc=>bX c d λs=>bX c (gt a 2) λt=>aC c (ao 7 s0 s t) λu=>bn c 1 s0 u λv=>aC c (bf v<|iv 23) λw=>az b (aD c (bv U) w) λx=>aC (gt a 1) (aD b x<|bv I) λy=>aD (gt a 1) (bv U) y λz=>aV (gt a 0) (iv 1) λA=>e [A,z])
def a4s h s0 g i j b R(e:cG)(m1:fD) f k a:=Rg->aU (gt a 2) h λl=>ah l (jR 14 (a4q a f k)<|a4r s0 g a i j b) (cf (gt a 1) λd=>ah d (aE R s0 [bv I])<|aV (gt b 0) (iv 1) λc=>e [c]/\m1 [c]<m1 b)
def a4t s0 b e d f R c m1 a:=Rg->aJ s0 b λg=>aU (gt a 0) g λt3=>ah t3 (lR [iv 0,bv I,iv 0]<|a4s e s0 d f b a R c m1)<|aE R s0 [bv U]
def a4p a b c d s0 R:=lR [iv 0]<|a4t s0 d b a c R
def bhq{a b c d:AV}{R:o8}(h:H0 λs0=>a4p a b c d s0 R):Ct 115 [a,b,c,d] R:=z0 a9S Ey Tryz.func115 h
def a2j s0 c i R(h:cG)(m1:fD) a:=Rg->rV (cO s0 c) λj=>aB 0 s0 j λt3=>ab 2 s0 t3 λk=>aJ s0 k λl=>aU (gt a 0) l λm=>ah m (rV (cO s0 c) λn=>aB 0 s0 n λo=>ab 2 s0 o λd=>ao 2 s0 d (gt a 0) λe=>ab 0 s0 e λf=>bf f i λg=>ah g (fe R s0 [gt a 0])<|aV (gt a 0) (iv 1) λb=>h [b]/\m1 [b]<m1 a)<|fe R s0 [iv<|-1]
def aU6 a b s0 R:=lR [iv 0]<|a2j s0 a b R
def bfT{a b:AV}{s0:ae}{R:be}(h:aU6 a b s0 R):EB 251 [a,b] s0 R:=zB atS Ey Tryz.func251 h
def bg3{a b:AV}{s0:ae}{R:be}(c:L s0=4096)(h:aU6 a b s0 R):EB 251 [a,b] s0 R:=by refine bfT ?_;exact h
end
inductive fc where
 |mk(op n:Int)(name:ByteArray)(l:List fc)
def fc.op:fc->Int| .mk a _ _ _=>a
def fc.n:fc->Int| .mk _ a _ _=>a
def fc.name:fc->ByteArray| .mk _ _ a _=>a
def fc.l:fc->List fc| .mk _ _ _ a=>a
instance:Inhabited fc:=⟨.mk 0 0 ⟨#[]⟩ []⟩
mutual
def fc.c:fc->List AV| .mk op n a l=>[iv op,iv n,st a, .l (fc.cr l) I I]
def fc.cr:List fc->List (List AV)|[]=>[]|e::l=>fc.c e::fc.cr l
end
def fc.cr_eq:∀{l:List fc},fc.cr l=l.map fc.c
 |[]=>by simp only[fc.cr,mU]
 |e::l=>by simp only[fc.cr,ji,fc.cr_eq]
def aoH{x:fc}:fc.c x=[iv x.op,iv x.n,st x.name,sl fc.c x.l]:=by cases x;simp only[fc.c,fc.cr_eq,fc.op,fc.n,fc.name,fc.l,sl]
inductive eo where
 |mk(op line:Int)(name arg:ByteArray)(index:List fc)(expr:fc)(body els:List eo)
def eo.op:eo->Int| .mk a _ _ _ _ _ _ _=>a
def eo.line:eo->Int| .mk _ a _ _ _ _ _ _=>a
def eo.name:eo->ByteArray| .mk _ _ a _ _ _ _ _=>a
def eo.arg:eo->ByteArray| .mk _ _ _ a _ _ _ _=>a
def eo.index:eo->List fc| .mk _ _ _ _ a _ _ _=>a
def eo.expr:eo->fc| .mk _ _ _ _ _ a _ _=>a
def eo.body:eo->List eo| .mk _ _ _ _ _ _ a _=>a
def eo.els:eo->List eo| .mk _ _ _ _ _ _ _ a=>a
instance:Inhabited eo:=⟨.mk 0 0 ⟨#[]⟩ ⟨#[]⟩ [] default [] []⟩
mutual
def eo.c:eo->List AV| .mk op e b arg index a d els=>[iv op,iv e,st b,st arg,sl fc.c index,iv a.op,iv a.n,st a.name,sl fc.c a.l, .l (eo.cr d) I I, .l (eo.cr els) I I]
def eo.cr:List eo->List (List AV)|[]=>[]|e::l=>eo.c e::eo.cr l
end
def eo.cr_eq:∀{l:List eo},eo.cr l=l.map eo.c
 |[]=>by simp only[eo.cr,mU]
 |e::l=>by simp only[eo.cr,ji,eo.cr_eq]
def apT{x:eo}:eo.c x=[iv x.op,iv x.line,st x.name,st x.arg,sl fc.c x.index,iv x.expr.op,iv x.expr.n,st x.expr.name,sl fc.c x.expr.l,sl eo.c x.body,sl eo.c x.els]:=by cases x;simp only[eo.c,eo.cr_eq,eo.op,eo.line,eo.name,eo.arg,eo.index,eo.expr,eo.body,eo.els,sl]
structure w6 where
 kind:Int
 line:Int
 name:ByteArray
 size:Int
 init:Int
 on:ByteArray
 deriving Inhabited
def w6.c(x:w6):List AV:=[iv x.kind,iv x.line,st x.name,iv x.size,iv x.init,st x.on]
structure xt where
 name:ByteArray
 line:Int
 locs:List ByteArray
 body:List eo
 deriving Inhabited
def xt.c(x:xt):List AV:=[st x.name,iv x.line,sl cs x.locs,sl eo.c x.body]
structure xr where
 A7:List w6
 ay:List xt
 deriving Inhabited
def xr.c(x:xr):List AV:=[sl w6.c x.A7,sl xt.c x.ay]
structure lF where
 op:Int
 a:Int
 b:Int
 k:Int
 n:Int
 site:Int
 deriving Inhabited
def lF.c(x:lF):List AV:=[iv x.op,iv x.a,iv x.b,iv x.k,iv x.n,iv x.site]
structure A2 where
 li:Int
 No:List lF
 deriving Inhabited
def A2.c(x:A2):List AV:=[iv x.li,sl lF.c x.No]
structure qt where
 aQ:br
 ay:List A2
 deriving Inhabited
def qt.c(x:qt):List AV:=x.aQ.c++[sl A2.c x.ay]
structure pt where
 pc:Int
 li:List Int
 lj:List (List Int)
 ac:Int
 deriving Inhabited
def pt.c(x:pt):List AV:=[iv x.pc,sl ci x.li,sl cl x.lj,iv x.ac]
structure pm where
 bm:aW
 cells:List Int
 bU:List Int
 ay:List pt
 deriving Inhabited
def pm.c(x:pm):List AV:=x.bm.c++[sl ci x.cells,sl ci x.bU,sl pt.c x.ay]
structure O3 where
 aQ:br
 ac:List aP
 deriving Inhabited
def O3.c(x:O3):List AV:=x.aQ.c++[sl aP.c x.ac]
def aN9{x:fc}:L (fc.c x)=4:=by rw[aoH];rfl
theorem WV{x:eo}:L (eo.c x)=11:=by rw[apT];rfl
section
variable{K:o8}{Y:ae}{i:Int}
def bcY{l:List fc}:rV (cz 4 Y (sl fc.c l)<|iv i) K=(aF (L l) i/\K (.q<|fc.c<|gd l i.toNat)):=aBz λ_=>aN9
def bc0{l:List eo}:rV (cz 11 Y (sl eo.c l)<|iv i) K=(aF (L l) i/\K (.q<|eo.c<|gd l i.toNat)):=aBz λ_=>WV
def bcX{l:List w6}:rV (cz 6 Y (sl w6.c l)<|iv i) K=(aF (L l) i/\K (.q<|w6.c<|gd l i.toNat)):=aBz λ_=>rfl
def bc2{l:List xt}:rV (cz 4 Y (sl xt.c l)<|iv i) K=(aF (L l) i/\K (.q<|xt.c<|gd l i.toNat)):=aBz λ_=>rfl
def bcZ{l:List lF}:rV (cz 6 Y (sl lF.c l)<|iv i) K=(aF (L l) i/\K (.q<|lF.c<|gd l i.toNat)):=aBz λ_=>rfl
def bc1{l:List A2}:rV (cz 2 Y (sl A2.c l)<|iv i) K=(aF (L l) i/\K (.q<|A2.c<|gd l i.toNat)):=aBz λ_=>rfl
def bc3{l:List pt}:rV (cz 4 Y (sl pt.c l)<|iv i) K=(aF (L l) i/\K (.q<|pt.c<|gd l i.toNat)):=aBz λ_=>rfl
def aPR{a b:Int}:wl .rem 0 [] (iv a) (iv b)=if b≠0 then V (iv<|a.tmod b) else J:=by by_cases h:b=0<;>simp[wl,zP,h]
def a5N{a b:Int}:wl .quo 0 [] (iv a) (iv b)=if b≠0 then V (iv<|dq.wrap<|a.tdiv b) else J:=by by_cases h:b=0<;>simp[wl,zP,h]
end
def Ca:=ai @bcY<|ai @bc0<|ai @bcX<|ai @bc2<|ai @bcZ<|ai @bc1<|@bc3
mutual
def a53:∀{x y:fc},fc.c x=fc.c y->x=y
 | .mk a b c d, .mk e f g j,h=>by
  simp only[fc.c,kO,AV.s.injEq,mW,mX,AV.l.injEq,bR,tn] at h
  obtain⟨rfl,rfl,rfl,h⟩:=h
  rw[a6d h]
def a6d:∀{x y:List fc},fc.cr x=fc.cr y->x=y
 |[],[],_=>rfl
 |[],_::_,h=>by grind [fc.cr]
 |_::_,[],h=>by grind [fc.cr]
 |a::l,b::m,h=>by
  simp only[fc.cr,kO] at h
  rw[a53 h.1,a6d h.2]
end
theorem aOD{x y:fc}:(fc.c x=fc.c y)=(x=y):=u5 ⟨a53,λh=>by rw[h]⟩
def aOZ{l l':List fc}:(sl fc.c l=sl fc.c l')=(l=l'):=(by grind [kL,aOD])
mutual
def a54:∀{x y:eo},eo.c x=eo.c y->x=y
 | .mk a b c d e f g i, .mk k m o p t j u B,h=>by
  simp only[eo.c,kO,AV.s.injEq,mW,mX,AV.l.injEq,bR,tn,aOZ] at h
  obtain⟨rfl,rfl,rfl,rfl,rfl,v,w,z,A,q,r⟩:=h
  have:f=j:=by
   obtain⟨a,b,c,d⟩:=f;obtain⟨k,m,o,p⟩:=j
   grind [fc.op,fc.n,fc.name,fc.l]
  rw[this,aV9 q,aV9 r]
def aV9:∀{x y:List eo},eo.cr x=eo.cr y->x=y
 |[],[],_=>rfl
 |[],_::_,h=>by grind [eo.cr]
 |_::_,[],h=>by grind [eo.cr]
 |a::l,b::m,h=>by
  simp only[eo.cr,kO] at h
  rw[a54 h.1,aV9 h.2]
end
theorem a6B{x y:eo}:(eo.c x=eo.c y)=(x=y):=u5 ⟨a54,λh=>by rw[h]⟩
def aO0{l l':List eo}:(sl eo.c l=sl eo.c l')=(l=l'):=(by grind [kL,a6B])
structure xd where
 aq:Int
 lD:Int
 deriving Inhabited,DecidableEq
def xd.c(x:xd):List AV:=[iv x.aq,iv x.lD]
theorem aOY{x y:w6}:(w6.c x=w6.c y)=(x=y):=by apply u5;constructor;intro h;(cases x;cases y);simp only[w6.c,br.c,aW.c,zn,dW,kO,AV.s.injEq,mW,mV,mX,bR,tn,amV,aOD,aOZ,aO0] at h;simp only[w6.mk.injEq,br.ext_iff',aW.ext_iff',mn.ext_iff',aNR];exact h;intro h;rw[h]
def aPj{l l':List w6}:(sl w6.c l=sl w6.c l')=(l=l'):=(by grind [kL,aOY])
theorem aPD{x y:xt}:(xt.c x=xt.c y)=(x=y):=by apply u5;constructor;intro h;(cases x;cases y);simp only[xt.c,br.c,aW.c,zn,dW,kO,AV.s.injEq,mW,mV,mX,bR,tn,amV,aOD,aOZ,aO0,aOY,aPj] at h;simp only[xt.mk.injEq,br.ext_iff',aW.ext_iff',mn.ext_iff',aNR];exact h;intro h;rw[h]
def aPE{l l':List xt}:(sl xt.c l=sl xt.c l')=(l=l'):=(by grind [kL,aPD])
theorem aPC{x y:xr}:(xr.c x=xr.c y)=(x=y):=by apply u5;constructor;intro h;(cases x;cases y);simp only[xr.c,br.c,aW.c,zn,dW,kO,AV.s.injEq,mW,mV,mX,bR,tn,amV,aOD,aOZ,aO0,aOY,aPj,aPD,aPE] at h;simp only[xr.mk.injEq,br.ext_iff',aW.ext_iff',mn.ext_iff',aNR];exact h;intro h;rw[h]
def aQr{l l':List xr}:(sl xr.c l=sl xr.c l')=(l=l'):=(by grind [kL,aPC])
theorem aPX{x y:lF}:(lF.c x=lF.c y)=(x=y):=by apply u5;constructor;intro h;(cases x;cases y);simp only[lF.c,br.c,aW.c,zn,dW,kO,AV.s.injEq,mW,mV,mX,bR,tn,amV,aOD,aOZ,aO0,aOY,aPj,aPD,aPE,aPC,aQr] at h;simp only[lF.mk.injEq,br.ext_iff',aW.ext_iff',mn.ext_iff',aNR];exact h;intro h;rw[h]
def aQq{l l':List lF}:(sl lF.c l=sl lF.c l')=(l=l'):=(by grind [kL,aPX])
theorem aQp{x y:A2}:(A2.c x=A2.c y)=(x=y):=by apply u5;constructor;intro h;(cases x;cases y);simp only[A2.c,br.c,aW.c,zn,dW,kO,AV.s.injEq,mW,mV,mX,bR,tn,amV,aOD,aOZ,aO0,aOY,aPj,aPD,aPE,aPC,aQr,aPX,aQq] at h;simp only[A2.mk.injEq,br.ext_iff',aW.ext_iff',mn.ext_iff',aNR];exact h;intro h;rw[h]
def aRT{l l':List A2}:(sl A2.c l=sl A2.c l')=(l=l'):=(by grind [kL,aQp])
theorem aQY{x y:qt}:(qt.c x=qt.c y)=(x=y):=by apply u5;constructor;intro h;(cases x;cases y);simp only[qt.c,br.c,aW.c,zn,dW,kO,AV.s.injEq,mW,mV,mX,bR,tn,amV,aOD,aOZ,aO0,aOY,aPj,aPD,aPE,aPC,aQr,aPX,aQq,aQp,aRT] at h;simp only[qt.mk.injEq,br.ext_iff',aW.ext_iff',mn.ext_iff',aNR];exact h;intro h;rw[h]
def aTm{l l':List qt}:(sl qt.c l=sl qt.c l')=(l=l'):=(by grind [kL,aQY])
theorem aRS{x y:pt}:(pt.c x=pt.c y)=(x=y):=by apply u5;constructor;intro h;(cases x;cases y);simp only[pt.c,br.c,aW.c,zn,dW,kO,AV.s.injEq,mW,mV,mX,bR,tn,amV,aOD,aOZ,aO0,aOY,aPj,aPD,aPE,aPC,aQr,aPX,aQq,aQp,aRT,aQY,aTm] at h;simp only[pt.mk.injEq,br.ext_iff',aW.ext_iff',mn.ext_iff',aNR];exact h;intro h;rw[h]
def aWB{l l':List pt}:(sl pt.c l=sl pt.c l')=(l=l'):=(by grind [kL,aRS])
theorem aTl{x y:pm}:(pm.c x=pm.c y)=(x=y):=by apply u5;constructor;intro h;(cases x;cases y);simp only[pm.c,br.c,aW.c,zn,dW,kO,AV.s.injEq,mW,mV,mX,bR,tn,amV,aOD,aOZ,aO0,aOY,aPj,aPD,aPE,aPC,aQr,aPX,aQq,aQp,aRT,aQY,aTm,aRS,aWB] at h;simp only[pm.mk.injEq,br.ext_iff',aW.ext_iff',mn.ext_iff',aNR];exact h;intro h;rw[h]
def a6C{l l':List pm}:(sl pm.c l=sl pm.c l')=(l=l'):=(by grind [kL,aTl])
theorem aWA{x y:O3}:(O3.c x=O3.c y)=(x=y):=by apply u5;constructor;intro h;(cases x;cases y);simp only[O3.c,br.c,aW.c,zn,dW,kO,AV.s.injEq,mW,mV,mX,bR,tn,amV,aOD,aOZ,aO0,aOY,aPj,aPD,aPE,aPC,aQr,aPX,aQq,aQp,aRT,aQY,aTm,aRS,aWB,aTl,a6C] at h;simp only[O3.mk.injEq,br.ext_iff',aW.ext_iff',mn.ext_iff',aNR];exact h;intro h;rw[h]
def bcS{l l':List O3}:(sl O3.c l=sl O3.c l')=(l=l'):=(by grind [kL,aWA])
theorem a6A{x y:xd}:(xd.c x=xd.c y)=(x=y):=by apply u5;constructor;intro h;(cases x;cases y);simp only[xd.c,br.c,aW.c,zn,dW,kO,AV.s.injEq,mW,mV,mX,bR,tn,amV,aOD,aOZ,aO0,aOY,aPj,aPD,aPE,aPC,aQr,aPX,aQq,aQp,aRT,aQY,aTm,aRS,aWB,aTl,a6C,aWA,bcS] at h;simp only[xd.mk.injEq,br.ext_iff',aW.ext_iff',mn.ext_iff',aNR];exact h;intro h;rw[h]
def bcR{l l':List xd}:(sl xd.c l=sl xd.c l')=(l=l'):=(by grind [kL,a6A])
def Nb:=ai @aOD<|ai @a6B<|ai @aO0<|ai @aOY<|ai @aPj<|ai @aPE<|ai @aPC<|ai @aPX<|ai @aQq<|ai @aQp<|ai @aQY<|ai @aRS<|ai @aTl<|ai @aWA<|ai @a6A<|@bcR
def ben{x:fc}:aN J (fc.c x)=V (iv x.op):=by rw[aoH];rfl
def beo{x:fc}:aN J ((fc.c x).drop 1)=V (iv x.n):=by rw[aoH];rfl
def bep{x:fc}:aN J ((fc.c x).drop 2)=V (st x.name):=by rw[aoH];rfl
def ber{x:fc}:aN J ((fc.c x).drop 3)=V (sl fc.c x.l):=by rw[aoH];rfl
theorem a69{x:fc}:aN (V 4) (fc.c x)=V (.a<|fc.c x):=by rw[aoH];rfl
def beI{x:eo}:aN J (eo.c x)=V (iv x.op):=by rw[apT];rfl
def beJ{x:eo}:aN J ((eo.c x).drop 1)=V (iv x.line):=by rw[apT];rfl
def beL{x:eo}:aN J ((eo.c x).drop 2)=V (st x.name):=by rw[apT];rfl
def beM{x:eo}:aN J ((eo.c x).drop 3)=V (st x.arg):=by rw[apT];rfl
def beN{x:eo}:aN J ((eo.c x).drop 4)=V (sl fc.c x.index):=by rw[apT];rfl
def beO{x:eo}:aN J ((eo.c x).drop 9)=V (sl eo.c x.body):=by rw[apT];rfl
def beK{x:eo}:aN J ((eo.c x).drop 10)=V (sl eo.c x.els):=by rw[apT];rfl
def beP{x:eo}:aN (V 4) ((eo.c x).drop 5)=V (.a<|fc.c x.expr):=by rw[apT,aoH];rfl
def beQ{x:eo}:aN (V 11) (eo.c x)=V (.a<|eo.c x):=by rw[apT];rfl
def bef{x:w6}:aN J (w6.c x)=V (iv x.kind):=rfl
def beg{x:w6}:aN J ((w6.c x).drop 1)=V (iv x.line):=rfl
def beh{x:w6}:aN J ((w6.c x).drop 2)=V (st x.name):=rfl
def bei{x:w6}:aN J ((w6.c x).drop 3)=V (iv x.size):=rfl
def bej{x:w6}:aN J ((w6.c x).drop 4)=V (iv x.init):=rfl
def bek{x:w6}:aN J ((w6.c x).drop 5)=V (st x.on):=rfl
def bem{x:w6}:aN (V 6) (w6.c x)=V (.a<|w6.c x):=rfl
def beU{x:xt}:aN J (xt.c x)=V (st x.name):=rfl
def beV{x:xt}:aN J ((xt.c x).drop 1)=V (iv x.line):=rfl
def beW{x:xt}:aN J ((xt.c x).drop 2)=V (sl cs x.locs):=rfl
def beX{x:xt}:aN J ((xt.c x).drop 3)=V (sl eo.c x.body):=rfl
def beY{x:xt}:aN (V 4) (xt.c x)=V (.a<|xt.c x):=rfl
def bez{x:xr}:aN J (xr.c x)=V (sl w6.c x.A7):=rfl
def beA{x:xr}:aN J ((xr.c x).drop 1)=V (sl xt.c x.ay):=rfl
def beB{x:xr}:aN (V 2) (xr.c x)=V (.a<|xr.c x):=rfl
def bes{x:lF}:aN J (lF.c x)=V (iv x.op):=rfl
def bet{x:lF}:aN J ((lF.c x).drop 1)=V (iv x.a):=rfl
def beu{x:lF}:aN J ((lF.c x).drop 2)=V (iv x.b):=rfl
def bev{x:lF}:aN J ((lF.c x).drop 3)=V (iv x.k):=rfl
def bew{x:lF}:aN J ((lF.c x).drop 4)=V (iv x.n):=rfl
def bex{x:lF}:aN J ((lF.c x).drop 5)=V (iv x.site):=rfl
def bey{x:lF}:aN (V 6) (lF.c x)=V (.a<|lF.c x):=rfl
def beR{x:A2}:aN J (A2.c x)=V (iv x.li):=rfl
def beS{x:A2}:aN J ((A2.c x).drop 1)=V (sl lF.c x.No):=rfl
def beT{x:A2}:aN (V 2) (A2.c x)=V (.a<|A2.c x):=rfl
def bd9{x:qt}:aN J (qt.c x)=V (sl cA.c x.aQ.cells):=rfl
def bea{x:qt}:aN J ((qt.c x).drop 3)=V (sl cs x.aQ.bU):=rfl
def beb{x:qt}:aN J ((qt.c x).drop 4)=V (sl cs x.aQ.ay):=rfl
def bec{x:qt}:aN J ((qt.c x).drop 6)=V (sl A2.c x.ay):=rfl
def bed{x:qt}:aN (V 6) (qt.c x)=V (.a<|x.aQ.c):=rfl
def bee{x:qt}:aN (V 7) (qt.c x)=V (.a<|qt.c x):=rfl
def beZ{x:pt}:aN J (pt.c x)=V (iv x.pc):=rfl
def be0{x:pt}:aN J ((pt.c x).drop 1)=V (sl ci x.li):=rfl
def be1{x:pt}:aN J ((pt.c x).drop 2)=V (sl cl x.lj):=rfl
def be2{x:pt}:aN (V 4) (pt.c x)=V (.a<|pt.c x):=rfl
def beC{x:pm}:aN J ((pm.c x).drop 3)=V (sl kw.c x.bm.ay):=rfl
def beD{x:pm}:aN J ((pm.c x).drop 4)=V (sl ci x.cells):=rfl
def beE{x:pm}:aN J ((pm.c x).drop 5)=V (sl ci x.bU):=rfl
def beF{x:pm}:aN J ((pm.c x).drop 6)=V (sl pt.c x.ay):=rfl
def beG{x:pm}:aN (V 4) (pm.c x)=V (.a<|x.bm.c):=rfl
def beH{x:pm}:aN (V 7) (pm.c x)=V (.a<|pm.c x):=rfl
def bpn{x:xd}:aN J (xd.c x)=V (iv x.aq):=rfl
def bpo{x:xd}:aN J ((xd.c x).drop 1)=V (iv x.lD):=rfl
def bpp{x:xd}:aN (V 2) (xd.c x)=V (.a<|xd.c x):=rfl
def yr{a:AV}{l:List AV}:aN J (a::l)=V a:=rfl
def C5{α:Type}{a:α}{n:Nat}{l:List α}:aOz (n+1) (a::l)=aOz n l:=rfl
def yd{α:Type}{l:List α}:aOz 0 l=l:=rfl
def gw:=ai @ben<|ai @beo<|ai @bep<|ai @ber<|ai @a69<|ai @beI<|ai @beJ<|ai @beL<|ai @beM<|ai @beN<|ai @beO<|ai @beK<|ai @beP<|ai @beQ<|ai @bef<|ai @beg<|ai @beh<|ai @bei<|ai @bej<|ai @bek<|ai @bem<|ai @beU<|ai @beV<|ai @beW<|ai @beX<|ai @beY<|ai @bez<|ai @beA<|ai @beB<|ai @bes<|ai @bet<|ai @beu<|ai @bev<|ai @bew<|ai @bex<|ai @bey<|ai @beR<|ai @beS<|ai @beT<|ai @bd9<|ai @bea<|ai @beb<|ai @bec<|ai @bed<|ai @bee<|ai @beZ<|ai @be0<|ai @be1<|ai @be2<|ai @beC<|ai @beD<|ai @beE<|ai @beF<|ai @beG<|ai @beH<|ai @bpn<|ai @bpo<|ai @bpp<|ai @yr<|ai @C5<|@yd
def bab{Y:ae}{x:fc}:dG Y (.a<|fc.c x)= .a (fc.c x):=by rw[aoH];rfl
def baf{Y:ae}{x:eo}:dG Y (.a<|eo.c x)= .a (eo.c x):=by rw[apT];rfl
def baa{Y:ae}{x:w6}:dG Y (.a<|w6.c x)= .a (w6.c x):=rfl
def bad{Y:ae}{x:xr}:dG Y (.a<|xr.c x)= .a (xr.c x):=rfl
def bac{Y:ae}{x:lF}:dG Y (.a<|lF.c x)= .a (lF.c x):=rfl
def bag{Y:ae}{x:A2}:dG Y (.a<|A2.c x)= .a (A2.c x):=rfl
def a99{Y:ae}{x:qt}:dG Y (.a<|qt.c x)= .a (qt.c x):=rfl
def bai{Y:ae}{x:pt}:dG Y (.a<|pt.c x)= .a (pt.c x):=rfl
def bae{Y:ae}{x:pm}:dG Y (.a<|pm.c x)= .a (pm.c x):=rfl
def bah{Y:ae}{x:O3}:dG Y (.a<|O3.c x)= .a (O3.c x):=rfl
def a98{Y:ae}{x:xd}:dG Y (.a<|xd.c x)= .a (xd.c x):=rfl
def bba{v:Value}:iX (.s v)=U:=rfl
def ba8{α:Type}{f:α->List AV}{l:List α}:iX (sl f l)=U:=rfl
def bbb{x:fc}:iX (.a<|fc.c x)=U:=by simp[iX,eN,aoH,sl]
def bbd{x:eo}:iX (.a<|eo.c x)=U:=by simp[iX,eN,apT,sl]
def bbc{x:xr}:iX (.a<|xr.c x)=U:=rfl
def aOW:=ai @bba<|ai @ba8<|ai @bbb<|ai @bbd<|@bbc
def Fa:=ai @bab<|ai @baf<|ai @baa<|ai @bad<|ai @bac<|ai @bag<|ai @a99<|ai @bai<|ai @bae<|ai @bah<|@a98
section
variable{K:o8}{Y:ae}{i:Int}
def boW{l:List xd}:rV (cz 2 Y (sl xd.c l)<|iv i) K=(aF (L l) i/\K (.q<|xd.c<|gd l i.toNat)):=aBz λ_=>rfl
end
abbrev qN:ByteArray:=⟨#[113]⟩
def C6:Nat->fc->Prop|0,_=>False|n+1,e=>(((e.op=1\/e.op=2)/\e.l=[])\/(e.op=3/\e.name=qN/\L e.l=1)\/(6<=e.op/\L e.l=2))/\∀x∈e.l,C6 n x
theorem C6.len{n:Nat}{e:fc}(h:C6 n e):L e.l<=2:=by cases n with|zero=>exact h.elim|succ n=>rcases h.1 with⟨_,h⟩|⟨_,_,h⟩|⟨_,h⟩<;>simp[h]
theorem C6.sub{n:Nat}{e:fc}(h:C6 n e){k:Nat}(a:k<L e.l):∃m,n=m+1/\C6 m (gd e.l k):=by cases n with|zero=>exact h.elim|succ n=>exact⟨n,rfl,h.2 _ (dB a)⟩
theorem C6.mono:∀{n m:Nat} {e:fc},C6 n e->n<=m->C6 m e
 |0,_,_,h,_=>h.elim
 |n+1,0,_,_,h=>by omega
 |n+1,m+1,e,h,b=>⟨h.1,λx a=>(h.2 x a).mono<|by omega⟩
def A5:Nat->eo->Prop|0,_=>False|n+1,s=>((s.op=1\/s.op=2\/s.op=3\/s.op=14)->C6 2 s.expr)/\L s.index<=1/\(∀x∈s.index,C6 2 x)/\(s.index≠[]->s.name=qN)/\L s.expr.l<=2/\L s.body<=4/\(∀x∈s.body,A5 n x)/\L s.els<=4/\(∀x∈s.els,A5 n x)/\1<=s.op/\s.op<=15
def A5.up{n:Nat}{s:eo}(h:A5 n s):∃m,n=m+1/\(∀x∈s.body,A5 m x)/\∀x∈s.els,A5 m x:=by cases n with|zero=>exact h.elim|succ n=>exact⟨n,rfl,h.2.2.2.2.2.2.1,h.2.2.2.2.2.2.2.2.1⟩
def A5.at{n:Nat}{s:eo}(h:A5 n s):((s.op=1\/s.op=2\/s.op=3\/s.op=14)->C6 2 s.expr)/\L s.index<=1/\(∀x∈s.index,C6 2 x)/\(s.index≠[]->s.name=qN)/\L s.expr.l<=2/\L s.body<=4/\L s.els<=4:=by cases n with|zero=>exact h.elim|succ n=>exact⟨h.1,h.2.1,h.2.2.1,h.2.2.2.1,h.2.2.2.2.1,h.2.2.2.2.2.1,h.2.2.2.2.2.2.2.1⟩
def A5.ops{n:Nat}{s:eo}(h:A5 n s):1<=s.op/\s.op<=15:=by cases n with|zero=>exact h.elim|succ n=>exact h.2.2.2.2.2.2.2.2.2
theorem A5.mono:∀{n m:Nat} {s:eo},A5 n s->n<=m->A5 m s
 |0,_,_,h,_=>h.elim
 |n+1,0,_,_,h=>by omega
 |n+1,m+1,s,⟨c,d,e,f,g,i,j,k,l,b⟩,o=>⟨c,d,e,f,g,i,λx a=>(j x a).mono (by omega),k,λx a=>(l x a).mono (by omega),b⟩
def shL(n m:Nat)(l:List eo):Prop:=L l<=m/\∀s∈l,A5 n s
def A5.body{n:Nat}{s:eo}(h:A5 n s):∃m,n=m+1/\shL m 4 s.body/\shL m 4 s.els:=by obtain⟨m,e,a,b⟩:=h.up;exact⟨m,e,⟨h.at.2.2.2.2.2.1,a⟩,⟨h.at.2.2.2.2.2.2,b⟩⟩
def shT(t:xt):Prop:=L t.locs<=4/\shL 4 8 t.body
def PrB(p:xr):Prop:=L p.A7<1000/\L p.ay<1000/\∀t∈p.ay,L t.locs<1000
def shP(p:xr):Prop:=PrB p/\L p.ay<=4/\∀t∈p.ay,shT t
section
variable{i:Nat}(F:FT)
def aP7{A:Type}{b:A->List AV}{c:A->o8}(k:∀a,Ct i (b a)<|c a):FT:=λys K=>∃a,ys=b a/\∀r,c a r->K r
def aRM{A:Type}{b:A->List AV}{e:A->o8}(k:∀a,Ct i (b a)<|e a)(a:A)(d K:o8)(g:F=aP7 k:=by exact rfl)(j:∀a c,b a=b c->a=c:=by simp+contextual only[ij]):fW F (b a) d K=(∀r,e a r->d r/\K r):=by subst g;apply u5;constructor;rintro⟨c,h,f⟩;obtain rfl:=j _ _ h;exact f;intro h;exact⟨_,rfl,h⟩
def aR6{A:Type}{b:A->List AV}{e:A->o8}(k:∀a,Ct i (b a)<|e a)(c:∀a,(b a).all iX=U:=by intros;exact rfl):∀ys K,aP7 k ys K->jz aS GG i ys K:=by rintro ys K ⟨a,rfl,h⟩;exact nX (k a) (c a) (λr d=>h r d)
def aRd{A B:Type}{c:A->B->List AV}{d:A->B->o8}(k:∀a b,Ct i (c a b)<|d a b):FT:=λys K=>∃a b,ys=c a b/\∀r,d a b r->K r
def aWg{A B:Type}{c:A->B->List AV}{g:A->B->o8}(k:∀a b,Ct i (c a b)<|g a b)(a:A)(b:B)(f K:o8)(m:F=aRd k:=by exact rfl)(j:∀a b d e,c a b=c d e->a=d/\b=e:=by simp+contextual only[ij]):fW F (c a b) f K=(∀r,g a b r->f r/\K r):=by subst m;apply u5;constructor;rintro⟨d,e,h,l⟩;obtain⟨rfl,rfl⟩:=j _ _ _ _ h;exact l;intro h;exact⟨_,_,rfl,h⟩
def aYm{A B:Type}{c:A->B->List AV}{f:A->B->o8}(k:∀a b,Ct i (c a b)<|f a b)(d:∀a b,(c a b).all iX=U:=by intros;exact rfl):∀ys K,aRd k ys K->jz aS GG i ys K:=by rintro ys K ⟨a,b,rfl,h⟩;exact nX (k a b) (d a b) (λr e=>h r e)
def aSb{A B C:Type}{d:A->B->C->List AV}{e:A->B->C->o8}(k:∀a b c,Ct i (d a b c)<|e a b c):FT:=λys K=>∃a b c,ys=d a b c/\∀r,e a b c r->K r
def a6o{A B C:Type}{d:A->B->C->List AV}{m:A->B->C->o8}(k:∀a b c,Ct i (d a b c)<|m a b c)(a:A)(b:B)(c:C)(l K:o8)(o:F=aSb k:=by exact rfl)(j:∀a b c e f g,d a b c=d e f g->a=e/\b=f/\c=g:=by simp+contextual only[ij]):fW F (d a b c) l K=(∀r,m a b c r->l r/\K r):=by subst o;apply u5;constructor;rintro⟨e,f,g,h,n⟩;obtain⟨rfl,rfl,rfl⟩:=j _ _ _ _ _ _ h;exact n;intro h;exact⟨_,_,_,rfl,h⟩
def a7W{A B C:Type}{d:A->B->C->List AV}{g:A->B->C->o8}(k:∀a b c,Ct i (d a b c)<|g a b c)(e:∀a b c,(d a b c).all iX=U:=by intros;exact rfl):∀ys K,aSb k ys K->jz aS GG i ys K:=by rintro ys K ⟨a,b,c,rfl,h⟩;exact nX (k a b c) (e a b c) (λr f=>h r f)
def bix{A B C D:Type}{e:A->B->C->D->List AV}{f:A->B->C->D->Prop}{v:A->B->C->D->AV}(k:∀a b c d,f a b c d->Ct i (e a b c d) (·=v a b c d)):FT:=λys K=>∃a b c d,ys=e a b c d/\f a b c d/\K (v a b c d)
def bmX{A B C D:Type}{e:A->B->C->D->List AV}{o:A->B->C->D->Prop}{v:A->B->C->D->AV}(k:∀a b c d,o a b c d->Ct i (e a b c d) (·=v a b c d))(a:A)(b:B)(c:C)(d:D)(n K:o8)(q:F=bix k:=by exact rfl)(j:∀a b c d f g l m,e a b c d=e f g l m->a=f/\b=g/\c=l/\d=m:=by simp+contextual only[ij]):fW F (e a b c d) n K=(o a b c d/\n (v a b c d)/\K (v a b c d)):=by subst q;apply u5;constructor;rintro⟨f,g,l,m,h,p⟩;obtain⟨rfl,rfl,rfl,rfl⟩:=j _ _ _ _ _ _ _ _ h;exact p;intro h;exact⟨_,_,_,_,rfl,h⟩
def bnA{A B C D:Type}{e:A->B->C->D->List AV}{l:A->B->C->D->Prop}{v:A->B->C->D->AV}(k:∀a b c d,l a b c d->Ct i (e a b c d) (·=v a b c d))(f:∀a b c d,(e a b c d).all iX=U:=by intros;exact rfl):∀ys K,bix k ys K->jz aS GG i ys K:=by rintro ys K ⟨a,b,c,d,rfl,g,h⟩;exact nX (k a b c d g) (f a b c d) (λr j=>by rw[j];exact h)
def aTQ{A B C D E:Type}{f:A->B->C->D->E->List AV}{g:A->B->C->D->E->Prop}{h:A->B->C->D->E->o8}(k:∀a b c d e,g a b c d e->Ct i (f a b c d e) (h a b c d e)):FT:=λys K=>∃a b c d e,ys=f a b c d e/\g a b c d e/\∀r,h a b c d e r->K r
def bbn{A B C D E:Type}{f:A->B->C->D->E->List AV}{q:A->B->C->D->E->Prop}{s:A->B->C->D->E->o8}(k:∀a b c d e,q a b c d e->Ct i (f a b c d e) (s a b c d e))(a:A)(b:B)(c:C)(d:D)(e:E)(p K:o8)(u:F=aTQ k:=by exact rfl)(j:∀a b c d e g l m n o,f a b c d e=f g l m n o->a=g/\b=l/\c=m/\d=n/\e=o:=by simp+contextual only[ij]):fW F (f a b c d e) p K=(q a b c d e/\∀r,s a b c d e r->p r/\K r):=by subst u;apply u5;constructor;rintro⟨g,l,m,n,o,h,t⟩;obtain⟨rfl,rfl,rfl,rfl,rfl⟩:=j _ _ _ _ _ _ _ _ _ _ h;exact t;intro h;exact⟨_,_,_,_,_,rfl,h⟩
def bhJ{A B C D E:Type}{f:A->B->C->D->E->List AV}{m:A->B->C->D->E->Prop}{n:A->B->C->D->E->o8}(k:∀a b c d e,m a b c d e->Ct i (f a b c d e) (n a b c d e))(g:∀a b c d e,(f a b c d e).all iX=U:=by intros;exact rfl):∀ys K,aTQ k ys K->jz aS GG i ys K:=by rintro ys K ⟨a,b,c,d,e,rfl,j,h⟩;exact nX (k a b c d e j) (g a b c d e) (λr l=>h r l)
end
def B1:AV->AV| .t vs=> .t (vs.map nrm)|x=>nrm x
theorem bdV{κ:rm}{w:World}{Y:ae}{β:Id->Nat}{v:Value}{x:AV}(h:ba κ w Y β v x):ba κ w Y β v (B1 x):=by cases x with|t vs=>(cases h with|t d h=>refine .t (by grind) λi v c f b=>?_;grind [bE,yo])|_=>exact yo h
theorem a6f{x:AV}:nj (gK x)=nj x:=by cases x<;>rfl
theorem aWa{x:AV}:pF (nrm x)=pF x:=by cases x with|a cs=>grind [nrm,pF,List.all_map,a6f]|_=>first|rfl|exact a6f
def ba7{x:AV}:kG (B1 x)=kG x:=by have h:=@aWa x;(cases x<;>first|exact h|skip);grind [B1,kG,List.all_map,aWa]
def aDq{fn:Nat}{ys:List AV}{Q:o8}(h:Ct fn ys λr=>Q<|B1 r):Ct fn ys Q:=by obtain⟨r,f,g,i,j⟩:=h;refine⟨B1 r,f,by rw[ba7];exact g,i,λF w d a b c=>(j F w d a b c).mono ?_⟩;grind [bdV]
def fz(Y:ae)(c:AV):AV:=gK<|dQ Y c
def fzT(Y:ae):AV->AV| .a cs=> .a (cs.map<|fz Y)|x=>fz Y x
def bcq{Y:ae}{c:AV}:(∃l t o,dQ Y c= .l l t o)\/dQ Y c=c:=by(cases c<;>first|exact .inr rfl|skip);grind [box,dQ,eN,frN]
theorem aXU{Y:ae}{x:AV}:nrm (iZ Y x)=fzT Y x:=by cases x with|a cs=>simp only[iZ,nrm,fzT,vA];rfl|m b n=>show nrm (dQ Y<|.m b n)=gK (dQ Y<|.m b n);(rcases bcq (Y:=Y) (c:= .m b n) with⟨l,t,o,h⟩|h<;>rw[h]<;>rfl)|_=>rfl
theorem a6g{Y:ae}{x:AV}(h:iX (fzT Y x)=U):pF (iZ Y x)=U:=by have b:pF (nrm<|iZ Y x)=U:=(by rw[aXU];generalize fzT Y x=y at h;cases y with|a cs=>simp only[iX,dV] at h;simp only[pF,dV];intro c d;have:=h c d;(cases c<;>first|rfl|grind [eN])|_=>first|rfl|grind [iX,eN]);rwa [aWa] at b
def aOH{Q:o8}{Y:ae}{vs vs':List AV}(h:vs.map (fzT Y)=vs')(d:vs'.all iX=U)(c:Q<|aoz vs'):aE (λr=>Q<|B1 r) Y vs:=by have b:kG (.t<|vs.map<|iZ Y)=U/\B1 (.t<|vs.map<|iZ Y)= .t vs':=(by constructor;grind [kG,List.all_map,dV,a6g,List.mem_map_of_mem];simp only[B1,vA,<-h];grind [ja,aXU]);unfold aE jS;rcases vs with _|⟨v,_|⟨w,l⟩⟩;subst h;exact⟨rfl,c⟩;subst h;simp only[ji,mU,Cs,aqG,ru] at d;have f:=a6g d;have g:B1 (iZ Y v)=fzT Y v/\kG (iZ Y v)=pF (iZ Y v):=(by rw[<-aXU];generalize iZ Y v=y at f;cases y<;>first|exact⟨rfl,rfl⟩|grind [pF,nj]);refine⟨by simp_all,?_⟩;show Q<|B1<|iZ Y v;rw[g.1];exact c;subst h;refine⟨b.1,?_⟩;show Q<|B1<|.t<|(v::w::l).map<|iZ Y;rw[b.2];exact c
def aOv{Q:o8}{Y:ae}{v v':AV}(h:fzT Y v=v')(c:iX v'=U)(b:Q v'):aE (λr=>Q<|B1 r) Y [v]:=by subst h;exact aOH (vs':=[fzT Y v]) rfl (by simp[c]) b
theorem aQ7{Y:ae}{v x:AV}(h:fzT Y v=x)(b:iX x=U):aE (λr=>B1 r=x) Y [v]:=aOv (Q:=(·=x)) h b rfl
def gm(Y:ae)(e:TypeId)(z:Nat)(a:AV)(aa:List<|List AV):Prop:=(aa=[]/\a= .l [] U U)\/∃b m,a= .m b (L aa)/\box Y b=V ⟨e,z,U,I,aa++m⟩
theorem bc.p{Y:ae}{e:TypeId}{z:Nat}{a:AV}{aa:List (List AV)}(h:bc Y e z a aa):gm Y e z a aa:=by rcases h with h|⟨b,c,d⟩;exact .inl h;exact .inr ⟨b,[],c,by simpa using d⟩
section
variable{Y Y':ae}{e:TypeId}{z:Nat}{a:AV}{aa:List (List AV)}
theorem gm.fx{ks:List Id}(f:gm Y e z a aa)(d:Fx Y Y' ks)(g:∀b∈aA a,b∉ks):gm Y' e z a aa:=by rcases f with h|⟨b,m,rfl,c⟩;exact .inl h;exact .inr ⟨b,m,rfl,d.keep b _ (g b<|by simp[aA]) c⟩
def aWt{v:Value}:fz Y (.s v)= .s v:=rfl
def bcz{t o:Bool}:fz Y (.l aa t o)= .l aa I I:=rfl
def aBr(h:gm Y e z a aa):fz Y a= .l aa I I:=by rcases h with⟨rfl,rfl⟩|⟨b,m,rfl,c⟩;rfl;simp[fz,dQ,c,gK]
def aWs(h:gm Y e z a aa):fzT Y a= .l aa I I:=by rw[<-aBr h];rcases h with⟨rfl,rfl⟩|⟨b,m,rfl,c⟩<;>rfl
def lz(Y:ae)(c:AV):AV:=gK<|gi Y c
def aQ5{v:Value}:lz Y (.s v)= .s v:=rfl
def aXQ{t o:Bool}:lz Y (.l aa t o)= .l aa I I:=rfl
def aOb(h:gm Y e z a aa):lz Y a= .l aa I I:=by rcases h with⟨rfl,rfl⟩|⟨b,m,rfl,c⟩;rfl;simp[lz,gi,c,gK]
theorem gm.ce(h:gm Y e z a aa):eY a=V [a]:=by rcases h with⟨_,rfl⟩|⟨b,m,rfl,_⟩<;>rfl
theorem gm.ln(h:gm Y e z a aa):fS Y a=V (iv<|L aa):=by rcases h with⟨rfl,rfl⟩|⟨b,m,rfl,c⟩;rfl;simp[fS,c]
def gm.ar(h:gm Y e z a aa):dG Y a= .l aa I I:=by rcases h with⟨rfl,rfl⟩|⟨b,m,rfl,c⟩;rfl;simp[dG,eR,gi,c,nrm,gK]
def oo{b:Id}{i j:Nat}{x:bY}(h:box Y b=V x):cO Y (.p b i j)=V (.p b i j):=by simp[cO,h]
theorem qs{d c:Nat}{j:List AV}{new:List (List AV)}{t o:Bool}{K:be}(k:gm Y e z a aa)(p:L j=z)(q:0<z)(f:d<L Y)(w:∀r∈aa,L r=z)(v:∀r∈new,L r=z)(s:new≠[])(u:(L aa+L new)*(c+1)<=1099511627776)(i:∀g Y',bc Y' e z g (aa++new)->Fx Y Y' (aA a)->(∀b∈aA g,bK Y b/\b.1=d)->K g Y'):eV (cj e j c Y d a<|.l new t o) K:=by unfold cj;simp only[gL];rw[bA (by grind),d7 ⟨by omega,by simp[vg,f],by simp_all⟩];rcases k with⟨rfl,rfl⟩|⟨b,m,rfl,h⟩;simp only;rw[d7 ⟨by simp,by grind [lx]⟩];refine i _ _ (.inr ⟨lA Y d,by simp,?_⟩) ((kH f).mono<|by simp) (by simp[aA];exact⟨qQ Y d,rfl⟩);grind [iy];simp only[h];rw[d7 ⟨trivial,trivial,p.symm,by simp,by grind [lx]⟩];have n:d<L (kill Y b):=(by grind [yg]);refine i _ _ (.inr ⟨lA Y d,by simp,?_⟩) (((Le h).trans<|kH n).mono<|by simp[aA]) (by simp[aA];exact⟨qQ Y d,rfl⟩);grind [List.take_left',anF,iy]
theorem slP{i:Int}{K:o8}(g:gm Y e z a aa)(f:0<=i)(j:i<=L aa)(d:∀c,gm Y e z c (aa.take i.toNat)->aA c=aA a->K c):rV (fo z Y a J (V<|iv i) J) K:=by have k:i.toNat<=L aa:=(by omega);rcases g with⟨rfl,rfl⟩|⟨b,m,rfl,n⟩;have h:i.toNat=0:=(by grind);have:fo z Y (.l [] U U) J (V<|iv i) J=V (.l [] U U):=(by simp[fo,lM,f,qY,h]);rw[this];exact d _ (.inl ⟨by simp,rfl⟩) rfl;have:fo z Y (.m b<|L aa) J (V<|iv i) J=V (.m b i.toNat):=(by grind [fo,lM,qY]);rw[this];refine d _ (.inr ⟨b,aa.drop i.toNat++m,?_,?_⟩) rfl;simp_all;grind [bje,aq0]
theorem aOp:∀(l:List Id) (Y:ae),Fx Y (kills Y l) l:=by intro l;induction l with|nil=>intro Y;exact Fx.refl _ _|cons b l d=>intro Y;show Fx Y (kills (if(box Y b).isSome then kill Y b else Y) l) (b::l);cases c:box Y b with|none=>grind [Fx.mono]|some x=>exact(Le c).trans<|d<|kill Y b
end
structure Lv(Y0 Y:ae)(cs tgt:List AV):Prop where
 eq:cs.map (lz Y)=tgt
 nw:∀b∈eB (.a cs),bK Y0 b
def aQm{Y:ae}{b cs tgt:List AV}(f:cs.map (lz Y)=tgt)(c:L tgt=L b)(g:0<L b)(h:tgt.all eN=U)(j:L b<=1000):aX b 1 Y [(0, .a cs)]=V (.l [tgt] U U,kills Y<|eB<|.a cs):=by have i:nrm (eR Y<|.a cs)= .a tgt:=(by simp only[eR,nrm,vA,<-f];rfl);simp only[aX,ji,mU,i,Cz,RN,cL];have d:(er 1 b).flatten=b:=(by simp);rw[d7 ⟨by omega,g⟩,d];simp only[aly,eY,c,Nat.zero_mul,aj,dA,ld,NA,CE,dW,List.drop_length,cL,qd,h,df];simp[kC,<-c]
theorem Lv.fx{d Y Y':ae}{cs tgt:List AV}{ks:List Id}(h:Lv d Y cs tgt)(f:Fx Y Y' ks)(l:∀b∈eB (.a cs),b∉ks)(i:tgt.all eN=U):Lv d Y' cs tgt:=by refine⟨?_,h.nw⟩;rw[<-h.eq];refine ja λc k=>?_;have j:eN (lz Y c)=U:=(by rw[<-h.eq] at i;simp_all);cases c with|m b n=>(cases g:box Y b with|none=>grind [lz,gi,gK,eN]|some x=>have:=f.keep b x (by grind [eB,iR]) g;grind [lz,gi])|_=>rfl
def aRA{e:TypeId}{z d:Nat}{b cs:List AV}{Y:ae}{K:be}(m:L b=z)(k:L cs=z)(i:0<z)(l:d<L Y)(j:∀v Y',Fx Y Y' []->bK Y (d,v)->box Y' (d,v)=V ⟨e,z,U,U,[cs]⟩->K (.p (d,v) 0 0) Y'):eV (bs e b Y d) λp s=>sV (aK z s p<|.a cs) λs'=>K p s':=by refine alI m i l λv q c g h=>?_;refine cy (y:=z) (cs:=cs) h rfl k (by omega) λn f o=>?_;refine j v n ((c.trans f).mono<|by grind [bK.no]) g ?_;simp_all
def qr{Y:ae}{b:Id}{z:Nat}{e:TypeId}{o:Bool}{r cs:List AV}{K:ae->Prop}(f:box Y b=V ⟨e,z,o,U,[r]⟩)(j:L r=z)(g:L cs=z)(d:∀Y',Fx Y Y' [b]->box Y' b=V ⟨e,z,o,U,[cs]⟩->K Y'):sV (aK z Y (.p b 0 0)<|.a cs) K:=by refine cy (y:=z) (cs:=cs) f rfl g (by omega) λh c i=>d h c ?_;simp_all
def bdJ{Y:ae}{q:Option Nat}{cs:List AV}:lS q Y (.q cs)=aN q cs:=rfl
def A0{Y:ae}{b:Id}{j z:Nat}{e:TypeId}{o:Bool}{r:List AV}{x:AV}{K:ae->Prop}(d:box Y b=V ⟨e,z,o,U,[r]⟩)(g:eY x=V [x])(f:j<L r)(c:∀Y',Fx Y Y' [b]->box Y' b=V ⟨e,z,o,U,[r.set j x]⟩->K Y'):sV (aK 1 Y (.p b 0 j) x) K:=by grind [cy,GP]
def aPW{i:Nat}{ys:List AV}{R b K:o8}(h:Ct i ys R)(c:ys.all iX=U)(d:∀r,R r->b r/\K r):fW (cX i) ys b K:=nX h c d
def a6h{x:fc}:iX (.a<|fc.c x)=U:=by simp[iX,eN,aoH,sl]
def aS7{x:eo}:iX (.a<|eo.c x)=U:=by simp[iX,eN,apT,sl]
def aV2{x:AV}(h:iX x=U):[x].all iX=U:=by simp[h]
def O5{Y:ae}{e:TypeId}{z d c n:Nat}{h:List AV}{a:AV}{aa new:List (List AV)}{t o:Bool}{K:be}(j:gm Y e z a aa)(q:L Y=n)(u:∀r∈aa,L r=z)(s:∀r∈new,L r=z)(i:new≠[])(m:(L aa+L new)*(c+1)<=1099511627776)(k:∀f Y',bc Y' e z f (aa++new)->Fx Y Y' (aA a)->(∀b∈aA f,bK Y b/\b.1=d)->K f Y')(v:L h=z:=by exact rfl)(g:0<z:=by decide)(p:d<n:=by decide):eV (cj e h c Y d a<|.l new t o) K:=qs j v g (q▸p) u s i m k
def anu{e:TypeId}{z d n:Nat}{b cs:List AV}{Y:ae}{K:be}(i:L Y=n)(f:∀v Y',Fx Y Y' []->bK Y (d,v)->box Y' (d,v)=V ⟨e,z,U,U,[cs]⟩->K (.p (d,v) 0 0) Y')(j:L b=z:=by exact rfl)(g:L cs=z:=by exact rfl)(c:0<z:=by decide)(h:d<n:=by decide):eV (bs e b Y d) λp s=>sV (aK z s p<|.a cs) λs'=>K p s':=aRA j g c (i▸h) f
def isI(r:AV):Prop:=∃x:Int,r=iv x
def isB(r:AV):Prop:=∃b:Bool,r=bv b
def aPG{x:Int}:isI (iv x)=True:=bie ⟨x,rfl⟩
def aNP{b:Bool}:isB (bv b)=True:=bie ⟨b,rfl⟩
def aP1{c:Prop}[Decidable c]{v:AV}{K:o8}:rV (if c then V v else J) K=(c/\K v):=by grind [rV]
def aWE(r:AV):Prop:=∃(x:Int) (b:Bool),r= .t [iv x,bv b]
def aQ1(r:AV):Prop:=∃x y:Int,r= .t [iv x,iv y]
def a6D{x:Int}{b:Bool}:aWE (.t [iv x,bv b])=True:=bie ⟨x,b,rfl⟩
def aO2{x y:Int}:aQ1 (.t [iv x,iv y])=True:=bie ⟨x,y,rfl⟩
def bd7{R:o8}{Y:ae}{x y:Int}:aE R Y [iv x,iv y]=R (.t [iv x,iv y]):=by simp[aE,jS,iZ,dQ,kG,pF,nj]
def aTb{p:Nat->Bool}{n:Nat}: -1<=uo p n/\uo p n<n:=by grind [uo,List.mem_of_find?_eq_some]
def aXc(b:Bool):Ct 286 [bv b] (·=iv (if b then 1 else 0)):=by refine bgS λs0 c a=>?_;cases b<;>simp[a1q,u1,ah]
def aOT:FT:=lH aXc
def bbU{b Lw K}:=np aOT aXc b Lw K
def aXa(i n:Int):Ct 269 [iv i,iv n] (λr=>isI r):=by refine bgQ λs0 b a=>?_;simp+contextual only[a1m,u0,u1,aPR,↓uL,aP1,aPG];refine⟨λh=>trivial,λh=>⟨by grind,?_⟩⟩;simp+contextual only[a1o,a1n,↓uL,u0,u1,aPG,hH,ld]
def aSe:FT:=aRd aXa
def bbS{i n Lw K}:=aWg aSe aXa i n Lw K
def aXg(o:Int):Ct 237 [iv o] (·=bv (Q (1<=o)&&Q (o<=5))):=by refine bgW λs0 b a=>?_;simp+contextual only[a1M,u0,u1,↓uL]
def aSf:FT:=lH aXg
def bbY{o Lw K}:=np aSf aXg o Lw K
def aXk(i n:Int):Ct 211 [iv i,iv n] (·=bv (dh i n)):=by refine bg7 λs0 b a=>?_;simp+contextual only[ac8,u0,u1,dh,↓uL]
def aN3:FT:=lI aXk
def bb2{i n Lw K}:=nq aN3 aXk i n Lw K
def aXm(l:List dS)(s:ByteArray)(f:L l<4611686018427387904):Ct 220 [sl dS.c l,st s] (λr=>isI r):=by refine bg9 λs0 e a=>?_;simp only[a2D];refine C7 (L l) (λk=>True) trivial λk d b=>?_;simp+contextual only[a2E,u0,u1,ix,rk,bh,aPG,hH,bR,tn,↓uL];grind [dJ,aL,gS]
def aQE:FT:=pn aXm
def bb4{l s Lw K}:=rQ aQE aXm l s Lw K
def aXd(w:br)(s:ByteArray)(m:L w.cells<4611686018427387904):Ct 279 [.a w.c,st s] (·=iv (uo (λi=>Q<|(gd w.cells i).name=s)<|L w.cells)):=by refine bgT rfl λn l b f=>?_;simp only[a1r];refine C7 (L w.cells) (λk=>∀j,j<k->Q ((gd w.cells j).name=s)=I) (by simp) λk g e=>?_;simp+contextual only[a1s,u0,u1,b,ix,rk,aj,bh,↓uL];refine⟨λh=>⟨vp h,λd=>?_,by grind [gS,aL]⟩,λh=>?_⟩;rw[KW (aL h) d e];grind [KX,C3,bw]
def aQD:FT:=aIc aXd
def bbV{w s Lw K}:=gX aQD aXd w s Lw K
def aOB(l:List w6)(s:ByteArray):Int:=uo (λi=>Q<|(gd l i).name=s)<|L l
def aYi(l:List xt)(s:ByteArray):Int:=uo (λi=>Q<|(gd l i).name=s)<|L l
def aWX(l:List w6)(s:ByteArray)(g:L l<4611686018427387904):Ct 245 [sl w6.c l,st s] (·=iv (aOB l s)):=by refine bgB λi f d=>?_;simp only[a0p];refine C7 (L l) (λk=>∀j,j<k->Q ((gd l j).name=s)=I) (by simp) λk e b=>?_;simp+contextual only[a0q,u0,u1,Ca,rk,gw,bh,↓uL];refine⟨λh=>⟨vp h,λa=>?_,by grind [gS,aL]⟩,λh=>?_⟩;rw[aOB,KW (aL h) a b];grind [aOB,KX,C3,bw]
def aPO:FT:=aIc aWX
def bbF{l s Lw K}:=gX aPO aWX l s Lw K (j:=by simp+contextual only[ij,Nb])
def aW2(l:List xt)(s:ByteArray)(g:L l<4611686018427387904):Ct 246 [sl xt.c l,st s] (·=iv (aYi l s)):=by refine bgG λi f d=>?_;simp only[a0C];refine C7 (L l) (λk=>∀j,j<k->Q ((gd l j).name=s)=I) (by simp) λk e b=>?_;simp+contextual only[a0D,u0,u1,Ca,rk,gw,bh,↓uL];refine⟨λh=>⟨vp h,λa=>?_,by grind [gS,aL]⟩,λh=>?_⟩;rw[aYi,KW (aL h) a b];grind [aYi,KX,C3,bw]
def aP9:FT:=aIc aW2
def bbK{l s Lw K}:=gX aP9 aW2 l s Lw K (j:=by simp+contextual only[ij,Nb])
def aXp(n:Int):Ct 271 [iv n] (λr=>isI r):=by refine bhe λs0 b a=>?_;simp+contextual only[a24,u0,u1,aPG,hH,ld,↓uL]
def aSh:FT:=aP7 aXp
def bb7{n Lw K}:=aRM aSh aXp n Lw K
def aWQ(n:Int):Ct 293 [iv n] (λr=>isI r):=by refine bgt λs0 b a=>?_;simp+contextual only[a0e,u0,u1,aPG,hH,ld,↓uL]
def aTZ:FT:=aP7 aWQ
def bby{n Lw K}:=aRM aTZ aWQ n Lw K
def aW6(a b:Int):Ct 275 [iv a,iv b] (·=iv (if a≠0 then a else b)):=by refine bgK λs0 d c=>?_;simp+contextual only[a0S,u0,u1,↓uL];simp_all
def aOi:FT:=lI aW6
def bbO{a b Lw K}:=nq aOi aW6 a b Lw K
def aW5(b:Bool):Ct 278 [bv b] (·=iv (if b then 7 else 0)):=by refine bgJ λs0 c a=>?_;cases b<;>simp[a0R,u1,ah]
def aOS:FT:=lH aW5
def bbN{b Lw K}:=np aOS aW5 b Lw K
def aWU(e:fc):Ct 288 [.a e.c] (λr=>isB r):=by refine bgy aN9 λg f b d=>?_;simp+contextual only[a0l,u0,u1,b,gw,aj,aNP,↓uL]
def aT2:FT:=aP7 aWU
def bbC{e Lw K}:=aRM aT2 aWU e Lw K (j:=by simp+contextual only[ij,Nb])
def aWP(n:Int):Ct 178 [iv n] (·= .a (fc.mk 1 n ⟨#[]⟩ []).c):=by refine aDq (bgs λs0 d i=>?_);simp only[a0c];refine mo d λj e f=>?_;have b:bM aR4 alz [(0,iv 1),(1,iv n)]=V (.a [iv 1,iv n,sv [], .l [] U U]):=rfl;simp only[a0d,b,aY,↓uL];refine gN f (by rw[e.1,d];decide) rfl rfl λk h g=>?_;simp only[u0,u1,g,aj,aN,bZ,vw,dA,NA,List.take_succ_cons,CE,↓uL];exact aQ7 (by rw[aoH];rfl) (by rw[aoH];rfl)
def aQC:FT:=lH aWP
def bbx{n Lw K}:=np aQC aWP n Lw K
def A1(i:lF):List Int:=
 bif Q (i.op=1)||(Q (i.op=6)||(Q (i.op=10)||Q (i.op=27))) then[i.a]
 else bif Q (i.op=2)||Q (i.op=3) then[i.a,i.b]
 else bif Q (i.op=4) then[i.a,i.b,i.k]
 else bif Q (i.op=7) then[i.a,i.k]
 else bif Q (i.op=8)||Q (i.op=26) then[i.b]
 else bif Q (i.op=9) then[i.b,i.k]
 else[]
attribute[local irreducible] aX
def aRU(l:List Int)(r:AV):Prop:=∃t o,r= .l (l.map ci) t o
def rLI{l:List Int}{Y:ae}{t o:Bool}:aE (λr=>aRU l r) Y [.l (l.map ci) t o]=True:=bie ⟨rfl,t,o,rfl⟩
def bd0{Y:ae}{t o:Bool}:aE (λr=>aRU [] r) Y [.l [] t o]=True:=bie ⟨rfl,t,o,rfl⟩
def aXf(i:lF):Ct 174 [.a i.c] (λr=>aRU (A1 i) r):=by refine bgV rfl λf e b d=>?_;simp only[a1F,u0,u1,b,gw,aj,↓uL];simp only[a1K,iM,aY,sw,↓uL];simp only[a1H,aI,au,↓uL];simp only[f8,a1L,iM,aY,sw,↓uL];simp only[a1I,aI,au,↓uL];simp only[f8,a1J,iM,aY,sw,↓uL];simp only[a1G,aI,au,↓uL];simp+contextual (maxSteps:=2000000) only[↓iS,u0,u1,b,gw,aj,a5Y,fi,xA,A1,vb,aoC,rLI,bd0,hH,ld,↓uL]
def aRj:FT:=aP7 aXf
def bbX{i Lw K}:=aRM aRj aXf i Lw K (j:=by simp+contextual only[ij,Nb])
def aTp:List Int:=[3,3,3,3,3,4,4,4,4,4,5,5,5,6,6,6,7,7,7,8,9,10,11,12,13,14,14,15,16,16,17,17,18,18,19,20,1,1,2,21,22,23,23]
def aXF:Ct 164 [] (λr=>aRU aTp r):=by refine bhz λs0 c b=>?_;have a:∀R,aVS s0 R=aE R s0 [.l (aTp.map ci) U U]:=λR=>(by kernel_rfl);show aVS s0 _;rw[a];exact⟨rfl,U,U,rfl⟩
def aUt:FT:=BK aXF
def bcm{Lw K}:=al3 aUt aXF Lw K
def aWO(s:ByteArray):Ct 255 [st s] (·= .a (fc.mk 2 0 s []).c):=by refine aDq (bgr λs0 d i=>?_);simp only[a0a];refine mo d λj e f=>?_;have b:bM aR4 alz [(0,iv 2),(2,st s)]=V (.a [iv 2,iv 0,st s, .l [] U U]):=rfl;simp only[a0b,b,aY,↓uL];refine gN f (by rw[e.1,d];decide) rfl rfl λk h g=>?_;simp only[u0,u1,g,aj,aN,bZ,vw,dA,NA,List.take_succ_cons,CE,↓uL];exact aQ7 (by rw[aoH];rfl) (by rw[aoH];rfl)
def aQB:FT:=lH aWO
def bbw{s Lw K}:=np aQB aWO s Lw K
def aXK:List Int:=[3,3,4,4,5,6,7,8,9,10,11,12,13,14,15,16,18,19,20,21,22,23,2]
def aPY(o:Int):Int:=bif Q (o<6)||Q (28<o) then 0 else gd aXK (o-6).toNat
def aXv(o:Int):Ct 239 [iv o] (·=iv (aPY o)):=by refine bhn λs0 c b=>?_;have a:∀R,aVs (iv o) s0 R=aVt (iv o) R (.l (aXK.map ci) U U) s0:=λR=>(by kernel_rfl);show aVs (iv o) s0 _;rw[a];simp+contextual only[aVt,u0,u1,tf,rk,↓uL];refine⟨(by grind [aPY]),λh=>?_⟩;rw[aPY,h];simp only[cP,sA] at h;rw[eM (by omega)<|by omega];exact⟨⟨by omega,by show o-6<23;omega⟩,rfl⟩
def aUm:FT:=lH aXv
def bcd{o Lw K}:=np aUm aXv o Lw K
def aNF:List w6:=[⟨1,0,⟨#[120]⟩,0,0,⟨#[]⟩⟩,⟨1,0,⟨#[121]⟩,0,1,⟨#[]⟩⟩,⟨2,0,⟨#[118]⟩,0,0,⟨#[]⟩⟩,⟨1,0,⟨#[113]⟩,2,0,⟨#[]⟩⟩,⟨3,0,⟨#[109]⟩,0,0,⟨#[]⟩⟩,⟨3,0,⟨#[110]⟩,0,0,⟨#[]⟩⟩,⟨4,0,⟨#[114]⟩,0,0,⟨#[]⟩⟩,⟨5,0,⟨#[99]⟩,0,0,⟨#[109]⟩⟩,⟨6,0,⟨#[102]⟩,0,0,⟨#[]⟩⟩]
def aWN:Ct 175 [] (·=sl w6.c aNF):=by refine aDq (bgk λs0 d b=>?_);have a:∀R,aUG s0 R=aE R s0 [.l (aNF.map w6.c) U U]:=λR=>(by kernel_rfl);show aUG s0 _;rw[a];exact aQ7 rfl rfl
def aSd:FT:=BJ aWN
def bbv{Lw K}:=al2 aSd aWN Lw K
attribute[local semireducible] aX
def VW(l:List aP)(t:Int)(j:Nat):Nat:=L ((l.take j).filter λe=>Q<|e.aq=t)
theorem aV8{l:List aP}{t:Int}{j:Nat}(h:j<L l):VW l t (j+1)=VW l t j+if(gd l j).aq=t then 1 else 0:=by grind [VW,iJ,bT,a6G]
theorem a6c{l:List aP}{t:Int}{j:Nat}:VW l t j<=j:=gl (fZ _ _) (by simp;omega)
def aOE(l:List aP)(i:Nat)(t n:Int):Prop:=∃j,j<i/\(gd l j).aq=t/\((gd l j).kind=3\/(gd l j).kind=23)/\(VW l t j:Int)=n
def aXy(l:List aP)(i:Nat)(t:Int)(d:List Int)(w:i<=L l/\L l<1000000/\L d<4611686018427387904):Ct 115 [sl aP.c l,iv i,iv t,sl ci d] (λr=>∃b,r=bv b/\(b=U->∀n∈d,aOE l i t n)):=by obtain⟨A,B,C⟩:=w;refine bhq λs0 F z=>?_;simp only[a4p];refine C7 (L d) (λk=>∀j,j<k->aOE l i t (gd d j)) (by simp) λk E q=>?_;simp only[a4t,aI,u0,u1,↓uL];refine⟨λh=>?_,λh=>⟨U,rfl,λ_=>?_⟩⟩;(focus refine yh (λs:Bool×Nat=>[iv<|VW l t s.2,bv s.1,iv s.2]) 2 i (λs=>s.2<=i/\(s.1=U->aOE l i t (gd d k))) (I,0) ⟨by omega,by simp⟩ ?_;rintro⟨x,j⟩ ⟨D,G⟩;simp only[a4s,aI,au,u0,u1,↓uL];refine⟨λh=>?_,λh=>⟨(by simp),λe=>?_⟩⟩;(focus have m:j<i:=aL h;have g:j<L l:=(by omega);have f:=aV8 (t:=t) g;have y:=a6c (l:=l) (t:=t) (j:=j);have u:∀(a b:Bool) (c:Int),c=((VW l t (j+1):Nat):Int)->(b=U->aOE l i t (gd d k))->tI (λs:Bool×Nat=>[iv<|VW l t s.2,bv s.1,iv s.2]) (λs=>s.2<=i/\(s.1=U->aOE l i t (gd d k))) [iv c,bv b,iv ((j+1:Nat):Int)]/\pM 2 i [iv c,bv b,iv ((j+1:Nat):Int)]<pM 2 i [iv<|VW l t j,bv a,iv j]:=λa b c q h=>(by subst q;exact wN (enc:=λs:Bool×Nat=>[iv<|VW l t s.2,bv s.1,iv s.2]) (s:=(a,j)) (s':=(b,j+1)) rfl rfl rfl m ⟨m,h⟩);(cases x<;>simp+contextual only[a4r,ix,bh,u0,u1,rk,gw,↓uL,jA,jN,a4q,uO,vb,aoC]);(all_goals refine⟨dJ g,λe=>?_,λe=>?_⟩;all_goals rw[fX<|by omega]);simp_all;simp at e;rw[d7 e] at f;rw[fX<|by omega];refine⟨dJ<|aL ‹_›,λ_=>dJ g,λ_ _=>dJ g,?_⟩;(cases o:Q ((VW l t j:Int)=gd d k)<;>cases v:Q ((gd l j).kind=3)<;>simp only[vb,aoC,qE,xM,ru,Bool.and_false,fh,kN]);simp_all;simp_all;exact u _ _ _ (by rw[f]) λp=>⟨j,m,e, .inr (by simpa using p),by simpa using o⟩;exact u _ _ _ (by rw[f]) λp=>⟨j,m,e, .inl (by simpa using v),by simpa using o⟩;simp_all;simp at e;rw[d7 e] at f;rw[fX<|by omega];simp_all);grind [gS,aL]);grind [ou,bT,C3,bw]
def aSi:FT:=ER aXy
def bcg{l i t ns Lw K}:=axQ aSi aXy l i t ns Lw K (j:=by simp+contextual only[ij,Int.natCast_inj])
section
variable{Q:o8}{Y:ae}{xs:List AV}
def bd1:(∀r,isB r->Q r)=∀b,Q (bv b):=u5 ⟨λh b=>h _ ⟨b,rfl⟩,by rintro h r ⟨b,rfl⟩;exact h b⟩
def a65:(∀r,isI r->Q r)=∀x,Q (iv x):=u5 ⟨λh b=>h _ ⟨b,rfl⟩,by rintro h r ⟨b,rfl⟩;exact h b⟩
def bd4:(∀r,aQ1 r->Q r)=∀x y,Q (.t [iv x,iv y]):=u5 ⟨λh x b=>h _ ⟨x,b,rfl⟩,by rintro h r ⟨x,b,rfl⟩;exact h x b⟩
def bdO{v w:Value}:lo Y xs (.t [.s v, .s w])=True:=by simp[lo,uN,yv,wD]
def bcB{α:Type}[Nonempty α]{b:Bool}{f:α->AV}{K:o8}:gB b (λk=>∀x,k<|f x) K=∀x,K (gv b<|f x):=by(cases b);exact u5 ⟨λh x=>h,λh=>h<|Classical.choice ‹_›⟩;rfl
def bcD{α:Type}[Nonempty α]{b:Bool}{S:Prop}{f:α->AV}{K:o8}:gB b (λk=>S/\∀x,k<|f x) K=((b=U->S)/\∀x,K<|gv b<|f x):=by(cases b);exact u5 ⟨λh=>⟨(λh=>by cases h),λx=>h⟩,λh=>h.2<|Classical.choice ‹_›⟩;simp[gB,gv]
def bcC{b:Bool}{f:Bool->AV}{K:o8}:gB b (λk=>∀x,k<|f x) K=∀x,K (gv b<|f x):=bcB
def bcE{b:Bool}{S:Prop}{f:Bool->AV}{K:o8}:gB b (λk=>S/\∀x,k<|f x) K=((b=U->S)/\∀x,K<|gv b<|f x):=bcD
def rg:=ai @bcC<|@bcE
def rr:=ai @bd1<|ai @a65<|ai @bd4<|ai @bdO<|ai @AL<|ai @oJ<|ai @pG<|ai @bdJ<|@bd7
end
def a6n{a:Int}{p:Int->Prop}:(∃k,iv a=iv k/\p k)=p a:=(by simp)
def aRB{a b:ByteArray}:wl .neq 0 [] (st a) (st b)=V (bv<|Q<|a≠b):=by have h:=@alq a b;simp only[wl,zP,df,bE,AV.s.injEq,mV] at h;simp only[wl,zP,df,h,decide_not]
def a7w:dO:=(286,aOT)::(269,aSe)::(237,aSf)::(211,aN3)::(220,aQE)::(279,aQD)::(245,aPO)::(246,aP9)::(271,aSh)::(293,aTZ)::(275,aOi)::(278,aOS)::(288,aT2)::(178,aQC)::(174,aRj)::(164,aUt)::(255,aQB)::(239,aUm)::(175,aSd)::(115,aSi)::apt
def aOh:eJ a7w:=it (nH aXc) (it (aYm aXa)<|it (nH aXg)<|it (nI aXk)<|it (aN0 aXm)<|it (aCb aXd)<|it (aCb aWX)<|it (aCb aW2)<|it (aR6 aXp)<|it (aR6 aWQ)<|it (nI aW6)<|it (nH aW5)<|it (aR6 aWU<|λ_=>by simp only[Cs,aqG,aOW,Bool.and_self])<|it (nH aWP)<|it (aR6 aXf)<|it (apN aXF)<|it (nH aWO)<|it (nH aXv)<|it (apM aWN)<|it (aM6 aXy)<|Ey)
def aOX:=ai @bbU<|ai @bbS<|ai @bbY<|ai @bb2<|ai @bb4<|ai @bbV<|ai @bbF<|ai @bbK<|ai @bb7<|ai @bby<|ai @bbO<|ai @bbN<|ai @bbC<|ai @bbx<|ai @bbX<|ai @bcm<|ai @bbw<|ai @bcd<|ai @bbv<|ai @bcg<|@Lb
section
attribute[local irreducible] aX
def a9j:=bi 8 []
def a1p a b s0 R:=bf a (iv 4) λt1=>ah t1 (rV (cR .neg b) λc=>aE R s0 [c,bv U]) (bf a (iv 5) λt3=>ah t3 (bf b (iv 0) λt4=>fV aOT s0 [t4] λd=>aE R s0 [d,bv U])<|aE R s0 [iv 0,bv I])
def bgR{a b:AV}{R:o8}(h:H0 λs0=>a1p a b s0 R):Ct 270 [a,b] R:=z0 a9j aOh Tryz.func270 h
def a9h:=bi 36 []
def aU1 b c a s0 R:=bf b (iv 6) λt1=>ah t1 (aV c a λN=>aE R s0 [N,bv U]) (bf b (iv 7) λt3=>ah t3 (aO .sub c a λt4=>aE R s0 [t4,bv U])<|bf b (iv 8) λO=>ah O (aO .mul c a λP=>aE R s0 [P,bv U])<|bf b (iv 9) λS=>ah S (bf a (iv 0) λT=>ah T (aE R s0 [iv 0,bv U])<|aO .quo c a λW=>aE R s0 [W,bv U])<|bf b (iv 10) λf=>ah f (bf a (iv 0) λg=>ah g (aE R s0 [iv 0,bv U])<|aO .rem c a λh=>aE R s0 [h,bv U])<|bf b (iv 11) λi=>ah i (bf c a λj=>fV aOT s0 [j] λk=>aE R s0 [k,bv U])<|bf b (iv 12) λl=>ah l (aO .neq c a λm=>fV aOT s0 [m] λn=>aE R s0 [n,bv U])<|bf b (iv 13) λo=>ah o (aU c a λp=>fV aOT s0 [p] λq=>aE R s0 [q,bv U])<|bf b (iv 14) λr=>ah r (aO .leq c a λs=>fV aOT s0 [s] λt=>aE R s0 [t,bv U])<|bf b (iv 15) λu=>ah u (aO .gtr c a λv=>fV aOT s0 [v] λw=>aE R s0 [w,bv U])<|bf b (iv 16) λx=>ah x (aO .geq c a λy=>fV aOT s0 [y] λz=>aE R s0 [z,bv U])<|bf b (iv 17) λA=>ah A (aO .neq c (iv 0) λd=>fm d a λB=>az d (aO .neq B<|iv 0) λC=>aD d C (bv I) λD=>fV aOT s0 [D] λE=>aE R s0 [E,bv U])<|bf b (iv 18) λF=>ah F (aO .neq c (iv 0) λe=>bX e a λG=>aC e (aO .neq G<|iv 0) λH=>aD e (bv U) H λK=>fV aOT s0 [K] λM=>aE R s0 [M,bv U])<|aE R s0 [iv 0,bv I])
def bgP{a b c:AV}{R:o8}(h:H0 λs0=>aU1 a b c s0 R):Ct 272 [a,b,c] R:=z0 a9h aOh Tryz.func272 h
def a14 d f x a R:=ab 0 a d λt4=>aJ a t4 λy=>fV aN3 a [f,y] λe=>aT e 0 a d λg=>fm e f λh=>az e (ao 5 a g h) λi=>aT e 1 a i λj=>az e (bf j<|iv 0) λk=>aD e k (bv I) λc=>aT c 0 a d λl=>fm c f λm=>az c (ao 5 a l m) λn=>aT c 2 a n λo=>az c (aO .neq o<|iv 0) λp=>aD c p (bv I) λb=>aT b 0 a d λq=>fm b f λr=>az b (ao 5 a q r) λs=>aT b 2 a s λt=>fm b x λu=>az b (bf t u) λv=>aD b v (bv I) λw=>aE R a [w]
def bgZ{b:List AV}{c d:AV}{R:o8}(l0:L b=6)(h:H1 31 6 3 b λe f=>a14 e c d f R):Ct 236 [.a b,c,d] R:=z1 at1 aOh Tryz.func236 l0 h
def a9B:=bi 15 [(3,([1,5],[0])),(6,([1],[0,5]))]
def a2A a(d:cG)(m1:fD) b:=Rg->aV (gt a 1) (iv 1) λc=>d [gt b 0,c]/\m1 [gt b 0,c]<m1 a
def a2B a c s0 R(d:cG):=aU (gt a 0) (iv 0) λb=>bX b (gt a 0) λs=>bX b c λe=>aC b (aJ s0 e) λf=>aC b (aO .geq s f) λg=>aD b (bv U) g λh=>ah h (aE R s0 [bv I]) (ao 6 s0 c (gt a 0) λi=>ab 0 s0 i λj=>fV aSf s0 [j] λk=>cf k λl=>ah l (aE R s0 [bv U])<|ao 6 s0 c (gt a 0) λm=>ab 0 s0 m λn=>bf n (iv 5) λo=>ah o (ao 6 s0 c (gt a 0) λp=>ab 1 s0 p λq=>d [q])<|aV (gt a 0) (iv 1) λr=>d [r])
def a2C s0 b R c m1 a:=Rg->aJ s0 b λd=>aO .leq (gt a 1) d λt3=>ah t3 (jR 6 (a2A a c m1)<|a2B a b s0 R)<|aE R s0 [bv I]
def a2z a b s0 R:=lR [b,iv 0]<|a2C s0 a R
def bg8{a b:AV}{R:o8}(h:H0 λs0=>a2z a b s0 R):Ct 210 [a,b] R:=z0 a9B aOh Tryz.func210 h
def a9P:=bi 18 [(3,([7],[2,3,6])),(10,([40],[2]))]
def a4i R a c b:=Rg->ah (gt b 0) (aE R a [iv<|-1]) (ab 1 a c λd=>aE R a [d])
def a4k b(a:cG):=bf b (iv 10) λc=>ah c (a [c]) (bf b (iv 17) λd=>ah d (a [d])<|bf b (iv 18) λe=>ah e (a [e])<|bf b (iv 19) λf=>ah f (a [f])<|bf b (iv 20) λg=>ah g (a [g])<|bf b (iv 28) λh=>a [h])
def a4j a b R d c w:=Rg->ah (gt w 0) (ab 2 a b λx=>aE R a [x]) (bf d (iv 7) λe=>ah e (ab 2 a b λf=>ab 1 a c λg=>ab 3 a b λh=>ao 1 a g h λi=>aM a i λj=>ab 4 a b λk=>fV aSe a [j,k] λl=>aV f l λm=>aE R a [m])<|bf d (iv 9) λn=>ah n (ab 1 a b λo=>ab 1 a c λp=>ab 3 a b λq=>ao 1 a p q λr=>aM a r λs=>ab 4 a b λt=>fV aSe a [s,t] λu=>aV o u λv=>aE R a [v])<|jR 10 (a4i R a b)<|a4k d)
def a4l d(b:cG):=bf d (iv 6) λa=>ah a (b [a]) (bf d (iv 27) λc=>b [c])
def a4h a d b R:=ab 0 b a λc=>jR 3 (a4j b a R c d)<|a4l c
def bho{b:List AV}{c:List AV}{R:o8}(l0:L b=6)(l1:L c=4)(h:H2 251 6 2 b 238 4 3 c λd e f=>a4h d e f R):Ct 240 [.a b, .a c] R:=z2 a9P aOh Tryz.func240 l0 l1 h
def a0m a b R:=ab 0 b a λt4=>aU t4 (iv 1) λy=>bn y 0 b a λz=>aC y (aO .gtr z<|iv 6) λA=>aD y (bv U) A λh=>bn h 2 b a λB=>aC h (fV aPd b [B]) λC=>aC h (cf C) λD=>aD h (bv U) D λj=>bn j 3 b a λE=>aC j (aU E<|iv 0) λF=>aD j (bv U) F λd=>bn d 0 b a λG=>aC d (aO .neq G<|iv 1) λH=>bX d H λk=>aT k 3 b a λK=>az k (aO .neq K<|iv 0) λM=>aC d (aD k M<|bv I) λN=>aD d (bv U) N λO=>ah O (aE R b [bv I]) (ab 0 b a λP=>bf P (iv 5) λi=>aT i 5 b a λS=>az i (fV aPd b [S]) λT=>az i (cf T) λW=>aD i W (bv I) λe=>bn e 0 b a λX=>aC e (aO .neq X<|iv 5) λZ=>bX e Z λl=>aT l 5 b a λaa=>az l (aO .neq aa<|sv []) λac=>aC e (aD l ac<|bv I) λm=>aD e (bv U) m λn=>ah n (aE R b [bv I])<|ab 4 b a λo=>aO .gtr o (iv<|-9223372036854775808) λc=>aT c 4 b a λp=>az c (bf p<|iv 0) λq=>fm c q λf=>bn f 0 b a λr=>aC f (bf r<|iv 1) λs=>az c (aD f (bv U) s) λt=>fm c t λg=>bn g 0 b a λu=>aC g (bf u<|iv 2) λv=>az c (aD g (bv U) v) λw=>aD c w (bv I) λx=>aE R b [x])
def bgz{b:List AV}{R:o8}(l0:L b=6)(h:H1 296 6 1 b λc d=>a0m c d R):Ct 243 [.a b] R:=z1 a9j aOh Tryz.func243 l0 h
def a85:=bi 26 [(20,([56],[3,7]))]
def a0t a c d R b:=Rg->ah (gt b 0) (ab 0 a c λe=>ao 6 a e d λf=>ab 0 a f λg=>aE R a [g]) (aE R a [iv 9])
def a0u b(a:cG):=bf b (iv 3) λc=>ah c (a [c]) (bf b (iv 4) λd=>ah d (a [d])<|bf b (iv 5) λe=>ah e (a [e])<|bf b (iv 6) λf=>a [f])
def a0s c f g a R:=aO .geq f (iv 0) λt3=>fm t3 f λF=>aT t3 1 a c λh=>az t3 (aJ a h) λi=>az t3 (aU F i) λj=>aD t3 j (bv I) λb=>aT b 1 a c λk=>fm b f λl=>az b (ao 4 a k l) λm=>aT b 2 a m λn=>fm b g λo=>az b (fV FB a [n,o]) λp=>az b (aO .geq p<|iv 0) λq=>aD b q (bv I) λr=>ah r (aE R a [iv 8]) (ab 0 a c λs=>fV aPO a [s,g] λd=>aU d (iv 0) λt=>ah t (ab 1 a c λu=>fV aP9 a [u,g] λv=>aO .geq v (iv 0) λw=>ah w (aE R a [iv 7])<|aE R a [iv 0])<|ab 0 a c λx=>ao 6 a x d λy=>ab 0 a y λe=>bf e (iv 1) λz=>ah z (ab 0 a c λA=>ao 6 a A d λB=>ab 3 a B λC=>aO .neq C (iv 0) λD=>ah D (aE R a [iv 2])<|aE R a [iv 1])<|bf e (iv 2) λE=>ah E (aE R a [iv 1])<|jR 20 (a0t a c d R)<|a0u e)
def bgD{b:List AV}{c d:AV}{R:o8}(l0:L b=2)(h:H1 197 2 3 b λe f=>a0s e c d f R):Ct 289 [.a b,c,d] R:=z1 a85 aOh Tryz.func289 l0 h
def a89:=bi 33 [(4,([4,5,6,7,8],[0])),(7,([4,5,6,7],[0,8])),(15,([4,5,6,7],[0,8,9])),(17,([39],[0,4,5,6,7,8,9,36])),(19,([47],[0,4,5,6,7,8,9,36]))]
def a0I b(e:aG)(m1:bu) f a c:=Rg->aV (gt b 4) (iv 1) λd=>e [gt a 0,gt a 1,gt a 2,gt a 3,d] c/\m1 [gt a 0,gt a 1,gt a 2,gt a 3,d] c<m1 b f
def a0F b c R i B(h:aG) a:=Rg->aO .gtr (gt a 0) (iv 12) λd=>bX d (gt a 1) λj=>aC d (aO .gtr j<|iv 4) λk=>aD d (bv U) k λe=>bX e (gt a 2) λl=>aC e (aO .gtr l<|iv 2) λm=>aD e (bv U) m λf=>bX f (gt a 3) λn=>aC f (aO .gtr n<|iv 2) λo=>aD f (bv U) o λp=>ah p (ab 1 b c λq=>aE R b [iv 2,q]) (ab 0 b c λr=>bf r (iv 5) λs=>ah s (rV (fo 6 b i J (V<|gt B 4) J) λt=>ab 5 b c λu=>fV aPO b [t,u] λg=>aU g (iv 0) λv=>ah v (ab 1 b c λw=>aE R b [iv 5,w])<|ao 6 b i g λx=>ab 0 b x λy=>aO .neq y (iv 3) λz=>ah z (ab 1 b c λA=>aE R b [iv 6,A])<|h [gt a 0,gt a 1,gt a 2,gt a 3] b)<|h [gt a 0,gt a 1,gt a 2,gt a 3] b)
def a0H a(b:cG) d c:=Rg->ah (gt c 0) (aV (gt a 1) (iv 1) λe=>b [gt a 0,e,gt a 2,gt a 3]) (bf d (iv 5) λf=>ah f (aV (gt a 2) (iv 1) λg=>b [gt a 0,gt a 1,g,gt a 3])<|aV (gt a 3) (iv 1) λh=>b [gt a 0,gt a 1,gt a 2,h])
def a0L b(a:cG):=bf b (iv 3) λc=>ah c (a [c]) (bf b (iv 4) λd=>a [d])
def a0G f d a(b:cG) c e:=Rg->ah (gt e 0) (ab 3 f d λg=>rV (AO .max g<|iv 1) λh=>aV (gt a 0) h λi=>b [i,gt a 1,gt a 2,gt a 3]) (jR 19 (a0H a b c)<|a0L c)
def a0K b(a:cG):=bf b (iv 1) λc=>ah c (a [c]) (bf b (iv 2) λd=>a [d])
def a0J b a e d:=ab 0 b a λc=>jR 17 (a0G b a e d c)<|a0K c
def aUT d c b R m a:=rV (fo 6 a d J (V<|gt c 4) J) λe=>ab 2 a b λf=>fV aPO a [e,f] λg=>aO .geq g (iv 0) λh=>ah h (ab 1 a b λi=>aE R a [iv 4,i]) (ab 3 a b λj=>aO .gtr j (iv 4) λk=>ah k (ab 1 a b λl=>aE R a [iv 2,l])<|jR 15 (a0F a b R d c m)<|a0J a b c)
def a0M c d b R f:=ao 6 c d (gt b 4) λg=>aw 6 c g λh=>eV (bs 296 aXV c 9) λa e=>sV (aK 6 e a h)<|aUT d b a R f
def a0N c R d m1 a b:=Rg->aJ b c λt3=>aU (gt a 4) t3 λt4=>ah t4 (jV 7 (a0I a d m1 b)<|a0M b c a R)<|aE R b [iv 0,iv 0]
def a0E a s0 R:=lV [iv 0,iv 0,iv 0,iv 0,iv 0] s0<|a0N a R
def bgH{a:AV}{R:o8}(h:H0 λs0=>a0E a s0 R):Ct 216 [a] R:=z0 a89 aOh Tryz.func216 h
def a9d:=bi 29 [(3,([4],[1])),(12,([6],[1])),(21,([8],[1,6,7]))]
def a0U e c d R(s:aG)(g:bu) t a:=ab 0 a e λh=>ab 0 a c λi=>fV aPO a [h,i] λj=>aO .geq j (iv 0) λb=>bn b 1 a e λk=>bX b (gt d 0) λl=>aC b (rV<|fo 4 a k J (V l) J) λm=>bn b 0 a c λn=>aC b (fV aP9 a [m,n]) λo=>aC b (aO .geq o<|iv 0) λp=>aD b (bv U) p λq=>ah q (ab 1 a c λr=>aE R a [iv 4,r]) (aV (gt d 0) (iv 1) λf=>s [f] a/\g [f] a<g d t)
def a0X a d l R i(u:aG)(j:bu) w(v:cG)(k:fD) c:=Rg->ab 2 a d λx=>aJ a x λy=>aU (gt c 0) y λz=>ah z (ab 2 a d λA=>ao 1 a A (gt c 0) λB=>aM a B λh=>ab 0 a l λC=>fV aPO a [C,h] λD=>aO .geq D (iv 0) λe=>bn e 1 a l λE=>bX e h λF=>aC e (fV aP9 a [E,F]) λG=>aC e (aO .geq G<|iv 0) λH=>aD e (bv U) H λb=>bn b 2 a d λm=>bX b (gt c 0) λn=>aC b (rV<|fo 1 a m J (V n) J) λo=>bX b h λp=>aC b (fV FB a [o,p]) λq=>aC b (aO .geq q<|iv 0) λr=>aD b (bv U) r λs=>ah s (ab 1 a d λt=>aE R a [iv 4,t])<|aV (gt c 0) (iv 1) λf=>v [f]/\k [f]<k c) (aV (gt i 0) (iv 1) λg=>u [g] a/\j [g] a<j i w)
def a0V b R f c d e g a:=ab 2 a b λh=>aJ a h λi=>aO .gtr i (iv 4) λj=>ah j (ab 1 a b λk=>aE R a [iv 2,k])<|lR [iv 0]<|a0X a b f R c d e g
def a0W c R e f b a:=Rg->ab 1 a c λh=>aJ a h λi=>aU (gt b 0) i λj=>ah j (ab 1 a c λk=>ao 4 a k (gt b 0) λl=>aw 4 a l λm=>eV (bs 245 bcv a 7) λd g=>sV (aK 4 g d m)<|a0V d R c b e f a)<|aE R a [iv 0,iv 0]
def a0Y b R i j d a:=Rg->ab 1 a b λk=>aJ a k λl=>aU (gt d 0) l λm=>ah m (ab 1 a b λf=>ao 4 a f (gt d 0) λg=>aw 4 a g λh=>eV (bs 245 bcv a 5) λc e=>sV (aK 4 e c h)<|a0U b c d R i j a)<|lV [iv 0] a<|a0W b R
def a0T a b R:=lV [iv 0] b<|a0Y a R
def bgL{b:List AV}{R:o8}(l0:L b=2)(h:H1 197 2 1 b λc d=>a0T c d R):Ct 217 [.a b] R:=z1 a9d aOh Tryz.func217 l0 h
def a8H:=bi 9 [(4,([3,4],[0]))]
def a8g e a o p q s f g h i r j k l(m:aG)(m1:bu) n c b:=dH [km,km,km,lb U [e,gt a 1] [],bo o,bo p,lb U [q,iv 4] [],km,km,lb U [e,gt a 1] [],bo s,bo f,lb U [g,iv 4] [],lb U [h,iv 5] [],lb U [i,iv 1] [],lb U [r,j] [],lb I [k] [],lb I [gt a 0,l] [28],km] [(0,16)] (aV (gt a 1) (iv 1) λd=>m [c,d] b/\m1 [c,d] b<m1 a n)
def aYQ c R q m1 a b:=Rg->aJ b c λt3=>aU (gt a 1) t3 λt4=>ah t4 (ao 1 b c (gt a 1) λl=>aM b l λm=>rV (sO (V .i64) m) λn=>aO .rem n (iv 4) λo=>ao 1 b c (gt a 1) λp=>aM b p λd=>rV (sO (V .i64) d) λe=>aO .quo e (iv 4) λf=>aO .rem f (iv 5) λg=>aO .sub g (iv 1) λh=>rV (bM nJ C2 [(0,o),(1,h)]) λi=>eV (aX bh6 1 b [(0,i)]) λj k=>eV (cj 52 nJ 16 k 28 (gt a 0) j)<|a8g c a l m n p d e f g o h i j q m1 b)<|aE R b [gt a 0]
def aYP a s0 R:=lV [.l [] U U,iv 0] s0<|aYQ a R
def bgd{a:AV}{R:o8}(h:H0 λs0=>aYP a s0 R):Ct 61 [a] R:=z0 a8H aOh Tryz.func61 h
def aZi a d R t3 b:=aw 4 b a λe=>rV (bM C8 anY [(0,iv 1),(2,d),(5,e)]) λf=>sV (aK 11 b t3 f) λc=>aw 11 c t3 λg=>aE R c [g]
def aZh b a c R:=eV (bs 261 C8 c 4)<|aZi a b R
def bgi{c:AV}{b:List AV}{R:o8}(l1:L b=4)(h:H1 259 4 3 b λd e=>aZh c d e R):Ct 177 [c, .a b] R:=z1 at1 aOh Tryz.func177 l1 h
def aZk f e R g b:=rV (bM aR4 alz [(0,f),(3,g)]) λc=>sV (aK 4 b e c) λa=>aw 4 a e λd=>aE R a [d]
def aZl b c d R e a:=aw 4 a b λf=>aw 4 a c λg=>eV (aX bh5 2 a [(0,f),(1,g)])<|aZk d e R
def aZj c a b d R:=eV (bs 259 aR4 d 6)<|aZl a b c R
def bgj{d:AV}{b:List AV}{c:List AV}{R:o8}(l1:L b=4)(g:L c=4)(h:H2 259 4 4 b 259 4 5 c λe f i=>aZj d e f i R):Ct 254 [d, .a b, .a c] R:=z2 at1 aOh Tryz.func254 l1 g h
def a94:=bi 11 [(4,([3,10],[8,9])),(7,([3],[8,9,10]))]
def a5x d(f:aG)(e:bu) g a b:=Rg->aV (gt d 1) (iv 1) λc=>f [gt a 0,c] b/\e [gt a 0,c] b<e d g
def a5w d b(c:aG) a:=ab 0 a d λg=>bf g (iv 3) λh=>ah h (eV (aX bH 1 a [(0,gt b 1)]) λi e=>eV (cj 3 fB 8 e 21 (gt b 0) i) λj f=>c [j] f)<|c [gt b 0] a
def a5y c h b d:=ao 3 c h (gt b 1) λf=>aw 3 c f λg=>eV (bs 85 aQ2 c 5) λa e=>sV (aK 3 e a g)<|a5w a b d
def a5z f e R c d a b:=Rg->aU (gt a 1) f λg=>ah g (jV 7 (a5x a c d b)<|a5y b e a)<|aE R b [gt a 0]
def a5v b a R:=aB 0 a b λt3=>ab 3 a t3 λc=>aJ a c λd=>lV [.l [] U U,iv 0] a<|a5z d c R
def bhE{b:List AV}{R:o8}(l0:L b=7)(h:H1 40 7 1 b λc d=>a5v c d R):Ct 208 [.a b] R:=z1 a94 aOh Tryz.func208 l0 h
end
def ya{a b:AV}:mL (bv U) a b=V a:=rfl
def Aa{a b:AV}:mL (bv I) a b=V b:=rfl
def aXX{P:Int->Prop}{Q:o8}:(∀r,(∃k:Int,r=iv k/\P k)->Q r)=∀k,P k->Q (iv k):=(by grind)
def bd8{a b c d e f g h i j k:AV}:aN (V 11) [a,b,c,d,e,f,g,h,i,j,k]=V (.a [a,b,c,d,e,f,g,h,i,j,k]):=rfl
def rkx{s:kw}:aN (V 3) (kw.c s)=V (.a<|kw.c s):=rfl
def aXb(o a:Int):Ct 270 [iv o,iv a] (λr=>aWE r):=by refine bgR λs0 c b=>?_;simp+contextual only[a1p,u0,u1,aEn,aOX,ar,a6D,QV,hH,ld,↓uL]
def aUb:FT:=aRd aXb
def bbT{o a Lw K}:=aWg aUb aXb o a Lw K
def aW9(o a b:Int):Ct 272 [iv o,iv a,iv b] (λr=>aWE r):=by refine bgP λs0 d c=>?_;simp+contextual only[aU1,u0,u1,aPR,a5N,aP1,aOX,ar,a6D,QV,hH,ld,↓uL,aU1,tn,sA,j1,aTo,not_false_iff]
def aUa:FT:=aSb aW9
def bbR{o a b Lw K}:=a6o aUa aW9 o a b Lw K
def aXj(w:br)(b n:Int):Ct 236 [.a w.c,iv b,iv n] (λr=>isB r):=by refine bgZ rfl λg f d e=>?_;simp+contextual only[a14,u0,u1,d,ix,rk,ar,aOX,aj,DR,aNP,↓uL];grind [dX]
def aSg:FT:=aSb aXj
def bb1{w b n Lw K}:=a6o aSg aXj w b n Lw K
def aXl(l:List lF)(a:Int)(o:L l<1000000):Ct 210 [sl lF.c l,iv a] (λr=>isB r):=by refine bg8 λs0 n j=>?_;simp only[a2z];have h:∀(a b:Int) (k:Nat),k<L l+1->tI (λs:Int×Nat=>[iv s.1,iv s.2]) (λs=>s.2<=L l+1) [iv b,iv ((k+1:Nat):Int)]/\pM 1 (L l+1) [iv b,iv ((k+1:Nat):Int)]<pM 1 (L l+1) [iv a,iv k]:=λa b k e=>wN (enc:=λs:Int×Nat=>[iv s.1,iv s.2]) (s:=(a,k)) (s':=(b,k+1)) rfl rfl rfl e e;refine yh (λs:Int×Nat=>[iv s.1,iv s.2]) 1 (L l+1) (λs=>s.2<=L l+1) (a,0) (by simp) ?_;rintro⟨f,k⟩ e;simp+contextual only[a2A,a2B,a2C,f8,aI,au,u0,u1,Ca,rk,gw,ar,aOX,aNP,hH,tn,rr,↓uL];intro m i;have g:k<L l+1:=(by grind);have d:aF (L l) f:=(by simp at i;exact⟨by omega,by omega⟩);rw[fX<|by omega];exact⟨d,λ_=>⟨d,λ_=>⟨d,h _ _ _ g⟩,λ_=>h _ _ _ g⟩⟩
def aUe:FT:=pn aXl
def bb3{l a Lw K}:=rQ aUe aXl l a Lw K (j:=by simp+contextual only[ij,Nb])
def a8e(i:lF)(s:pt):Prop:=i.op=7\/i.op=9->aF (L s.li) i.k
def aXw(i:lF)(s:pt)(b:a8e i s):Ct 240 [.a i.c, .a s.c] (λr=>isI r):=by refine bho rfl rfl λj g d e f=>?_;simp+contextual only[a4i,a4k,a4j,a4l,a4h,f8,aI,au,u0,u1,d,e,ix,rk,gw,ar,aOX,aj,aPG,hH,ld,tn,rr,↓uL];simp only[j1,sA,sr,vm,hH,bR];exactλ_ _=>⟨λh=>b<|.inl h,λ_ h=>b<|.inr h⟩
def aUn:FT:=pn aXw
def bce{i s Lw K}:=rQ aUn aXw i s Lw K (j:=by simp+contextual only[ij,Nb])
def aWV(d:w6):Ct 243 [.a d.c] (λr=>isB r):=by refine bgz rfl λg f b e=>?_;simp+contextual only[a0m,u0,u1,b,gw,ar,aOX,aj,aRB,aNP,hH,ld,↓uL]
def aT3:FT:=aP7 aWV
def bbD{d Lw K}:=aRM aT3 aWV d Lw K (j:=by simp+contextual only[ij,Nb])
def slc{Y:ae}{K:o8}{i:Int}{l:List ByteArray}:rV (fo 1 Y (sl cs l) J (V<|iv i) J) K=((0<=i/\i<=L l)/\K (sl cs<|l.take i.toNat)):=aIk λ_=>rfl
def aWZ(p:xr)(t:Int)(s:ByteArray)(e:PrB p):Ct 289 [.a p.c,iv t,st s] (λr=>∃k,r=iv k/\(k=5->0<=aOB p.A7 s)):=by obtain⟨g,j,l⟩:=e;refine bgD rfl λq o b f=>?_;have d:=aTb (p:=λi=>Q<|(gd p.A7 i).name=s) (n:=L p.A7);have m:∀t:Int,L (gd p.ay t.toNat).locs<4611686018427387904:=λt=>(by by_cases h:t.toNat<L p.ay;grind [dB];rw[gd,eI,List.getElem?_eq_none<|by omega];decide);rw[<-aOB] at d;simp+contextual only[a0t,a0u,a0s,f8,aI,au,u0,u1,b,Ca,rk,gw,ar,aOX,aj,a6n,↓uL];simp only[aF];(try simp only[j1,sA,bN,pk,aNS,aTo]);grind
def aT5:FT:=vn aWZ
def bbH{p t s Lw K}:=zZ aT5 aWZ p t s Lw K (j:=by simp+contextual only[ij,Nb])
def aW3(l:List w6)(O:L l<1000):Ct 216 [sl w6.c l] (λr=>aQ1 r):=by
 refine bgH λs0 E H=>?_
 simp only[a0E]
 refine jD (α:=Int×Int×Int×Int) (λs i=>[iv s.1,iv s.2.1,iv s.2.2.1,iv s.2.2.2,iv i]) 4 (L l) (λ_ _ Y=>L Y=4096) (s0:=(0,0,0,0)) E ?_
 rintro k ⟨a,b,c,d⟩ Y N e
 have F:∀(x y z u:Int) Y',L Y'=4096->k<L l->yI (λ(s:Int×Int×Int×Int) i=>[iv s.1,iv s.2.1,iv s.2.2.1,iv s.2.2.2,iv i]) (L l) (λ_ _ Y=>L Y=4096) [iv x,iv y,iv z,iv u,iv<|dq.wrap<|(k:Int)+1] Y'/\gM 4 (L l) [iv x,iv y,iv z,iv u,iv<|dq.wrap<|(k:Int)+1] Y'<gM 4 (L l) [iv a,iv b,iv c,iv d,iv k] Y:=λx y z u Y' m g=>
  dR (mk:=λ(s:Int×Int×Int×Int) i=>[iv s.1,iv s.2.1,iv s.2.2.1,iv s.2.2.2,iv i]) (s:=(a,b,c,d)) (s':=(x,y,z,u)) (λ_ _=>rfl) g (by omega) m
 have t:∀{Y:ae} {K:o8} {i:Int},rV (fo 6 Y (sl w6.c l) J (V<|iv i) J) K=((0<=i/\i<=L l)/\K (sl w6.c<|l.take i.toNat)):=aIk λ_=>rfl
 simp only[a0N,aI,au,u0,u1,aO2,rr,hH,tn,a0M,Ca,bh,gw,rr,↓uL]
 intro h
 have f:=aL h
 refine⟨dJ f,anu e λv A w G B=>?_⟩
 have o:L A=4096:=w.len.trans e
 have j:(0:Int)<=k/\(k:Int)<=L l:=(by omega)
 have D:=aTb (p:=λi=>Q<|(gd (l.take k) i).name=(gd l k).on) (n:=L<|l.take k)
 have q:L (l.take k)<4611686018427387904:=by simp;omega
 have C:Q (aOB (l.take k) (gd l k).on<0)=I->aF (L l) (aOB (l.take k) (gd l k).on):=λh=>by
  simp only[sA] at h
  have M:L (l.take k)<=L l:=by simp only[gC];omega
  exact⟨by omega,by have:=D.2;rw[aOB];omega⟩
 simp+contextual only[aUT,t,bh,u0,u1,B,rk,gw,aj,ar,aOX,rr,aO2,hH,tn,a0I,a0F,a0H,a0L,a0G,a0K,a0J,aUT,j,Ca,C,F,f,o,q,aRW,ld,↓uL]
def aT7:FT:=om aW3
def bbL{l Lw K}:=qz aT7 aW3 l Lw K (j:=by simp+contextual only[ij,Nb])
def aW7(p:xr)(B:PrB p):Ct 217 [.a p.c] (λr=>aQ1 r):=by refine bgL rfl λm t o E=>?_;obtain⟨G,H,y⟩:=B;simp only[a0T];have w:∀{Y:ae} {K:o8} {i:Int},rV (fo 4 Y (sl xt.c p.ay) J (V<|iv i) J) K=((0<=i/\i<=L p.ay)/\K (sl xt.c<|p.ay.take i.toNat)):=aIk λ_=>rfl;refine yV (L p.ay) (λ_ _ Y=>Fx m Y []) (Fx.refl _ _) ?_;rintro k _ Y A F;have e:=F.kq o;have f:L Y=4096:=F.len.trans t;simp only[a0Y,aI,au,u0,u1,e,rk,gw,aj,Ca,bh,↓uL];refine⟨λh=>⟨vp h,anu f λv n d x g=>?_⟩,λh=>?_⟩;have b:=aL h;have l:=d.kq e;have q:(0:Int)<=k/\(k:Int)<=L p.ay:=(by omega);have u:L (p.ay.take k)<4611686018427387904:=(by simp;omega);have C:=dR (mk:=λ(_:Unit) i=>[iv i]) (p:=0) (s:=()) (s':=()) (Inv:=λ_ _ Y=>Fx m Y []) (Y:=Y) (Y':=n) (λ_ _=>rfl) b (by omega)<|F.trans d;simp+contextual only[a0U,w,bh,u0,u1,l,g,gw,aj,ar,aOX,rr,aO2,hH,tn,q,u,C,↓uL];omega;refine yV (L p.ay) (λ_ _ Y=>Fx m Y []) F ?_;rintro k _ Y A F;have e:=F.kq o;have f:L Y=4096:=F.len.trans t;simp only[a0W,aI,au,u0,u1,e,rk,gw,aj,Ca,bh,rr,aO2,hH,tn,↓uL];refineλh=>⟨vp h,anu f λv n d x g=>?_⟩;have b:=aL h;have l:=d.kq e;simp+contextual only[a0V,u0,u1,g,gw,aj,rr,aO2,hH,bR,↓uL];intro M;have D:=y _<|dB b;refine C7 (L (gd p.ay k).locs) (λ_=>True) trivial λj N _=>?_;simp+contextual only[a0X,aI,au,u0,u1,l,g,rk,gw,aj,ix,bh,ar,aOX,rr,aO2,hH,slc,↓uL];refine⟨λz=>?_,λz=>dR (mk:=λ(_:Unit) i=>[iv i]) (s:=()) (s':=()) (λ_ _=>rfl) b (by omega)<|F.trans d⟩;grind [aL,dJ,gS]
def aT9:FT:=om aW7
def bbP{p Lw K}:=qz aT9 aW7 p Lw K (j:=by simp+contextual only[ij,Nb])
def cu(x:Int):List AV:=[.s<|.int .u8 x]
def a6E{Y:ae}{K:o8}{i:Int}{l:List Int}:rV (cz 1 Y (sl cu l)<|iv i) K=(aF (L l) i/\K (.q<|cu<|gd l i.toNat)):=aBz λ_=>rfl
theorem bcP{x y:Int}:(cu x=cu y)=(x=y):=by simp[cu]
def aQZ{l l':List Int}:(sl cu l=sl cu l')=(l=l'):=(by grind [kL,bcP])
def aWH(l:List Int)(t:L l<1000):Ct 61 [sl cu l] (λr=>∃cs:List xd,r=sl xd.c cs/\L cs=L l):=by refine aDq (bgd λs0 n o=>?_);simp only[aYP];refine jD (α:=AV) (λa i=>[a,iv i]) 1 (L l) (λk a Y=>L Y=4096/\∃cs:List xd,L cs=k/\bc Y 52 2 a (cs.map xd.c)) (s0:= .l [] U U) ⟨n,[],rfl,bc.nil⟩ ?_;rintro k a Y q ⟨b,cs,m,d⟩;simp+contextual only[aYQ,aI,au,u0,u1,a6E,bh,cu,qM,aS6,aPR,a5N,aP1,↓uL];refine⟨λh=>⟨vp h,by decide,vp h,by decide,by decide,?_⟩,λh=>?_⟩;generalize(dq.wrap<|gd l k).tmod 4=x;generalize dq.wrap ((dq.wrap<|(dq.wrap<|gd l k).tdiv 4).tmod 5-1)=y;have e:bM nJ C2 [(0,iv x),(1,iv y)]=V (.a<|xd.c ⟨x,y⟩):=rfl;have f:aX bh6 1 Y [(0, .a<|xd.c ⟨x,y⟩)]=V (.l ([(⟨x,y⟩:xd)].map xd.c) U U,Y):=ua rfl rfl rfl (by decide) rfl (by decide);simp only[e,f,aY,bQ];refine O5 d.p b (by grind [xd.c]) (by grind [xd.c]) (by simp) (by simp;omega) λj Y' g F N=>?_;refine dT (by first|rfl|(simp[eL,okT,tok,lb,cq,Qh,cD,dC,pP,dK];done)) ?_;simp only[u0,u1,↓uL];refine dR (mk:=λa i=>[a,iv i]) (s:=a) (s':=j) (λ_ _=>rfl) (aL h) (by omega) ⟨F.len.trans b,cs++[⟨x,y⟩],by simp[m],by simp_all⟩;exact aOv (Q:=λr=>∃cs:List xd,r=sl xd.c cs/\L cs=L l) (aWs d.p) (by simp[iX,eN]) ⟨cs,rfl,by grind⟩
def aTT:FT:=om aWH
def bbp{l Lw K}:=qz aTT aWH l Lw K (j:=by simp+contextual only[ij,aQZ])
def aWL(s:ByteArray)(e:fc):Ct 177 [st s, .a e.c] (·= .a (eo.mk 1 0 s ⟨#[]⟩ [] e [] []).c):=by refine aDq (bgi aN9 λp j f o=>?_);simp only[aZh];refine so j λv q d m g=>?_;have i:=d.kq f;have b:bM C8 anY [(0,iv 1),(2,st s),(5, .a e.c)]=V (.a [iv 1,iv 0,st s,sv [], .l [] U U,iv e.op,iv e.n,st e.name,sl fc.c e.l, .l [] U U, .l [] U U]):=(by rw[aoH];rfl);simp only[aZi,u0,u1,i,gw,b,↓uL];refine qr g rfl rfl λr k h=>?_;simp only[u0,u1,h,bd8,↓uL];exact aQ7 (by rw[apT];rfl) (by rw[apT];rfl)
def aPN:FT:=lI aWL
def bbt{s e Lw K}:=nq aPN aWL s e Lw K (j:=by simp+contextual only[ij,Nb])
def aWM(o:Int)(a b:fc):Ct 254 [iv o, .a a.c, .a b.c] (·= .a (fc.mk o 0 ⟨#[]⟩ [a,b]).c):=by refine aDq (bgj aN9 aN9 λt p h i s=>?_);simp only[aZj];refine so p λv g d r j=>?_;have m:=d.kq h;have n:=d.kq i;have f:aX bh5 2 g [(0, .a a.c),(1, .a b.c)]=V (.l [a.c,b.c] U U,g):=(by rw[aoH (x:=a),aoH (x:=b)];kernel_rfl);simp only[aZl,u0,u1,m,n,gw,f,↓uL];have e:bM aR4 alz [(0,iv o),(3, .l [a.c,b.c] U U)]=V (.a [iv o,iv 0,sv [], .l [a.c,b.c] U U]):=rfl;simp only[aZk,e,aY,↓uL];refine qr j rfl rfl λu q k=>?_;simp only[u0,u1,k,uS,↓uL];exact aQ7 (by rw[aoH (x:= .mk o 0 ⟨#[]⟩ [a,b])];rfl) (by rw[aoH (x:= .mk o 0 ⟨#[]⟩ [a,b])];rfl)
def aRg:FT:=za aWM
def bbu{o a b Lw K}:=KP aRg aWM o a b Lw K (j:=by simp+contextual only[ij,Nb])
def aXG(s:mn)(E:L s.bm.ay<1000):Ct 208 [.a s.c] (λr=>∃l:List Int,r=sl ci l/\L l<=L s.bm.ay):=by refine aDq (bhE rfl λj x t B=>?_);simp only[a5v,u0,u1,t,rk,aj,↓uL];refine jD (α:=AV) (λa i=>[a,iv i]) 1 (L s.bm.ay) (λk a Y=>Fx j Y []/\∃l:List Int,L l<=k/\bc Y 3 1 a (l.map ci)/\∀q∈aA a,bK j q) (s0:= .l [] U U) ⟨Fx.refl _ _,[],by simp,bc.nil,by simp[aA]⟩ ?_;rintro k a Y D ⟨F,l,C,f,w⟩;have d:L Y=4096:=F.len.trans x;simp only[a5z,aI,au,u0,u1,a5y,ix,bh,rkx,rr,↓uL];refine⟨λh=>⟨vp h,anu d λv n b A u=>?_⟩,λh=>?_⟩;have e:=aL h;have y:L n=4096:=b.len.trans d;simp+contextual only[a5w,u0,u1,u,rk,aj,a5Y,a5x,↓uL];refine⟨λ_=>?_,λ_=>dR (mk:=λa i=>[a,iv i]) (s:=a) (s':=a) (λ_ _=>rfl) e (by omega) ⟨F.trans b,l,by omega,f.fx b (by simp),w⟩⟩;refine qs (f.fx b<|by simp).p rfl (by decide) (by omega) pU pU (by simp) (by simp;omega) λo Y' g m z=>?_;refine dR (mk:=λa i=>[a,iv i]) (s:=a) (s':=o) (λ_ _=>rfl) e (by omega) ⟨((F.trans b).trans m).mono λq G=> .inr ?_,l++[(k:Int)],by simp;omega,by simp_all,by grind [bK.old]⟩;grind [bK.no];exact aOv (Q:=λr=>∃l:List Int,r=sl ci l/\L l<=L s.bm.ay) (aWs f.p) (by simp[iX,eN]) ⟨l,rfl,by omega⟩
def aSk:FT:=om aXG
def bcn{s Lw K}:=qz aSk aXG s Lw K
def a7x:dO:=(270,aUb)::(272,aUa)::(236,aSg)::(210,aUe)::(240,aUn)::(243,aT3)::(289,aT5)::(216,aT7)::(217,aT9)::(61,aTT)::(177,aPN)::(254,aRg)::(208,aSk)::a7w
def aNH:eJ a7x:=it (aYm aXb) (it (a7W aW9)<|it (a7W aXj)<|it (aN0 aXl)<|it (aN0 aXw)<|it (aR6 aWV)<|it (By aWZ)<|it (rj aW3)<|it (rj aW7)<|it (rj aWH)<|it (nI aWL<|λ_ _=>by simp only[Cs,aqG,aOW,Bool.and_self])<|it (Rs aWM<|λ_ _ _=>by simp only[Cs,aqG,aOW,Bool.and_self])<|it (rj aXG)<|aOh)
def aD6:=ai @bbT<|ai @bbR<|ai @bb1<|ai @bb3<|ai @bce<|ai @bbD<|ai @bbH<|ai @bbL<|ai @bbP<|ai @bbp<|ai @bbt<|ai @bbu<|ai @bcn<|@aOX
section
attribute[local irreducible] aX
def a1l c g h i j a R:=aw 2 a c λt3=>fV aT5 a [t3,g,h] λt4=>bf t4 (iv 0) λk=>ah k (aE R a [iv 5]) (aO .neq t4 i λb=>fm b t4 λl=>fm b j λd=>az b (aO .neq l d) λe=>aD b e (bv I) λf=>ah f (aE R a [iv 6])<|aE R a [iv 0])
def bgO{b:List AV}{c d e f:AV}{R:o8}(l0:L b=2)(h:H1 197 2 5 b λg i=>a1l g c d e f i R):Ct 276 [.a b,c,d,e,f] R:=z1 a8V aNH Tryz.func276 l0 h
def a86:=bi 10 [(4,([4,5,6],[1]))]
def a0w b c R(n:cG)(h:fD) a:=Rg->ab 3 b c λo=>aJ b o λp=>aU (gt a 2) p λq=>ah q (ab 3 b c λr=>ao 4 b r (gt a 2) λi=>aw 4 b i λj=>fV (cX 290) b [j] λd=>rV (eO 0 d) λk=>rV (eO 1 d) λl=>aV (gt a 0) k λe=>rV (AO .max (gt a 1) l) λf=>aV (gt a 2) (iv 1) λg=>n [e,f,g]/\h [e,f,g]<h a) (aV (gt a 1) (iv 1) λm=>aE R b [gt a 0,m])
def a0v a b R:=lR [iv 1,iv 0,iv 0]<|a0w b a R
def bgE{b:List AV}{R:o8}(l0:L b=4)(h:H1 259 4 1 b λc d=>a0v c d R):Ct 290 [.a b] R:=z1 a86 aNH Tryz.func290 l0 h
def a0o s0 d R(i:cG)(e:fD) a:=Rg->aJ s0 d λt3=>aU (gt a 1) t3 λt4=>ah t4 (ao 11 s0 d (gt a 1) λj=>ab 9 s0 j λk=>fV (cX 218) s0 [k] λl=>aV (gt a 0) l λm=>ao 11 s0 d (gt a 1) λf=>ab 10 s0 f λg=>fV (cX 218) s0 [g] λh=>aV m h λb=>aV (gt a 1) (iv 1) λc=>i [b,c]/\e [b,c]<e a)<|aE R s0 [gt a 0]
def a0n a s0 R:=aJ s0 a λt1=>lR [t1,iv 0]<|a0o s0 a R
def bgA{a:AV}{R:o8}(h:H0 λs0=>a0n a s0 R):Ct 218 [a] R:=z0 a8H aNH Tryz.func218 h
def a8X:=bi 14 [(7,([4],[1]))]
def aUR b d R(i:cG)(e:fD) a:=Rg->ab 3 b d λj=>aJ b j λk=>aU (gt a 0) k λl=>ah l (ab 3 b d λm=>ao 4 b m (gt a 0) λn=>aw 4 b n λf=>fV (cX 287) b [f] λg=>cf g λh=>ah h (aE R b [bv I])<|aV (gt a 0) (iv 1) λc=>i [c]/\e [c]<e a)<|aE R b [bv U]
def aSt a b R:=ab 0 b a λt4=>bf t4 (iv 2) λj=>bn j 0 b a λk=>aC j (bf k<|iv 3) λl=>aD j (bv U) l λi=>ab 0 b a λm=>fV aTZ b [m] λn=>ab 3 b a λo=>aJ b o λp=>aO .neq n p λc=>bX c i λq=>bn c 2 b a λr=>aC c (aO .neq r<|sv []) λs=>aC c (rV<|wl .neq 1 [] q s) λt=>aD c (bv U) t λe=>bX e i λu=>bX e u λf=>aT f 2 b a λv=>az f (fV aPd b [v]) λw=>az f (cf w) λx=>aC e (aD f x<|bv I) λy=>aD e (bv U) y λg=>bn g 1 b a λz=>aC g (aU z<|iv 0) λA=>aD g (bv U) A λd=>bn d 0 b a λB=>aC d (aO .neq B<|iv 1) λC=>bX d C λh=>aT h 1 b a λD=>az h (aO .neq D<|iv 0) λE=>aC d (aD h E<|bv I) λF=>aD d (bv U) F λG=>ah G (aE R b [bv I])<|lR [iv 0]<|aUR b a R
def bgv{b:List AV}{R:o8}(l0:L b=4)(h:H1 259 4 1 b λc d=>aSt c d R):Ct 287 [.a b] R:=z1 a8X aNH Tryz.func287 l0 h
def a9D:=bi 35 [(11,([59],[2,3,6])),(14,([78],[2,3,6])),(19,([98],[2,3,6])),(23,([108],[2,3,6]))]
def a2J a b e R f g:=Rg->ah (gt g 0) (ab 1 a b λh=>ab 4 a e λi=>aJ a i λj=>fV aN3 a [h,j] λk=>aE R a [k]) (bf f (iv 26) λl=>ah l (ab 1 a b λm=>ab 3 a e λn=>aJ a n λo=>fV aN3 a [m,o] λp=>aE R a [p])<|bf f (iv 27) λq=>ah q (ab 2 a b λr=>ab 3 a e λs=>aJ a s λt=>fV aN3 a [r,t] λu=>aE R a [u])<|bf f (iv 3) λv=>ah v (ab 4 a b λw=>bf w (iv 4) λc=>bn c 4 a b λx=>aC c (bf x<|iv 5) λy=>aD c (bv U) y λz=>aE R a [z])<|bf f (iv 4) λA=>ah A (ab 4 a b λB=>aO .geq B (iv 6) λd=>aT d 4 a b λC=>az d (aO .leq C<|iv 18) λD=>aD d D (bv I) λE=>aE R a [E])<|aE R a [bv U])
def a2N d(a:cG):=bf d (iv 24) λb=>ah b (a [b]) (bf d (iv 25) λc=>a [c])
def a2I a c d R i b:=Rg->ah (gt b 0) (ab 1 a c λe=>ab 2 a d λf=>aJ a f λg=>fV aN3 a [e,g] λh=>aE R a [h]) (jR 23 (a2J a c d R i)<|a2N i)
def a2M e(a:cG):=bf e (iv 21) λb=>ah b (a [b]) (bf e (iv 22) λc=>ah c (a [c])<|bf e (iv 23) λd=>a [d])
def a2H b c d R n e:=Rg->ah (gt e 0) (ab 1 b c λf=>ab 1 b d λg=>aJ b g λh=>fV aN3 b [f,h] λa=>aT a 1 b d λi=>aT a 1 b c λj=>az a (ao 2 b i j) λk=>aT a 1 b k λl=>aD a l (bv I) λm=>aE R b [m]) (jR 19 (a2I b c d R n)<|a2M n)
def a2L e(a:cG):=bf e (iv 13) λb=>ah b (a [b]) (bf e (iv 14) λc=>ah c (a [c])<|bf e (iv 15) λd=>ah d (a [d])<|bf e (iv 16) λf=>a [f])
def a2G a c d R k j:=Rg->ah (gt j 0) (ab 1 a c λl=>ab 1 a d λm=>aJ a m λn=>fV aN3 a [l,n] λb=>aT b 1 a d λo=>aT b 1 a c λe=>az b (ao 2 a o e) λf=>aT b 1 a f λg=>az b (cf g) λh=>aD b h (bv I) λi=>aE R a [i]) (jR 14 (a2H a c d R k)<|a2L k)
def a2K d(b:cG):=bf d (iv 11) λa=>ah a (b [a]) (bf d (iv 12) λc=>b [c])
def a2F c b a R:=ab 0 a b λf=>bf f (iv 6) λK=>ah K (ab 2 a b λM=>ab 0 a c λg=>aJ a g λh=>fV aN3 a [M,h] λd=>aT d 0 a c λi=>aT d 2 a b λj=>az d (ao 5 a i j) λk=>aT d 2 a k λl=>az d (bf l<|iv 0) λm=>aD d m (bv I) λn=>aE R a [n]) (bf f (iv 8) λo=>ah o (ab 1 a b λp=>ab 0 a c λq=>aJ a q λr=>fV aN3 a [p,r] λe=>aT e 0 a c λs=>aT e 1 a b λt=>az e (ao 5 a s t) λu=>aT e 2 a u λv=>az e (bf v<|iv 0) λw=>aD e w (bv I) λx=>aE R a [x])<|bf f (iv 7) λy=>ah y (aw 6 a c λz=>ab 2 a b λA=>ab 4 a b λB=>fV aSg a [z,A,B] λC=>aE R a [C])<|bf f (iv 9) λD=>ah D (aw 6 a c λE=>ab 1 a b λF=>ab 4 a b λG=>fV aSg a [E,F,G] λH=>aE R a [H])<|jR 11 (a2G a b c R f)<|a2K f)
def bha{b:List AV}{c:List AV}{R:o8}(l0:L b=6)(l1:L c=6)(h:H2 31 6 2 b 251 6 3 c λd e f=>a2F d e f R):Ct 209 [.a b, .a c] R:=z2 a9D aNH Tryz.func209 l0 l1 h
end
def aW8(p:xr)(t:Int)(s:ByteArray)(a b:Int)(e:PrB p):Ct 276 [.a p.c,iv t,st s,iv a,iv b] (λr=>∃k,r=iv k/\(k=0->a=5->b=5->0<=aOB p.A7 s)):=by refine bgO rfl λh g d f=>?_;simp+contextual only[a1l,u0,u1,d,gw,ar,Fa,aD6,e,aXX,a6n,↓uL];grind
def aOd:FT:=aTQ aW8
def bbQ{p t s a b Lw K}:=bbn aOd aW8 p t s a b Lw K (j:=by simp+contextual only[ij,Nb])
def aW0(e:fc)(f:∃n,C6 n e):Ct 290 [.a e.c] (λr=>aQ1 r):=by obtain⟨n,f⟩:=f;induction n generalizing e with|zero=>exact f.elim|succ n j=>have i:=f.len;refine bgE aN9 λp o g m=>?_;simp only[a0v];refine yh (λs:Int×Int×Nat=>[iv s.1,iv s.2.1,iv s.2.2]) 2 (L e.l) (λ_=>True) (1,0,0) trivial ?_;rintro⟨a,b,k⟩ _;simp only[a0w,aI,au,u0,u1,g,gw,aj,Ca,bh,rr,jM,kU,jt,Fa,aO2,hH,tn,↓uL];intro h;have d:=aL h;refine⟨dJ d,aPW (j _<|f.2 _<|dB d) (aV2 a6h) ?_⟩;rintro r ⟨x,y,rfl⟩;simp only[u0,u1,rr,aRW,bR];exact wN (enc:=λs:Int×Int×Nat=>[iv s.1,iv s.2.1,iv s.2.2]) (s:=(a,b,k)) (s':=(_,_,k+1)) (by rw[fX<|by omega]) rfl rfl d trivial
def aT6:FT:=om aW0
def bbI{e Lw K}:=qz aT6 aW0 e Lw K (j:=by simp+contextual only[ij,Nb])
def aWW(l:List eo)(d:∃n,shL n 8 l):Ct 218 [sl eo.c l] (λr=>isI r):=by obtain⟨n,d⟩:=d;induction n using Nat.strongRecOn generalizing l with|ind n f=>obtain⟨j,g⟩:=d;refine bgA λs0 o i=>?_;simp only[a0n,u0,u1,↓uL];refine yh (λs:Int×Nat=>[iv s.1,iv s.2]) 1 (L l) (λ_=>True) (L l,0) trivial ?_;rintro⟨a,k⟩ _;simp only[a0o,aI,au,u0,u1,Ca,rr,gw,bh,jM,kU,jt,alg,aPG,hH,tn,↓uL];intro h;have b:=aL h;obtain⟨m,rfl,g1,e⟩:=(g _<|dB b).body;refine⟨dJ b,aPW (f m (by omega) _ ⟨by have:=g1.1;omega,g1.2⟩) rfl ?_⟩;rintro r ⟨x,rfl⟩;simp only[u0,u1,AL,bR];refine⟨dJ b,aPW (f m (by omega) _ ⟨by have:=e.1;omega,e.2⟩) rfl ?_⟩;rintro r ⟨y,rfl⟩;simp only[u0,u1,AL,bR];exact wN (enc:=λs:Int×Nat=>[iv s.1,iv s.2]) (s:=(a,k)) (s':=(_,k+1)) (by rw[fX<|by omega]) rfl rfl b trivial
def aT4:FT:=om aWW
def bbE{l Lw K}:=qz aT4 aWW l Lw K (j:=by simp+contextual only[ij,Nb])
def aWS(e:fc)(f:∃n,C6 n e):Ct 287 [.a e.c] (λr=>isB r):=by obtain⟨n,f⟩:=f;induction n generalizing e with|zero=>exact f.elim|succ n o=>have m:=f.len;refine bgv aN9 λq u g s=>?_;have d:lR [iv 0] (aUR q (.p (1,1) 0 0) λr=>isB r):=(by refine C7 (L e.l) (λ_=>True) trivial λk t _=>?_;simp only[aUR,aI,au,u0,u1,g,gw,aj,Ca,bh,rr,jM,kU,jt,Fa,aNP,hH,tn,↓uL];intro h;have i:=aL h;refine⟨dJ i,aPW (o _<|f.2 _<|dB i) (aV2 a6h) ?_⟩;rintro r ⟨x,rfl⟩;simp only[u0,u1,AL,bR,hH];grind [gS]);have b:e.op=2\/e.op=3\/(e.op≠2/\e.op≠3):=(by omega);rcases b with b|b|⟨j,b⟩;simp+contextual only[aSt,u0,u1,g,gw,ar,aD6,aj,rr,aRB,aNP,hH,b,aNV,d,ya,Bool.and_self,↓jN,↓uL];simp+contextual only[aSt,u0,u1,g,gw,ar,aD6,aj,rr,aRB,aNP,hH,b,aNV,aNK,wY,d,Int.reduceEq,ya,Bool.and_self,↓jA,↓uL];simp+contextual only[aSt,u0,u1,g,gw,ar,aD6,aj,rr,aRB,aNP,hH,j,b,aNK,d,Aa,Bool.and_self,↓jA,↓jN,↓uL]
def aRh:FT:=om aWS
def bbA{e Lw K}:=qz aRh aWS e Lw K (j:=by simp+contextual only[ij,Nb])
def aXn(w:br)(i:lF):Ct 209 [.a w.c, .a i.c] (λr=>isB r):=by refine bha rfl rfl λg f b d e=>?_;simp+contextual (maxSteps:=2000000) only[a2J,a2N,a2I,a2M,a2H,a2L,a2G,a2K,a2F,f8,au,u0,u1,b,d,ix,rk,gw,ar,aD6,aj,rr,aNP,DR,hH,ld,↓uL];(try simp only[j1,sA,bN,pk,aNS,aTo]);(repeat' (first|apply ai|intro _));all_goals first|omega|trivial
def aUf:FT:=aRd aXn
def bb5{w i Lw K}:=aWg aUf aXn w i Lw K (j:=by simp+contextual only[ij,Nb])
def a7y:dO:=(276,aOd)::(290,aT6)::(218,aT4)::(287,aRh)::(209,aUf)::a7x
def aR1:eJ a7y:=it (bhJ aW8) (it (rj aW0<|λ_=>by simp only[Cs,aqG,aOW,Bool.and_self])<|it (rj aWW<|λ_=>by simp only[Cs,aqG,aOW,Bool.and_self])<|it (rj aWS<|λ_=>by simp only[Cs,aqG,aOW,Bool.and_self])<|it (aYm aXn)<|aNH)
def aRO:=ai @bbQ<|ai @bbI<|ai @bbE<|ai @bbA<|ai @bb5<|@aD6
section
attribute[local irreducible] aX
def a9a:=bi 13 [(2,([7],[1,3,5])),(8,([7,8],[1,3,5]))]
def aUU b d h q R(p:cG)(g:fD) a:=Rg->ab 3 b d λr=>aJ b r λs=>aU (gt a 1) s λc=>fm c (gt a 0) λi=>az c (bf i<|iv 0) λj=>aD c j (bv I) λk=>ah k (aw 2 b h λl=>ab 3 b d λm=>ao 4 b m (gt a 1) λn=>aw 4 b n λo=>fV (cX 291) b [l,q,o] λe=>aV (gt a 1) (iv 1) λf=>p [e,f]/\g [e,f]<g a)<|aE R b [gt a 0]
def a0P e a b d R c:=Rg->lR [gt c 0,iv 0] (aUU e a b d R)
def a0Q a b c f(e:cG):=ab 0 a b λd=>bf d (iv 2) λg=>ah g (aw 2 a c λh=>ab 2 a b λi=>fV aOd a [h,f,i,iv 8,iv 1] λj=>e [j]) (bf d (iv 3) λk=>ah k (aw 2 a c λl=>ab 2 a b λm=>fV aOd a [l,f,m,iv 2,iv 2] λn=>e [n])<|e [iv 0])
def a0O b c a d R:=jR 2 (a0P d a b c R)<|a0Q d a b c
def bgI{b:List AV}{d:AV}{c:List AV}{R:o8}(l0:L b=2)(g:L c=4)(h:H2 197 2 3 b 259 4 5 c λe f i=>a0O e d f i R):Ct 291 [.a b,d, .a c] R:=z2 a9a aR1 Tryz.func291 l0 g h
def a8Y:=bi 23 []
def aUS b a R:=ab 0 a b λt4=>aU t4 (iv 1) λt5=>bn t5 0 a b λbb=>aC t5 (aO .gtr bb<|iv 15) λbc=>aD t5 (bv U) bc λbd=>ah bd (aE R a [bv I]) (ab 0 a b λbe=>bf be (iv 2) λx=>bn x 0 a b λbg=>aC x (bf bg<|iv 3) λbi=>aD x (bv U) bi λy=>bn y 0 a b λbj=>aC y (bf bj<|iv 7) λbk=>aD y (bv U) bk λz=>bn z 0 a b λbl=>aC z (bf bl<|iv 8) λbm=>aD z (bv U) bm λu=>aT u 2 a b λbo=>az u (aO .neq bo<|sv []) λbp=>aD u bp (bv I) λm=>bX m u λbq=>aC m (cf bq) λbr=>bX m br λv=>aT v 2 a b λbs=>az v (fV aPd a [bs]) λbt=>az v (cf bt) λbu=>aC m (aD v bu<|bv I) λbw=>aD m (bv U) bw λbx=>ah bx (aE R a [bv I])<|ab 0 a b λbz=>bf bz (iv 15) λw=>aT w 3 a b λbB=>az w (fV aPd a [bB]) λbC=>az w (cf bC) λbD=>aD w bD (bv I) λn=>bn n 0 a b λA=>aC n (aO .neq A<|iv 15) λB=>bX n B λo=>aT o 3 a b λC=>az o (aO .neq C<|sv []) λD=>aC n (aD o D<|bv I) λE=>aD n (bv U) E λF=>ah F (aE R a [bv I])<|ab 4 a b λG=>aJ a G λH=>aO .gtr H (iv 1) λf=>bn f 0 a b λK=>aC f (aO .neq K<|iv 1) λM=>bX f M λj=>aT j 4 a b λN=>az j (aJ a N) λO=>az j (aO .gtr O<|iv 0) λP=>aC f (aD j P<|bv I) λS=>aD f (bv U) S λc=>bn c 4 a b λT=>aC c (aJ a T) λW=>aC c (bf W<|iv 1) λX=>bX c X λd=>aT d 4 a b λZ=>az d (ao 4 a Z<|iv 0) λaa=>az d (aw 4 a aa) λac=>az d (fV aRh a [ac]) λad=>az d (cf ad) λae=>aC c (aD d ae<|bv I) λaf=>aD c (bv U) af λag=>ah ag (aE R a [bv I])<|ab 0 a b λak=>bf ak (iv 1) λp=>bn p 0 a b λal=>aC p (bf al<|iv 2) λam=>aD p (bv U) am λq=>bn q 0 a b λan=>aC q (bf an<|iv 3) λap=>aD q (bv U) ap λr=>bn r 0 a b λaq=>aC r (bf aq<|iv 14) λar=>aD r (bv U) ar λe=>az e (aB 5 a b) λau=>az e (aw 4 a au) λav=>az e (fV aRh a [av]) λax=>az e (cf ax) λay=>aD e ay (bv I) λg=>bX g e λaA=>aC g (cf aA) λaF=>bX g aF λh=>az h (aB 5 a b) λaG=>az h (aw 4 a aG) λaI=>az h (fV aT2 a [aI]) λaK=>az h (cf aK) λaL=>aC g (aD h aL<|bv I) λaM=>aD g (bv U) aM λaN=>ah aN (aE R a [bv I])<|ab 0 a b λaP=>aO .geq aP (iv 2) λs=>aT s 0 a b λaQ=>az s (aO .leq aQ<|iv 8) λaR=>aD s aR (bv I) λaV=>cf aV λk=>aT k 9 a b λaW=>az k (aJ a aW) λaX=>az k (aO .gtr aX<|iv 0) λaY=>aD k aY (bv I) λi=>bn i 0 a b λaZ=>aC i (aO .neq aZ<|iv 2) λa0=>bX i a0 λl=>aT l 10 a b λa1=>az l (aJ a a1) λa2=>az l (aO .gtr a2<|iv 0) λa3=>aC i (aD l a3<|bv I) λa4=>aD i (bv U) a4 λa5=>ah a5 (aE R a [bv I])<|ab 9 a b λa6=>fV (cX 244) a [a6] λt=>aT t 10 a b λa7=>az t (fV (cX 244) a [a7]) λa8=>aD t a8 (bv I) λa9=>aE R a [a9])
def bgw{b:List AV}{R:o8}(l0:L b=11)(h:H1 261 11 1 b λc d=>aUS c d R):Ct 273 [.a b] R:=z1 a8Y aR1 Tryz.func273 l0 h
def a8Z:=bi 10 [(3,([3],[0]))]
def a0h s0 b R(d:cG)(m1:fD) a:=Rg->aJ s0 b λe=>aU (gt a 0) e λt3=>ah t3 (ao 11 s0 b (gt a 0) λt4=>aw 11 s0 t4 λf=>fV (cX 273) s0 [f] λg=>cf g λh=>ah h (aE R s0 [bv I])<|aV (gt a 0) (iv 1) λc=>d [c]/\m1 [c]<m1 a)<|aE R s0 [bv U]
def a0g a s0 R:=lR [iv 0]<|a0h s0 a R
def bgx{a:AV}{R:o8}(h:H0 λs0=>a0g a s0 R):Ct 244 [a] R:=z0 a8Z aR1 Tryz.func244 h
def a9F:=bi 30 [(7,([8],[1,3,5,7])),(23,([11],[1,3,5,7,8,10]))]
def a2T a d r R g(q:aG)(h:bu) s(i:cG)(c:fD) b:=Rg->aJ a d λj=>aU (gt b 0) j λk=>ah k (ao 1 a d (gt b 0) λl=>aM a l λm=>ab 0 a r λn=>fV aN3 a [m,n] λo=>cf o λp=>ah p (aE R a [bv I])<|aV (gt b 0) (iv 1) λe=>i [e]/\c [e]<c b) (aV (gt g 0) (iv 1) λf=>q [f] a/\h [f] a<h g s)
def a2S b m t7 o p R a1 am an ap a:=ab 0 a b λaq=>aU aq (iv 1) λn=>bn n 0 a b λar=>aC n (aO .gtr ar<|iv 28) λau=>aD n (bv U) au λe=>bn e 0 a b λav=>aC e (bf av<|iv 28) λax=>bX e (gt m 0) λay=>bX e t7 λaA=>aC e (aO .sub aA<|iv 1) λaB=>aC e (bf ay aB) λaF=>aC e (rV<|wl .neq 1 [] ax aF) λaG=>aD e (bv U) aG λj=>aC j (aw 6 a o) λaI=>aC j (aw 6 a b) λaK=>aC j (fV aUf a [aI,aK]) λaL=>aC j (cf aL) λaM=>aD j (bv U) aM λk=>bn k 1 a p λaN=>bX k (gt m 0) λaP=>aC k (fV aUe a [aN,aP]) λaQ=>aC k (cf aQ) λaR=>aD k (bv U) aR λq=>ah q (aE R a [bv I]) (ab 0 a b λr=>bf r (iv 28) λl=>aT l 5 a b λs=>az l (aO .neq s<|iv<|-1) λt=>aD l t (bv I) λf=>bn f 0 a b λu=>aC f (aO .neq u<|iv 28) λv=>bX f v λc=>aT c 5 a b λw=>aT c 5 a o λx=>az c (aJ a x) λy=>az c (fV aN3 a [w,y]) λz=>az c (cf z) λA=>fm c A λd=>bn d 5 a o λB=>bn d 5 a b λC=>aC d (ao 3 a B C) λD=>bn d 0 a D λE=>bX d a1 λF=>aC d (aO .neq E F) λG=>az c (aD d (bv U) G) λH=>aC f (aD c H<|bv I) λK=>aD f (bv U) K λM=>ah M (aE R a [bv I])<|ab 0 a b λN=>bf N (iv 5) λg=>aT g 1 a b λO=>fm g t7 λP=>az g (fV aN3 a [O,P]) λS=>az g (cf S) λT=>aD g T (bv I) λh=>bn h 0 a b λW=>aC h (bf W<|iv 10) λX=>bX h X λi=>aT i 2 a b λZ=>fm i t7 λaa=>az i (fV aN3 a [Z,aa]) λac=>az i (cf ac) λad=>aC h (aD i ad<|bv I) λae=>aD h (bv U) ae λaf=>ah af (aE R a [bv I])<|aw 6 a b λag=>fV aRj a [ag] λak=>lR [iv 0]<|a2T a ak p R m am an ap)
def a2U l d m R n e f b a:=Rg->aU (gt b 0) l λh=>ah h (ab 1 a d λi=>ao 6 a i (gt b 0) λj=>aw 6 a j λk=>eV (bs 251 aoB a 9) λc g=>sV (aK 6 g c k)<|a2S c b l m d R n e f a)<|aE R a [bv U]
def a2R k l a b R:=ab 1 b a λm=>aJ b m λj=>ab 0 b a λn=>aU n (iv 0) λc=>bn c 0 b a λe=>aC c (aO .gtr e<|iv 32) λf=>aD c (bv U) f λd=>bX d j λg=>aC d (bf g<|iv 0) λh=>aD d (bv U) h λi=>ah i (aE R b [bv I])<|lV [iv 0] b<|a2U j a k R l
def bhb{b:List AV}{d:AV}{c:List AV}{R:o8}(l0:L b=6)(g:L c=2)(h:H2 31 6 3 b 234 2 5 c λe f i=>a2R e d f i R):Ct 168 [.a b,d, .a c] R:=z2 a9F aR1 Tryz.func168 l0 g h
end
def aW4(p:xr)(t:Int)(e:fc)(d:PrB p/\∃n,C6 n e):Ct 291 [.a p.c,iv t, .a e.c] (λr=>isI r):=by obtain⟨j,n,d⟩:=d;induction n generalizing e with|zero=>exact d.elim|succ n o=>have m:=d.len;refine bgI rfl aN9 λq v g i u=>?_;have f:∀x:Int,lR [iv x,iv 0] (aUU q (.p (5,1) 0 0) (.p (3,1) 0 0) (iv t) λr=>isI r):=(by intro x;refine yh (λs:Int×Nat=>[iv s.1,iv s.2]) 1 (L e.l) (λ_=>True) (x,0) trivial ?_;rintro⟨a,k⟩ _;simp+contextual only[aUU,aI,au,u0,u1,g,i,gw,aj,Ca,bh,rr,jM,kU,jt,Fa,aPG,tW,hH,tn,↓uL];intro h;have b:k<L e.l:=(by simp_all);refine⟨dJ b,aPW (o _<|d.2 _<|dB b) (by simp only[Cs,aqG,aOW,Bool.and_self]) ?_⟩;rintro r ⟨y,rfl⟩;simp only[AL,bR];exact wN (enc:=λs:Int×Nat=>[iv s.1,iv s.2]) (s:=(a,k)) (s':=(y,k+1)) (by grind [fX]) rfl rfl b trivial);simp+contextual only[a0O,f8,a0Q,a0P,aI,au,u0,u1,g,i,gw,aj,aRO,j,aXX,AL,ar,Fa,f,hH,ld,↓uL]
def aT8:FT:=vn aW4
def bbM{p t e Lw K}:=zZ aT8 aW4 p t e Lw K (j:=by simp+contextual only[ij,Nb])
def aX1(n:Nat)(h:∀s,A5 n s->Ct 273 [.a s.c] isB)(l:List eo)(j:L l<=8)(e:∀s∈l,A5 n s):Ct 244 [sl eo.c l] isB:=by refine bgx λs0 f g=>?_;simp only[a0g];refine C7 (L l) (λ_=>True) trivial λk i _=>?_;simp only[a0h,aI,au,u0,u1,Ca,bh,rr,gw,jM,kU,jt,Fa,aNP,hH,tn,↓uL];intro d;have b:=aL d;refine⟨dJ b,aPW (h _<|e _<|dB b) (aV2 aS7) ?_⟩;rintro r ⟨x,rfl⟩;simp only[u0,u1,AL,bR,hH];grind [gS]
set_option maxHeartbeats 8000000 in
def a7f:∀(n:Nat) (s:eo),A5 n s->Ct 273 [.a s.c] isB:=by intro n;induction n with|zero=>intro s h;exact h.elim|succ n o=>intro s l;have A:=l.at;obtain⟨m,C,g1,q⟩:=l.body;obtain rfl:n=m:=(by omega);refine bgw WV λd B f z=>?_;have hI:Q ((L s.index:Int)=1)=U->∃n,C6 n (gd s.index 0):=(by grind [dB]);have u:s.op=1\/s.op=2\/s.op=3\/s.op=14->∃n,C6 n s.expr:=(by grind);have k:fW (cX 244) [sl eo.c s.body] (lo d [sl eo.c s.body]) (λb=>gR (gP U b) (λg=>g<|AV.p (1,1) 0 10) λt=>gR (gP U b) (λg=>rV (lS J d t) λv=>g v) λe=>gR (gP U b) (λg=>fW (cX 244) [dG d e] (lo d [e]) λv=>g v) λi=>rV (mL b i<|bv I) λj=>aE isB d [j]):=(by refine aPW (aX1 n o _ (by omega) g1.2) rfl ?_;rintro r ⟨x,rfl⟩;(cases x);simp only[u0,AL,Aa,aNP,u1,jN,bR];simp only[u0,u1,AL,bR,jA,f,gw,alg,ya];refine aPW (aX1 n o _ (by omega) q.2) rfl ?_;rintro r ⟨y,rfl⟩;simp only[AL,u1,aNP,bR]);have cs:(Q (s.op<1)||Q (15<s.op))=U\/s.op=1\/s.op=2\/s.op=3\/s.op=4\/s.op=5\/s.op=6\/s.op=7\/s.op=8\/s.op=9\/s.op=10\/s.op=11\/s.op=12\/s.op=13\/s.op=14\/s.op=15:=(by grind);rcases cs with h|h|h|h|h|h|h|h|h|h|h|h|h|h|h|h;simp+contextual only[aUS,u0,u1,f,gw,aj,h,aNP,↓iC,↓uL];trace_state;all_goals(try have w:=u<|by omega);simp+contextual only[aUS,u0,u1,f,rk,gw,ar,Fa,aRO,aj,rr,rg,Ca,Gx,aRB,aNP,h,k,aNV,aNK,Int.reduceLT,Int.reduceEq,Int.reduceLE,aTo,bkk,bqV,ya,Aa,↓jA,↓jN,Bool.and_self,hH,tn,↓uL];(try simp only[aF,j1,sA,bN,fH,cP,pk,aNS,eH,fK]);simp_all
def a6L(s:eo)(b:∃n,A5 n s):Ct 273 [.a s.c] (λr=>isB r):=by obtain⟨n,b⟩:=b;exact a7f n s b
def a8a:FT:=om a6L
def aWT(l:List eo)(a:∃n,shL n 8 l):Ct 244 [sl eo.c l] (λr=>isB r):=by obtain⟨n,a⟩:=a;exact aX1 n (a7f n) l a.1 a.2
def aT1:FT:=om aWT
def bbB{l Lw K}:=qz aT1 aWT l Lw K (j:=by simp+contextual only[ij,Nb])
def aYh(c:A2):Prop:=0<=c.li/\c.li<=32/\∀k,k<L c.No->∀j∈A1 (gd c.No k),0<=j/\j<c.li
def aTv{P:Bool->Prop}{Q:o8}:(∀r,(∃b:Bool,r=bv b/\P b)->Q r)=∀b,P b->Q (bv b):=(by grind)
def aPA{a:Bool}{p:Bool->Prop}:(∃k,bv a=bv k/\p k)=p a:=(by simp)
def bd5{l:List Int}{Q:o8}:(∀r,aRU l r->Q r)=∀t o,Q (.l (l.map ci) t o):=QS
def bdN{Y:ae}{x:lF}{r:AV}:lo Y [.a x.c] r=True:=by simp[lo,nA,eB,iR,lF.c]
def aXo(w:br)(t:Int)(c:A2)(H:L c.No<1000000):Ct 168 [.a w.c,iv t, .a c.c] (λr=>∃b,r=bv b/\(b=U->aYh c)):=by refine bhb rfl rfl λK E z g P=>?_;simp+contextual only[a2R,u0,u1,g,gw,ar,aj,aPA,eE,vm,hH,↓uL];intro f;refine yV (L c.No) (λk _ Y=>Fx K Y []/\∀u,u<k->∀j∈A1 (gd c.No u),0<=j/\j<c.li) ⟨Fx.refl _ _,by simp⟩ ?_;rintro k _ Y W ⟨F,hI⟩;have p:L Y=4096:=F.len.trans E;have B:=F.kq z;have l:=F.kq g;simp only[a2U,aI,au,u0,u1,l,rk,gw,aj,Ca,bh,aPA,↓uL];refine⟨λh=>⟨vp h,anu p λv O e N A=>?_⟩,λh _=>?_⟩;have q:=aL h;have C:=e.kq B;have m:=e.kq l;simp+contextual only[a2S,au,u0,u1,C,m,A,ix,rk,gw,ar,Fa,aRO,aj,rr,rg,aPA,bd5,bdN,H,eE,vm,hH,↓uL];refineλx y _=>⟨(by grind [dX]),λ_ _ X o=>?_⟩;refine C7 (L<|A1<|gd c.No k) (λi=>∀d,d<i->0<=gd (A1<|gd c.No k) d/\gd (A1<|gd c.No k) d<c.li) (by simp) λi T S=>?_;have G:L (A1<|gd c.No k)<=3:=(by grind [A1]);simp only[a2T,aI,au,u0,u1,gT,tf,rk,gw,m,bh,aj,ar,aRO,rr,aPA,eE,vm,hH,↓uL];refine⟨(by grind [dJ,aL,gS,dh]),λR=>?_⟩;refine dR (mk:=λ(_:Unit) i=>[iv i]) (s:=()) (s':=()) (λ_ _=>rfl) q (by omega) ⟨F.trans e,a6p hI λj D=>?_⟩;obtain⟨d,M,rfl⟩:=ou D;grind [bT,C3,bw];simp at f;have n:k=L c.No:=(by grind);subst n;exact⟨by omega,by omega,hI⟩
def aUg:FT:=vn aXo
def bb6{w t c Lw K}:=zZ aUg aXo w t c Lw K (j:=by simp+contextual only[ij,Nb])
def a7z:dO:=(291,aT8)::(273,a8a)::(244,aT1)::(168,aUg)::a7y
def aTB:eJ a7z:=it (By aW4<|λ_ _ _=>by simp only[Cs,aqG,aOW,Bool.and_self]) (it (rj a6L<|λ_=>by simp only[Cs,aqG,aOW,Bool.and_self])<|it (rj aWT<|λ_=>by simp only[Cs,aqG,aOW,Bool.and_self])<|it (By aXo)<|aR1)
def aQT:=ai @bbM<|ai @bbB<|ai @bb6<|@aRO
section
attribute[local irreducible] aX
def a8W:=bi 27 [(3,([3],[1])),(11,([4],[1])),(18,([6],[1,4,5]))]
def a0j a b R e(j:aG)(f:bu) l(k:cG)(g:fD) c:=Rg->ab 2 a b λm=>aJ a m λn=>aU (gt c 0) n λo=>ah o (ab 2 a b λp=>ao 1 a p (gt c 0) λq=>aM a q λr=>fV aPd a [r] λs=>cf s λt=>ah t (aE R a [bv I])<|aV (gt c 0) (iv 1) λh=>k [h]/\g [h]<g c) (ab 0 a b λu=>fV aPd a [u] λv=>cf v λd=>bn d 3 a b λw=>aC d (fV aT1 a [w]) λx=>aC d (cf x) λy=>aD d (bv U) y λz=>ah z (aE R a [bv I])<|aV (gt e 0) (iv 1) λi=>j [i] a/\f [i] a<f e l)
def a0i c R e f b a:=Rg->ab 1 a c λi=>aJ a i λj=>aU (gt b 0) j λk=>ah k (ab 1 a c λl=>ao 4 a l (gt b 0) λm=>aw 4 a m λn=>eV (bs 245 bcv a 5) λd g=>sV (aK 4 g d n) λh=>lR [iv 0]<|a0j h d R b e f a) (ab 1 a c λo=>aJ a o λp=>aO .gtr p (iv 0) λq=>aE R a [q])
def a0k a c R(j:cG)(e:fD) b:=Rg->ab 0 a c λk=>aJ a k λl=>aU (gt b 0) l λm=>ah m (ab 0 a c λn=>ao 6 a n (gt b 0) λf=>aw 6 a f λg=>fV aT3 a [g] λh=>cf h λi=>ah i (aE R a [bv I])<|aV (gt b 0) (iv 1) λd=>j [d]/\e [d]<e b)<|lV [iv 0] a<|a0i c R
def a0f a b R:=lR [iv 0]<|a0k b a R
def bgu{b:List AV}{R:o8}(l0:L b=2)(h:H1 197 2 1 b λc d=>a0f c d R):Ct 215 [.a b] R:=z1 a8W aTB Tryz.func215 l0 h
def a0r d n b a R:=aw 4 a b λo=>fV aRh a [o] λp=>cf p λq=>ah q (aE R a [iv 3]) (aw 4 a b λr=>fV aT6 a [r] λm=>rV (eO 0 m) λe=>rV (eO 1 m) λf=>aO .gtr e (iv 24) λc=>bX c f λg=>aC c (aO .gtr g<|iv 6) λh=>aD c (bv U) h λi=>ah i (aE R a [iv 2])<|aw 2 a d λj=>aw 4 a b λk=>fV aT8 a [j,n,k] λl=>aE R a [l])
def bgC{b:List AV}{d:AV}{c:List AV}{R:o8}(l0:L b=2)(g:L c=4)(h:H2 197 2 3 b 259 4 5 c λe f i=>a0r e d f i R):Ct 277 [.a b,d, .a c] R:=z2 a8V aTB Tryz.func277 l0 g h
def a9p:=bi 13 [(6,([3],[1]))]
def a1O b c R(f:cG)(d:fD) a:=Rg->ab 6 b c λg=>aJ b g λh=>aU (gt a 0) h λi=>ah i (aB 0 b c λj=>aw 6 b j λk=>ab 6 b c λl=>ao 2 b l (gt a 0) λm=>aw 2 b m λn=>fV aUg b [k,gt a 0,n] λo=>cf o λp=>ah p (aE R b [bv I])<|aV (gt a 0) (iv 1) λe=>f [e]/\d [e]<d a)<|aE R b [bv U]
def a1N c a R:=aB 0 a c λt3=>aw 6 a t3 λt4=>fV FC a [t4] λk=>cf k λb=>bn b 6 a c λd=>aC b (aJ a d) λe=>aC b (aB 0 a c) λf=>bn b 4 a f λg=>aC b (aJ a g) λh=>aC b (aO .neq e h) λi=>aD b (bv U) i λj=>ah j (aE R a [bv I])<|lR [iv 0]<|a1O a c R
def bgX{b:List AV}{R:o8}(l0:L b=7)(h:H1 135 7 1 b λc d=>a1N c d R):Ct 110 [.a b] R:=z1 a9p aTB Tryz.func110 l0 h
end
def aWR(p:xr)(u:shP p):Ct 215 [.a p.c] (λr=>isB r):=by obtain⟨⟨A,B,C⟩,D,o⟩:=u;refine bgu rfl λw t e z=>?_;simp only[a0f];refine C7 (L p.A7) (λ_=>True) trivial λk q _=>?_;simp+contextual only[a0k,aI,au,u0,u1,e,rk,gw,aj,Ca,bh,ar,Fa,aQT,rr,aNP,hH,↓uL];refine⟨λh=>⟨vp h,by grind [gS,aL]⟩,λ_=>?_⟩;refine yV (L p.ay) (λ_ _ Y=>Fx w Y []) (Fx.refl _ _) ?_;rintro k _ Y q F;have n:=F.kq e;have f:L Y=4096:=F.len.trans t;simp only[a0i,aI,au,u0,u1,n,rk,gw,aj,Ca,bh,aNP,hH,tn,↓uL];intro h;have d:=aL h;refine⟨dJ d,anu f λv y l x m=>?_⟩;have g:=o _<|dB d;refine C7 (L (gd p.ay k).locs) (λ_=>True) trivial λj E _=>?_;simp+contextual only[a0j,aI,au,u0,u1,m,rk,gw,aj,ix,bh,ar,aQT,rr,rg,aNP,hH,↓uL];refine⟨λh=>⟨vp h,λ_=>gS (aL h) (by have:=g.1;omega) trivial⟩,λ_=>⟨λ_=>⟨4,g.2⟩,λb _=>dR (mk:=λ(_:Unit) i=>[iv i]) (s:=()) (s':=()) (λ_ _=>rfl) d (by omega)<|F.trans l⟩⟩
def aT0:FT:=om aWR
def bbz{p Lw K}:=qz aT0 aWR p Lw K (j:=by simp+contextual only[ij,Nb])
def aWY(p:xr)(t:Int)(e:fc)(f:PrB p/\∃n,C6 n e):Ct 277 [.a p.c,iv t, .a e.c] (λr=>isI r):=by refine bgC rfl aN9 λi h b d g=>?_;simp+contextual only[a0r,u0,u1,b,d,gw,ar,Fa,aQT,f,rr,aPG,hH,ld,↓uL]
def aP8:FT:=vn aWY
def bbG{p t e Lw K}:=zZ aP8 aWY p t e Lw K (j:=by simp+contextual only[ij,Nb])
def aPU(c:qt):Prop:=mQ c.aQ=U/\L c.ay=L c.aQ.ay/\∀t∈c.ay,aYh t
def aOc(c:qt):Prop:=L c.ay<1000/\∀t∈c.ay,L t.No<1000000
def aXh(c:qt)(f:aOc c):Ct 110 [.a c.c] (λr=>∃b,r=bv b/\(b=U->aPU c)):=by obtain⟨i,e⟩:=f;refine bgX rfl λp n d g=>?_;simp+contextual only[a1N,u0,u1,d,gw,aj,ar,aQT,rr,aPA,eE,vm,hH,↓uL];intro o;refine C7 (L c.ay) (λk=>∀j,j<k->aYh (gd c.ay j)) (by simp) λk m l=>?_;simp+contextual only[a1O,aI,au,u0,u1,d,rk,gw,aj,Ca,bh,ar,Fa,aQT,rr,aTv,aPA,eE,vm,hH,↓uL];refine⟨λh=>⟨vp h,e _<|dB<|aL h,by grind [gS,aL]⟩,λh _=>⟨?_,?_,?_⟩⟩;simp_all;grind;grind [ou,bT,C3,bw]
def aRk:FT:=om aXh
def bbZ{c Lw K}:=qz aRk aXh c Lw K (j:=by simp+contextual only[ij,Nb])
def aYb:dO:=(215,aT0)::(277,aP8)::(110,aRk)::a7z
def aTC:eJ aYb:=it (rj aWR) (it (By aWY<|λ_ _ _=>by simp only[Cs,aqG,aOW,Bool.and_self])<|it (rj aXh)<|aTB)
def aQU:=ai @bbz<|ai @bbG<|ai @bbZ<|@aQT
section
attribute[local irreducible] aX
def a9e:=bi 11 [(3,([9],[0,1,2,3]))]
def a09 c u v h R g(t:aG)(m1:bu) w a:=ab 0 a c λi=>bf i u λd=>bn d 0 a c λj=>bX d v λk=>aC d (bf j k) λl=>aD d (bv U) l λb=>fm b h λm=>az b (bf m<|sv []) λn=>fm b n λe=>bn e 2 a c λo=>bX e h λp=>aC e (bf o p) λq=>az b (aD e (bv U) q) λr=>aD b r (bv I) λs=>ah s (fe R a [bv U]) (aV (gt g 0) (iv 1) λf=>t [f] a/\m1 [f] a<m1 g w)
def a1a d j k l R i m1 c a:=Rg->rV (cO a d) λt3=>ab 3 a t3 λm=>aJ a m λn=>aU (gt c 0) n λo=>ah o (rV (cO a d) λp=>ab 3 a p λf=>ao 11 a f (gt c 0) λg=>aw 11 a g λh=>eV (bs 261 C8 a 10) λb e=>sV (aK 11 e b h)<|a09 b j k l R c i m1 a)<|fe R a [bv I]
def aUX a b c d s0 R:=lV [iv 0] s0<|a1a a b c d R
def bfO{a b c d:AV}{s0:ae}{R:be}(h:aUX a b c d s0 R):EB 274 [a,b,c,d] s0 R:=zB a9e aTC Tryz.func274 h
def bgM{a b c d:AV}{s0:ae}{R:be}(e:L s0=4096)(h:aUX a b c d s0 R):EB 274 [a,b,c,d] s0 R:=by refine bfO ?_;exact h
def a9f:=bi 56 [(12,([67],[0,3,5,6,7,8,9,30])),(17,([91],[0,3,5,6,7,8,9,30])),(24,([119],[0,3,5,6,7,8,9,30])),(51,([14],[0,3,5,6]))]
def aUZ c n o R e b:=bX c e λf=>aC c (cf f) λg=>aD c (bv U) g λa=>bn a 0 b n λh=>aC a (bf h<|iv 9) λi=>bX a i λd=>fm d o λj=>aC a (aD d j<|bv I) λk=>aD a (bv U) k λl=>fV aOS b [l] λm=>fe R b [m]
def a8o k b c l e f d g i j h R a:=dH [km,km,bo k,bo b,bo c,bo l,bo e,lb I [f] [],lb I [d,g] [204],bo k,bo i,lb I [j,h] []] [(0,7),(1,7),(2,7),(3,7),(4,7),(0,8)]<|fe R a [iv 0]
def a1b k e f l h i g j R b a:=rV (cO a k) λc=>aB 4 a c λd=>sV (aK 1 a d b)<|a8o k e f l h i g j c d b R
def a8p r d e c g h f i k l j s t b R a:=dH [km,km,bo r,bo d,bo e,bo c,bo g,lb I [h] [],lb I [f,i] [262],bo r,bo k,lb I [l,j] []] [(0,7),(1,7),(2,7),(3,7),(4,7),(0,8)] (aw 2 a s λm=>aB 5 a c λn=>aw 4 a n λo=>fV aP8 a [m,t,o] λp=>fV aOi a [gt b 0,p] λq=>fe R a [q])
def aU0 l f g n i j h k m o e R b a:=rV (cO a l) λc=>aB 5 a c λd=>sV (aK 1 a d b)<|a8p l f g n i j h k c d b m o e R
def a1g a k i l m R h:=Rg->rV (cO a k) λb=>aB 5 a b λc=>aM a c λd=>aB 2 a i λe=>aM a e λf=>eV (aX C9 1 a [(0,f)]) λg j=>eV (cj 9 zz9 16 j 262 d g)<|aU0 k b c i e f d g l m h R
def a1k d m b l(c:cG):=bf d (iv 0) λa=>fm a m λe=>az a (rV<|cO b e) λf=>aT a 5 b f λg=>aT a 2 b l λh=>az a (fV FB b [g,h]) λi=>az a (aO .geq i<|iv 0) λj=>aD a j (bv I) λk=>ah k (c [iv 8])<|c [d]
def a1f a c b g R i e k u w v:=Rg->ah (gt v 0) (aw 2 a c λy=>ab 2 a b λz=>fV aOd a [y,g,z,iv 5,iv 5] λj=>aO .neq j (iv 0) λA=>ah A (fe R a [j])<|ab 0 a c λB=>ab 0 a c λC=>ab 2 a b λD=>fV aPO a [C,D] λE=>ao 6 a B E λF=>ab 5 a F λG=>cB 274 [i,iv 4,iv 4,G] a 142<|aUZ e b k R) (bf u (iv 12) λH=>ah H (aw 2 a c λK=>ab 2 a b λM=>fV aOd a [K,g,M,iv 7,iv 7] λl=>aO .neq l (iv 0) λN=>ah N (fe R a [l])<|ab 1 a c λO=>ab 2 a b λP=>fV aP9 a [O,P] λm=>bX e k λS=>aD e (bv U) S λn=>bX n w λT=>aD n (bv U) T λf=>bX f m λW=>bX f g λX=>aC f (bf W X) λZ=>aD f (bv U) Z λh=>bX h m λaa=>aC h (bf aa<|iv 0) λac=>aD h (bv U) ac λad=>ah ad (fe R a [iv 7])<|rV (cO a i) λae=>ab 4 a ae λaf=>ab 2 a b λag=>fV FB a [af,ag] λak=>aO .geq ak (iv 0) λal=>ah al (fe R a [iv 8])<|rV (cO a i) λo=>aB 4 a o λp=>aM a p λq=>aB 2 a b λr=>aM a r λs=>eV (aX C9 1 a [(0,s)]) λt x=>eV (cj 9 zz9 16 x 204 q t)<|a1b i o p b r s q t R)<|bf u (iv 13) λam=>ah am (aw 2 a c λan=>ab 2 a b λap=>fV aOd a [an,g,ap,iv 7,iv 7] λaq=>bX e k λar=>aD e (bv U) ar λd=>bn d 1 a c λau=>bn d 2 a b λav=>aC d (fV aP9 a [au,av]) λax=>bX d g λay=>aC d (bf ax ay) λaz=>aD d (bv U) az λaA=>fV aOS a [aA] λaE=>fV aOi a [aq,aE] λaF=>fe R a [aF])<|bf u (iv 14) λaG=>ah aG (aw 2 a c λaI=>ab 2 a b λaJ=>fV aOd a [aI,g,aJ,iv 6,iv 6] λaK=>bX e w λaL=>aD e (bv U) aL λaN=>fV aOS a [aN] λaP=>fV aOi a [aK,aP] λaQ=>jR 51 (a1g a i b c g R)<|a1k aQ i a b)<|aw 2 a c λaR=>ab 2 a b λaT=>fV aOd a [aR,g,aT,iv 8,iv 8] λaU=>aw 2 a c λaV=>ab 3 a b λaW=>fV aOd a [aV,g,aW,iv 6,iv 6] λaY=>fV aOS a [e] λaZ=>fV aOi a [aY,aZ] λa1=>fV aOi a [aU,a1] λa2=>fe R a [a2])
def a1j b(a:cG):=bf b (iv 9) λc=>ah c (a [c]) (bf b (iv 10) λd=>ah d (a [d])<|bf b (iv 11) λe=>a [e])
def a1e a f e r b l R c g o k:=Rg->ah (gt k 0) (aw 2 a f λp=>ab 2 a e λq=>fV aOd a [p,r,q,iv 4,iv 4] λs=>bX b l λt=>bn b 2 a e λu=>gE (gP I b) (λm=>cB 274 [t,iv 5,iv 6,u] a 104 λv n=>m v n) a λw d=>aD b (bv U) w λx=>fV aOS d [x] λy=>fV aOi d [s,y] λz=>fe R d [z]) (bf c (iv 7) λA=>ah A (fV aOS a [b] λB=>fe R a [B])<|bf c (iv 8) λC=>ah C (bX b g λh=>aD b (bv U) h λi=>fV aOS a [i] λj=>fe R a [j])<|jR 24 (a1f a f e r R l b g c o)<|a1j c)
def a1i c(b:cG):=bf c (iv 5) λa=>ah a (b [a]) (bf c (iv 6) λd=>b [d])
def a1d a d c g R f b i l m h:=Rg->ah (gt h 0) (aw 2 a d λn=>aB 5 a c λo=>aw 4 a o λp=>fV aP8 a [n,g,p] λq=>fe R a [q]) (bf f (iv 4) λr=>ah r (aw 2 a d λs=>ab 2 a c λt=>fV aOd a [s,g,t,iv 3,iv 3] λu=>bX b i λv=>bn b 2 a c λw=>gE (gP I b) (λj=>cB 274 [v,iv 4,iv 4,w] a 87 λx k=>j x k) a λy e=>aD b (bv U) y λz=>fV aOS e [z] λA=>fV aOi e [u,A] λB=>fe R e [B])<|jR 17 (a1e a d c g b i R f l m)<|a1i f)
def a1h c(b:cG):=bf c (iv 2) λa=>ah a (b [a]) (bf c (iv 3) λd=>b [d])
def a1c b c d R f K g h a:=ab 0 a b λe=>bf e (iv 1) λi=>ah i (ab 4 a b λj=>aJ a j λk=>bf k (iv 0) λl=>ah l (aw 2 a c λm=>ab 2 a b λn=>fV aOd a [m,d,n,iv 8,iv 1] λo=>aw 2 a c λp=>aB 5 a b λq=>aw 4 a q λr=>fV aP8 a [p,d,r] λs=>fV aOi a [o,s] λt=>fe R a [t])<|aw 2 a c λu=>ab 2 a b λv=>fV aOd a [u,d,v,iv 2,iv 2] λw=>aw 2 a c λx=>ab 4 a b λy=>ao 4 a y (iv 0) λz=>aw 4 a z λA=>fV aP8 a [x,d,A] λB=>aw 2 a c λC=>aB 5 a b λD=>aw 4 a D λE=>fV aP8 a [C,d,E] λF=>fV aOi a [B,F] λG=>fV aOi a [w,G] λH=>fe R a [H])<|jR 12 (a1d a c b d R e f K g h)<|a1h e
def a8q a d b g R e f c:=cB 274 [a,iv 3,iv 3,sv []] c 28<|a1c d b g R e a f
def a8r a d b f R e c:=cB 274 [a,iv 8,iv 8,sv []] c 26<|a8q a d b f R e
def a8s a t3 t4 f g b e d h R c:=dH [km,bo a,bo t3,bo t4,km,bo a,bo f,bo g,lb I [] [5],lb I [b,e] [],km] [(0,8),(1,8),(2,8),(3,8),(4,8),(5,8),(6,8),(7,8),(4,9),(5,9),(6,9),(7,9)]<|cB 274 [a,iv 7,iv 7,sv []] c 24<|a8r a d b h R
def aUY c e a R:=rV (cO a c) λt3=>aB 0 a t3 λt4=>aw 2 a t4 λf=>rV (cO a c) λg=>aB 2 a g λh=>aM a h λi=>eV (bs 197 bdH a 5) λb d=>sV (aK 2 d b f)<|a8s c t3 t4 g h b f e i R
def bfP{a b:AV}{s0:ae}{R:be}(h:eV (qm 261 11 s0 3 b) λc d=>aUY a c d R):EB 247 [a,b] s0 R:=zB a9f aTC Tryz.func247 h
def bgN{e:AV}{d:List AV}{s0:ae}{R:be}(i:L s0=4096)(l1:L d=11)(h:∀(b:ae) (c:Nat),Kp s0 b->(∀k,k≠3->aZ b k=aZ s0 k)->(∀x,box s0 (3,c)≠V x)->box b (3,c)=V ⟨261,11,U,U,[d]⟩->aUY e (.p (3,c) 0 0) b R):EB 247 [e, .a d] s0 R:=by refine bfP ?_;refine iN rfl l1 (by decide) (by decide) i λb c l g0 m f=>?_;exact h b c l (λk g=>g0 k g) (λx j=>m x<|(Kp.refl _).keep _ _ j) f
def a5F:=bi 22 [(3,([6],[0,1])),(9,([8],[0,1,6,7])),(16,([8,9],[0,1,6]))]
def a0Z a R d(f:aG)(m1:bu) g b:=aO .neq (gt a 0) (iv 0) λe=>ah e (fe R b [gt a 0,gt a 1]) (aV (gt d 0) (iv 1) λc=>f [c] b/\m1 [c] b<m1 d g)
def aUV b R m n m1 o c a:=Rg->rV (cO a b) λd=>ab 3 a d λe=>rV (cO a b) λf=>ab 3 a f λg=>aJ a g λh=>aO .sub h (iv 1) λi=>rV (fo 11 a e J (V i) J) λj=>rV (cO a b) λk=>aB 3 a k λl=>sV (aK 1 a l j)<|a0Z c R m n m1 o
def a00(b:aG) a c:=rV (eO 0 a) λd=>rV (eO 1 a) λe=>b [d,e] c
def a07 c a d h e(b:aG):=bf c (iv 0) λf=>ah f (ab 10 a d λg=>cB 219 [h,g] a 59<|a00 b)<|b [c,e] a
def a01 b R g h m1 i d a c:=rV (eO 0 a) λe=>rV (eO 1 a) λf=>jV 16 (aUV b R g h m1 i)<|a07 e c d b f
def a8n c i j b e n f m g o k p h q R s t m1 u d:=dH [km,bo c,bo i,bo j,bo b,bo e,lb I [.a [iv 0,iv 0,sv [],sv [],.l [] U U,iv 0,iv 0,sv [],.l [] U U,.l [] U U,.l [] U U]] [],lb I [e,n] [42],lb U [f,m] [],lbV g o k,bo c,bo p,lbV h q f] [(0,6),(1,6),(2,6),(3,6),(4,6),(5,6),(9,10),(9,11),(8,12),(9,12)] (ab 9 d b λr=>cB 219 [c,r] d 50<|a01 c R s t m1 u b)
def a02 e b h i g j m l f n k R o p m1 q a:=rV (cO a e) λc=>aB 3 a c λd=>sV (aK 1 a d b)<|a8n e h i g j m b l f n k c a d R o p m1 q
def a03 c b m g h f i j R k l m1 n d a:=ao 11 a d c λe=>sV (aK 11 a e b)<|a02 m d g h f i j c a e b R k l m1 n
def a06 b c R i p q m1 r e:=Rg->aO .neq (gt e 0) (iv 0) λk=>ah k (ab 1 b c λm=>fe R b [gt e 0,m]) (rV (cO b i) λf=>aB 3 b f λg=>aM b g λd=>aw 11 b c λn=>aJ b d λo=>eV (aX aOl 1 b [(0,.a [iv 0,iv 0,sv [],sv [],.l [] U U,iv 0,iv 0,sv [],.l [] U U,.l [] U U,.l [] U U])]) λh j=>eV (cj 261 C8 176 j 42 d h)<|a03 o n i f g c d h R p q m1 r)
def a08 a i c(b:cG):=rV (cO a i) λd=>ab 3 a d λe=>aJ a e λf=>aV f (iv 1) λg=>aO .gtr g (iv 6) λh=>ah h (b [iv 2])<|b [c]
def a04 c R b e f m1 g d a:=jR 9 (a06 a c R b e f m1 g)<|a08 a b d
def a05 a b R e f m1 g c:=aw 11 c a λd=>cB 247 [b,d] c 22<|a04 a R b e f m1 g
def aUW d f R e m1 b a:=Rg->aJ a d λt3=>aU (gt b 0) t3 λt4=>ah t4 (ao 11 a d (gt b 0) λh=>aw 11 a h λi=>eV (bs 261 C8 a 7) λc g=>sV (aK 11 g c i)<|a05 c f R b e m1 a)<|fe R a [iv 0,iv 0]
def aRq a b s0 R:=lV [iv 0] s0<|aUW b a R
def bfN{a b:AV}{s0:ae}{R:be}(h:aRq a b s0 R):EB 219 [a,b] s0 R:=aTc (aBe ready (aQ9 aTC) Tryz.func219 (an:=a5F) (by kernel_rfl)<|aND (show ZB aS GGV aYb a5F Tryz.f219 [a,b] s0 R=(aRq a b s0 R) by kernel_rfl) h)
def a7S{a b:AV}{s0:ae}{R:be}(c:L s0=4096)(h:aRq a b s0 R):EB 219 [a,b] s0 R:=by refine bfN ?_;exact h
end
def aV6{fn:Nat}{xs:List AV}{Y:ae}{d:Nat}{K:be}{P:Value->Prop}(i:uQ.elem fn=U)(h:∃r b,((∃v,r= .s v/\P v)/\Fx Y b [])/\cZ aS GG fn xs Y r b)(g:∀v,P v->K (.s v) Y):cB fn xs Y d K:=by obtain⟨r,b,⟨⟨v,rfl,j⟩,c⟩,f⟩:=h;exact aS2 i ⟨_,b,⟨rfl,c⟩,f⟩<|g v j
section
variable{Y:ae}{e:TypeId}{z:Nat}{a:AV}{aa:List (List AV)}
theorem ixG{i:Int}{K:o8}(d:gm Y e z a aa)(c:aF (L aa) i)(h:∀b m,a= .m b (L aa)->box Y b=V ⟨e,z,U,I,aa++m⟩->K (.p b i.toNat 0)):rV (cz z Y a<|iv i) K:=by have f:=c.1;have g:=c.2;rcases d with⟨rfl,rfl⟩|⟨b,m,rfl,j⟩;grind;grind [cz,rV]
theorem stG{b:Id}{i:Nat}{cs:List AV}{K:ae->Prop}(c:box Y b=V ⟨e,z,U,I,aa⟩)(m:i<L aa)(n:∀r∈aa,L r=z)(k:L cs=z)(l:cs.all eN=U)(h:nrm (eR Y<|.a cs)= .a cs)(hI:eB (.a cs)=[])(g:∀Y',Fx Y Y' [b]->box Y' b=V ⟨e,z,U,I,aa.set i cs⟩->K Y'):sV (aK z Y (.p b i 0)<|.a cs) K:=by have d:aa[i]?=V aa[i]:=(by simp);have j:aa[i].length=z:=(by simp_all);have f:aK z Y (.p b i 0) (.a cs)=V (wr Y b ⟨e,z,U,I,aa.set i cs⟩):=(by simp only[aK,aBG,c,eE,aPZ,hI,kills,aRl,h,pW,eY,d];grind);rw[f];exact g _ (wc c)<|lO c
theorem aQz{b:Id}{i j:Nat}{x:AV}{r:List AV}{K:ae->Prop}(c:box Y b=V ⟨e,z,U,I,aa⟩)(h:aa[i]?=V r)(l:j<L r)(g:eY (nrm<|eR Y x)=V [nrm<|eR Y x])(k:eN (nrm<|eR Y x)=U)(hI:eB x=[])(f:∀Y',Fx Y Y' [b]->box Y' b=V ⟨e,z,U,I,aa.set i<|r.set j<|nrm<|eR Y x⟩->K Y'):sV (aK 1 Y (.p b i j) x) K:=by have d:aK 1 Y (.p b i j) x=V (wr Y b ⟨e,z,U,I,aa.set i<|r.set j<|nrm<|eR Y x⟩):=(by simp only[aK,aBG,c,eE,aPZ,hI,kills,aRl,pW,g,h,bZ,vw];grind [GP]);rw[d];exact f _ (wc c)<|lO c
end
def bxL{e:TypeId}{z d:Nat}{cs:List AV}{Y:ae}{K:be}(h:L cs=z)(g:0<z)(b:d<L Y)(f:∀v Y',Fx Y Y' []->bK Y (d,v)->box Y' (d,v)=V ⟨e,z,U,U,[cs]⟩->K (.p (d,v) 0 0) Y'):eV (qm e z Y d<|.a cs) K:=by have c:qm e z Y d (.a cs)=V (.p (lA Y d) 0 0,put Y d ⟨e,z,U,U,[cs]⟩):=(by grind [qm,eY,vg]);rw[c];exact f _ _ (kH b) (qQ Y d)<|iy b
def gfP{Y:ae}{b:Id}{T e:TypeId}{z f j d h:Nat}{cs u:List AV}{a:AV}{aa new:List (List AV)}{t o:Bool}{K:AV->be}(E:box Y b=V ⟨T,z,U,U,[cs]⟩)(O:j<L cs)(C:gm Y e f a aa)(m:b∉aA a)(S:L u=f)(n:0<f)(H:d<L Y)(R:∀r∈aa,L r=f)(P:∀r∈new,L r=f)(B:new≠[])(k:(L aa+L new)*(h+1)<=1099511627776)(G:b.1≠d)(D:∀c Y',box Y' b=V ⟨T,z,U,U,[cs.set j c]⟩->bc Y' e f c (aa++new)->Fx Y Y' (b::aA a)->(∀q∈aA c,bK Y q/\q.1=d)->K (.p b 0 j) c Y'):eV (cj e u h Y d a<|.l new t o) λx s=>rV (iQ j s<|.p b 0 0) λy=>sV (aK 1 s y x) (K y x):=by refine qs C S n H R P B k λc Y' g F N=>?_;have i:=F.keep _ _ m E;have M:iQ j Y' (.p b 0 0)=V (.p b 0 j):=(by simp[iQ,i]);simp only[M,aY];refine A0 i g.p.ce O λw v A=>?_;have W:b∉aA c:=(by grind);refine D c w A (by grind [bc.fx]) ((F.trans v).mono λq X=>?_) N;grind
def bfa{α:Type}{l:List α}{x y:α}:(l++[x]).set (L l) y=l++[y]:=by simp
structure Wk(Y:ae)(b:Id)(p:xr)(al:List eo)(n:Nat)(a s t:AV):Prop where
 bx:∃th:Int,box Y b=V ⟨293,6,U,U,[[sl w6.c p.A7,sl xt.c p.ay,iv th,a,s,t]]⟩
 ga:gm Y 261 11 a (al.map eo.c)
 gs:∃l:List ByteArray,gm Y 9 1 s (l.map cs)/\L l<=n
 gt:∃l:List ByteArray,gm Y 9 1 t (l.map cs)/\L l<=n
 la:L al<=6
 le:L Y=4096
 sb:b.1=60
 sa:∀q∈aA a,q.1=42
 ss:∀q∈aA s,q.1=204
 st:∀q∈aA t,q.1=262
section
variable{Y Y':ae}{b:Id}{p:xr}{al:List eo}{n:Nat}{a s t:AV}
theorem Wk.fx{ks:List Id}(W:Wk Y b p al n a s t)(F:Fx Y Y' ks)(d:b∉ks)(e:∀q∈aA a,q∉ks)(f:∀q∈aA s,q∉ks)(h:∀q∈aA t,q∉ks):Wk Y' b p al n a s t:=by obtain⟨o,i⟩:=W.bx;obtain⟨l,g,j⟩:=W.gs;obtain⟨m,c,k⟩:=W.gt;exact⟨⟨o,F.keep _ _ d i⟩,W.ga.fx F e,⟨l,g.fx F f,j⟩,⟨m,c.fx F h,k⟩,W.la,F.len.trans W.le,W.sb,W.sa,W.ss,W.st⟩
theorem Wk.fx0(W:Wk Y b p al n a s t)(F:Fx Y Y' []):Wk Y' b p al n a s t:=(by grind [Wk.fx])
theorem Wk.mono{m:Nat}(W:Wk Y b p al n a s t)(h:n<=m):Wk Y b p al m a s t:=by obtain⟨l,g,e⟩:=W.gs;obtain⟨k,c,d⟩:=W.gt;exact⟨W.bx,W.ga,⟨l,g,by omega⟩,⟨k,c,by omega⟩,W.la,W.le,W.sb,W.sa,W.ss,W.st⟩
theorem ixL{i:Int}{K:o8}{α:Type}[Inhabited α]{f:α->List AV}{l:List α}{z:Nat}{e:TypeId}(d:gm Y e z a<|l.map f)(c:aF (L l) i)(w:∀x,L (f x)=z)(g:∀y,(∀q,lS q Y y=aN q (f<|gd l i.toNat))->(∀j q,rV (iQ j Y y) q=q (match y with| .p b k o=> .p b k (o+j)|y=>y))->K y):rV (cz z Y a<|iv i) K:=by refine ixG d (by grind) λb m v h=>g _ (λq=>?_) (λj q=>?_);have r:=c.1;have u:=c.2;grind [gd,xe,eC,bT,lS,iE];simp[iQ,h,rV]
def bdi(W:Wk Y b p al n a s t)(x y:Int)(q:ByteArray):∃r c,((∃v,r= .s v/\∃u:Bool,v= .bool u)/\Fx Y c [])/\cZ aS GG 274 [.p b 0 0,iv x,iv y,st q] Y r c:=by refine bgM W.le ?_;simp only[aUX];refine yV (L al) (λ_ _ Y'=>Fx Y Y' []) (Fx.refl _ _) ?_;rintro k _ c B F;have e:=W.fx0 F;obtain⟨C,g⟩:=e.bx;have j:∀u Y',Fx Y Y' []->fe (λr c=>(∃v,r= .s v/\∃u:Bool,v= .bool u)/\Fx Y c []) Y' [bv u]:=λu Y' d=>⟨⟨_,rfl,u,rfl⟩,d⟩;simp only[a1a,aI,au,oo g,u0,u1,g,gw,aj,e.ga.ln,bJ,↓uL];refine⟨λh=>?_,λ_=>j _ _ F⟩;have f:=aL h;refine ixL e.ga (dJ f) (λ_=>WV) λD o _=>?_;simp only[o,bh,gw,aY];refine aRA rfl WV (by decide) (by rw[e.le];decide) λv A l z m=>?_;have d:=F.trans l;simp+contextual only[a09,au,u0,u1,m,gw,aj,j _ _ d,hH,bR,↓uL];have w:=W.la;exactλ_=>dR (mk:=λ(_:Unit) i=>[iv i]) (s:=()) (s':=()) (λ_ _=>rfl) f (by omega) d
theorem aRE(W:Wk Y b p al n a s t){x y:Int}{c:ByteArray}{d:Nat}{K:be}(e:∀u:Bool,K (bv u) Y):cB 274 [.p b 0 0,iv x,iv y,st c] Y d K:=aV6 rfl (bdi W x y c) (by simp_all)
def aPr(Y:ae)(b:Id)(p:xr)(al:List eo)(n:Nat)(a s t:AV)(r:AV)(c:ae):Prop:=∃(e:Int) (s' d:AV),r=iv e/\Wk c b p al (n+1) a s' d/\Fx Y c (b::(aA s++aA t))/\(∀q∈aA s',q∈aA s\/bK Y q)/\∀q∈aA d,q∈aA t\/bK Y q
theorem aPr.no(W:Wk Y b p al n a s t)(F:Fx Y Y' [])(e:Int):aPr Y b p al n a s t (iv e) Y':=⟨e,s,t,rfl,(W.fx0 F).mono (by omega),F.mono (by simp),λ_ h=> .inl h,λ_ h=> .inl h⟩
def bd6{Q:o8}:(∀r,(∃k:Int,r=iv k)->Q r)=∀k,Q (iv k):=a65
def a52{x:ByteArray}:aX C9 1 Y [(0,st x)]=V (.l ([x].map cs) U U,Y):=iz
set_option maxHeartbeats 8000000 in
theorem bdl(W:Wk Y b p al n a s t)(S:PrB p){m:Nat}{x:eo}(hx:A5 m x)(hn:n<100000):∃r Y1,aPr Y b p al n a s t r Y1/\cZ aS GG 247 [.p b 0 0, .a x.c] Y r Y1:=by have hw:=W;have ha:=hx.at;obtain⟨b1,z⟩:=b;obtain rfl:b1=60:=W.sb;refine bgN W.le WV λs2 v3 K2 ba nf2 b3=>?_;have F2:Fx Y s2 []:=K2.fx [];have W2:=W.fx0 F2;obtain⟨th,E⟩:=W2.bx;have rp:∀{l:List AV},aN (V 2) (sl w6.c p.A7::sl xt.c p.ay::l)=V (.a p.c):=rfl;simp only[aUY,oo E,u0,u1,E,rp,gw,aj,↓uL];refine anu W2.le λv5 A G a2 b5=>?_;have f:=W2.fx0 G;have c3:=G.kq b3;have F:=F2.trans G;obtain⟨th,E⟩:=f.bx;have a9:cO A (.p (60,z) 0 0)=V (.p (60,z) 0 0):=oo E;obtain⟨ls,R,a7⟩:=f.gs;obtain⟨lt,M,a8⟩:=f.gt;have aU:dG A s=sl Ab.cs ls:=R.ar;have aV:dG A t=sl Ab.cs lt:=M.ar;refine dT (by first|rfl|(simp[eL,okT,tok,lb,cq,Qh,cD,dC,pP,dK];done)) ?_;refine aRE f λtx=>?_;refine aRE f λaq=>?_;refine aRE f λlp=>?_;have dn:∀e:Int,fe (aPr Y (60,z) p al n a s t) A [iv e]:=λe=>aPr.no W F e;have hI:∀y∈x.index,∃n,C6 n y:=(by grind);have hX:x.op=1\/x.op=2\/x.op=3\/x.op=14->∃n,C6 n x.expr:=(by grind);have aB:=aTb (p:=λi=>Q<|(gd p.A7 i).name=x.name) (n:=L p.A7);have av:(x.op=1\/x.op=2\/x.op=3\/x.op=4\/x.op=5\/x.op=6\/x.op=7\/x.op=8\/x.op=9\/x.op=10\/x.op=11\/x.op=12\/x.op=13\/x.op=14)\/(x.op≠1/\x.op≠2/\x.op≠3/\x.op≠4/\x.op≠5/\x.op≠6/\x.op≠7/\x.op≠8/\x.op≠9/\x.op≠10/\x.op≠11/\x.op≠12/\x.op≠13/\x.op≠14):=(by omega);have aY:∀(i j:Int) (d:Nat) (k:Int),gF (!tx) (λk=>cB 274 [AV.p (60,z) 0 0,iv i,iv j,st x.name] A d λaK aG=>k aK aG) A λaL C=>rV (mL (bv tx) (bv U) aL) λX=>fW aOS [dG C X] (lo C [X]) λZ=>fW aOi [AV.s<|Value.int dq k,dG C Z] (lo C [iv k,Z]) λaM=>fe (aPr Y (60,z) p al n a s t) C [aM]:=(by intro i j d k;(cases tx);simp only[kN,gF,vb];refine aRE f λu=>?_;simp only[u0,ar,aQU,dn,ld];simp only[gF,fh,aoC,ya,u0,ar,aQU,dn,ld]);have D:∀k:Int,(k=0->0<=aOB p.A7 x.name)->(decide ¬k=0)=I->L p.A7<4611686018427387904/\aF (L p.A7) (aOB p.A7 x.name)/\cB 274 [AV.p (60,z) 0 0,iv 4,iv 4,st (gd p.A7 (aOB p.A7 x.name).toNat).on] A 142 (aUZ (bv tx) (AV.p (3,v3) 0 0) (bv aq)<|aPr Y (60,z) p al n a s t):=(by intro k hk h0;have aD:k=0:=(by simp_all);refine⟨by have:=S.1;omega,⟨hk aD,aB.2⟩,aRE f λu=>?_⟩;cases tx<;>cases u<;>simp+contextual only[aUZ,u0,u1,c3,gw,aj,ar,aQU,dn,ya,Aa,jA,jN,ld,↓uL]);simp only[a1c,u0,u1,c3,gw,aj,↓uL];rcases av with(h|h|h|h|h|h|h|h|h|h|h|h|h|h)|⟨g1,g2,g3,g4,g5,g6,g7,g8,g9,a3,a4,B,a5,a6⟩;(all_goals(try have az:=hX<|by omega);simp+contextual only[a1g,a1k,a1f,a1j,a1e,a1i,a1d,a1h,f8,aI,au,u0,u1,rk,gw,ar,Fa,aQU,aj,rr,Ca,Gx, *,aNV,aNK,Int.reduceEq,aTo,↓iC,↓iB,aXX,bd6,hH,tn,eE,sr,vm,NR,↓uL]);intro h0 k;have:0<L x.index:=(by grind);exact⟨⟨by omega,by omega⟩,hI _<|dB this⟩;exact D;exact D;exact D;intro k hk;refine⟨by have:=S.2.1;omega,λ_=>⟨by omega,λ_=>?_⟩⟩;simp only[a52,bQ];refine O5 R f.le oX oX (by simp) (by simp;omega) λs' aE B o ao=>?_;have w:=o.keep _ _ (λg=>by have:=f.ss _ g;simp at this) E;simp only[a1b,oo w,u0,u1,w,aj,↓uL];refine A0 w B.p.ce (by simp) λT v H=>?_;refine dT (by first|rfl|(simp[eL,okT,tok,lb,cq,Qh,cD,dC,pP,dK];done)) ?_;have O:∀q∈aA s',q∉[((60,z):Id)]:=(by grind);refine⟨0,s',t,rfl,⟨⟨th,H⟩,(f.ga.fx o<|λq g N=>by grind [Wk.sa,Wk.ss]).fx v (λq g e=>by grind [Wk.sa]),⟨ls++[x.name],by rw[dg];exact B.p.fx v O,by simp;omega⟩,⟨lt,(M.fx o<|λq g N=>by grind [Wk.st,Wk.ss]).fx v (λq g e=>by grind [Wk.st]),by omega⟩,f.la,v.len.trans<|o.len.trans f.le,rfl,f.sa,(by grind),f.st⟩,((F.trans o).trans v).mono<|λq g=> .inl ?_,(by grind [bK.old]),λq g=> .inl g⟩;grind;intro k _;have:=S.2.1;omega;have K:∀aa e0:Int,eV (aX C9 1 A [(0,st x.name)]) λP ah=>eV (cj 9 zz9 16 ah 262 t P) (aU0 (AV.p (60,z) 0 0) (AV.p (60,z) 0 0) (AV.p (60,z) 0 5) (AV.p (3,v3) 0 0) (AV.p (3,v3) 0 2) (st x.name) t P (AV.p (5,v5) 0 0) (iv aa) [iv e0]<|aPr Y (60,z) p al n a s t):=(by intro aa e0;simp only[a52,bQ];refine O5 M f.le oX oX (by simp) (by simp;omega) λt' aE B o ao=>?_;have w:=o.keep _ _ (λg=>by have:=f.st _ g;simp at this) E;have d3:=o.keep _ _ (λg=>by have:=f.st _ g;simp at this) c3;have d5:=o.keep _ _ (λg=>by have:=f.st _ g;simp at this) b5;simp only[aU0,oo w,u0,u1,w,aj,↓uL];refine A0 w B.p.ce (by simp) λT v H=>?_;have d3:=v.kq d3;have d5:=v.kq d5;refine dT (by first|rfl|(simp[eL,okT,tok,lb,cq,Qh,cD,dC,pP,dK];done)) ?_;have O:∀q∈aA t',q∉[((60,z):Id)]:=(by grind);have ax:∀e:Int,aPr Y (60,z) p al n a s t (iv e) T:=(by intro e;refine⟨e,s,t',rfl,⟨⟨th,H⟩,(f.ga.fx o<|λq g N=>by grind [Wk.sa,Wk.st]).fx v (λq g e=>by grind [Wk.sa]),⟨ls,(R.fx o<|λq g N=>by grind [Wk.ss,Wk.st]).fx v (λq g e=>by grind [Wk.ss]),by omega⟩,⟨lt++[x.name],by rw[dg];exact B.p.fx v O,by simp;omega⟩,f.la,v.len.trans<|o.len.trans f.le,rfl,f.sa,f.ss,by grind⟩,((F.trans o).trans v).mono<|λq g=> .inl ?_,λq g=> .inl g,by grind [bK.old]⟩;grind);simp only[u0,u1,d3,d5,gw,aj,ar,Fa,aQU,S,az,rr,ld,↓uL];exactλ_=>ax _);exactλk=>⟨λ_=>by omega,λ_=>K _ _,λ_=>K _ _⟩
theorem baX(W:Wk Y b p al n a s t)(h:PrB p){m:Nat}{x:eo}(j:A5 m x)(i:n<100000){d:Nat}{K:be}(v:∀(e:Int) (s' g:AV) f,Wk f b p al (n+1) a s' g->Fx Y f (b::(aA s++aA t))->(∀q∈aA s',q∈aA s\/bK Y q)->(∀q∈aA g,q∈aA t\/bK Y q)->K (iv e) f):cB 247 [.p b 0 0, .a x.c] Y d K:=by refine jH rfl (bdl W h j i) ?_;rintro r f ⟨e,s',g,rfl,k,l,o,u⟩;grind [Fx.len]
def bS:Nat->Nat|0=>0|m+1=>1+8*bS m
def aR9(Y:ae)(b:Id)(p:xr)(al:List eo)(n:Nat)(a s t:AV)(r:AV)(c:ae):Prop:=∃(e l:Int) (d s' f:AV),r= .t [iv e,iv l]/\Wk c b p al n d s' f/\Fx Y c (b::(aA a++(aA s++aA t)))/\(∀q∈aA d,q∈aA a\/bK Y q)/\(∀q∈aA s',q∈aA s\/bK Y q)/\∀q∈aA f,q∈aA t\/bK Y q
theorem bc8(hB:PrB p):∀(m:Nat) {Y:ae} {al:List eo} {n:Nat} {a s t:AV} {l:List eo},Wk Y b p al n a s t->shL m 8 l->n+L l*bS m<100000->
  ∃r Y1,aR9 Y b p al (n+L l*bS m) a s t r Y1/\cZ aS GG 219 [.p b 0 0,sl eo.c l] Y r Y1:=by
 intro m
 induction m with
 |zero=>
  intro Y al n a s t l W hs hn
  have:l=[]:=List.eq_nil_iff_forall_not_mem.2 λx hx=>hs.2 x hx
  subst this
  refine a7S W.le ?_
  simp only[aRq]
  refine yV 0 (λ_ _ Y'=>Y'=Y) rfl ?_
  rintro k _ Y1 hk rfl
  simp only[aUW,aI,au,u0,u1,vw,↓uL]
  refine⟨λh=>by simp at h;omega,λ_=>⟨0,0,a,s,t,rfl,W.mono (by omega),Fx.refl _ _,λ_ h=> .inl h,λ_ h=> .inl h,λ_ h=> .inl h⟩⟩
 |succ m ih=>
  intro Y al n a s t l W hs hn
  obtain⟨b1,f⟩:=b
  obtain rfl:b1=60:=W.sb
  refine a7S W.le ?_
  simp only[aRq]
  refine yV (L l) (λk _ Y'=>∃w s' z,Wk Y' (60,f) p al (n+k*bS (m+1)) w s' z/\Fx Y Y' ((60,f)::(aA a++(aA s++aA t)))/\(∀q∈aA w,q∈aA a\/bK Y q)/\(∀q∈aA s',q∈aA s\/bK Y q)/\∀q∈aA z,q∈aA t\/bK Y q) (by grind [Fx.refl]) ?_
  rintro k _ Y1 hk ⟨a1,s1,t1,W1,F1,i1,i2,i3⟩
  have cc:k*bS (m+1)<=L l*bS (m+1):=qo _ hk
  have aO:∀(e o:Int) (w s' z:AV) Y',Wk Y' (60,f) p al (n+L l*bS (m+1)) w s' z->Fx Y Y' ((60,f)::(aA a++(aA s++aA t)))->(∀q∈aA w,q∈aA a\/bK Y q)->(∀q∈aA s',q∈aA s\/bK Y q)->(∀q∈aA z,q∈aA t\/bK Y q)->fe (aR9 Y (60,f) p al (n+L l*bS (m+1)) a s t) Y' [iv e,iv o]:=λe o w s' z Y' h1 h2 h3 h4 h5=>⟨e,o,w,s',z,rfl,h1,h2,h3,h4,h5⟩
  simp only[aUW,aI,au,u0,u1,Ca,bh,rr,gw,↓uL]
  refine⟨λh=>⟨vp h,aRA rfl WV (by decide) (by rw[W1.le];decide) λv s2 F2 N2 aM=>?_⟩,by grind⟩
  have ap:=aL h
  have W2:=W1.fx0 F2
  have hx:=hs.2 _<|dB ap
  obtain⟨m',cq,g1,g2⟩:=hx.body
  obtain rfl:m=m':=by omega
  have bG:n+k*bS (m+1)+(1+8*bS m)<=n+L l*bS (m+1):=by
   have h9:(k+1)*bS (m+1)<=L l*bS (m+1):=qo _ ap
   grind [tN,bS]
  have n7:∀{w s' z:AV} {Y':ae} {bk:List eo} {n':Nat},Wk Y' (60,f) p bk n' w s' z->∀(v:Nat),((7,v):Id)∉((60,f):Id)::(aA w++(aA s'++aA z)):=λW v j=>by
   simp only[eW,dF,iK] at j
   rcases j with h|h|h|h
   ·omega
   ·have:=W.sa _ h;simp at this
   ·have:=W.ss _ h;simp at this
   ·have:=W.st _ h;simp at this
  generalize cs:gd l k=x at*
  simp only[a05,u0,u1,aM,gw,↓uL]
  refine baX W2 hB hx (by omega) λe s3 t3 Y3 B F3 j2 j3=>?_
  have b3:=F3.keep _ _ (λj=>n7 W2 v<|by simp only[eW,dF] at j⊢;rcases j with h|h|h;exact .inl h;exact .inr<|.inr<|.inl h;exact .inr<|.inr<|.inr h) aM
  have Z:Fx Y Y3 ((60,f)::(aA a++(aA s++aA t))):=((F1.trans F2).trans F3).mono (by grind [bK.no])
  have aR:∀q∈aA s3,q∈aA s\/bK Y q:=(by grind [bK.old])
  have aT:∀q∈aA t3,q∈aA t\/bK Y q:=(by grind [bK.old])
  obtain⟨th,ak⟩:=B.bx
  have bp:=B.la
  have ew:dq.wrap ((L al:Int)+1)=((L al+1:Nat):Int):=fX (by omega)
  simp+contextual only[a04,f8,a08,a06,aI,au,oo ak,u0,u1,ak,yr,C5,yd,B.ga.ln,bJ,b3,gw,aj,ew,Int.reduceEq,aTo,bkk,aNV,↓iC,↓uL]
  have ad:∀(e o:Int),fe (aR9 Y (60,f) p al (n+L l*bS (m+1)) a s t) Y3 [iv e,iv o]:=λe o=>aO e o _ _ _ _ (B.mono<|by omega) Z i1 aR aT
  refine⟨λ_=>ad _ _,λh6=>⟨λ_=>ad _ _,λ_=>?_⟩⟩
  have cp:L al+1<=6:=by grind
  have bs:aX aOl 1 Y3 [(0,.a [iv 0,iv 0,sv [],sv [],.l [] U U,iv 0,iv 0,sv [],.l [] U U,.l [] U U,.l [] U U])]=V (.l [aOl] U U,Y3):=by kernel_rfl
  simp only[bs,bQ]
  refine O5 B.ga B.le (qW λ_=>WV) (by simp) (by simp) (by simp;omega) λa4 Y4 g4 F4 N4=>?_
  rcases g4 with⟨h8,_⟩|⟨q,bo,j⟩
  ·simp at h8
  subst bo
  have aP:q.1=42:=(N4 q<|by simp[aA]).2
  have bw:=(N4 q<|by simp[aA]).1
  obtain⟨q1,q2⟩:=q
  simp only at aP
  subst aP
  have na:∀{u:Nat} {r:Nat},r≠42->((r,u):Id)∉aA a1:=λg j=>g<|B.sa _ j
  have b4:=F4.keep _ _ (na<|by decide) b3
  have bq:=F4.keep _ _ (na<|by decide) ak
  have aC:L (al.map eo.c++[aOl])=L al+1:=by simp
  have bt:∀{K:o8},K (.p (42,q2) (L al) 0)->rV (cz 11 Y4 (.m (42,q2)<|L<|al.map eo.c++[aOl])<|iv (L al:Int)) K:=λ{K} hK=>by
   simp only[cz,Int.natCast_nonneg,NA,j,qd,bh,aC,Nat.lt_succ_self,ld,rV]
   exact hK
  simp only[a03,↓uL]
  refine bt ?_
  refine stG j (by simp) (by intro r g;simp only[dF,dN,cE] at g;rcases g with⟨y,_,rfl⟩|rfl;exact WV;rfl) WV (by rw[apT];rfl) (by rw[apT];rfl) (by rw[apT];rfl) λY5 F5 aQ=>?_
  have a2:(al.map eo.c++[aOl]).set (L al) (eo.c x)=(al++[x]).map eo.c:=by
   have:=bfa (l:=al.map eo.c) (x:=aOl) (y:=eo.c x)
   rw[bJ] at this
   rw[this];simp
  rw[a2] at aQ
  have b5:=F5.kq b4
  have T:=F5.kq bq
  simp only[a02,oo T,u0,u1,T,aj,↓uL]
  refine A0 T rfl (by simp) λY6 F6 br=>?_
  have b6:=F6.kq b5
  have cr:=F6.kq aQ
  have bv:cD (.a x.c)=[]:=by rw[apT];rfl
  refine dT (by simp only[lbV,aBG,T,j,NA,eE,aPZ,Cz,RN,bv];simp[eL,lb,cD,dC,dK]) ?_
  have aa:Fx Y3 Y6 (aA a1++[(60,f)]):=((F4.trans F5).trans F6).mono λr g=>by
   simp only[dF,cE] at g⊢
   grind [bK.no]
  have ba:Fx Y Y6 ((60,f)::(aA a++(aA s++aA t))):=(Z.trans aa).mono λr g=>by
   rcases dF.1 g with h|h
   ·exact .inl h
   ·rcases dF.1 h with h|h
    ·rcases i1 r h with h|h
     ·grind
     ·exact .inr h.no
    grind
  have aN:∀r:Id,r.1≠42->r.1≠60->r∉aA a1++[((60,f):Id)]:=(by grind)
  obtain⟨ls,gs,ao⟩:=B.gs
  obtain⟨lt,ah,S⟩:=B.gt
  have W6:Wk Y6 (60,f) p (al++[x]) (n+k*bS (m+1)+1) (.m (42,q2)<|L<|al.map eo.c++[aOl]) s3 t3:=by
   refine⟨⟨th,br⟩, .inr ⟨(42,q2),[],by simp,by grind⟩,⟨ls,gs.fx aa<|λr g=>aN r (by grind [Wk.ss])<|by grind [Wk.ss],ao⟩,⟨lt,ah.fx aa<|λr g=>aN r (by grind [Wk.st])<|by grind [Wk.st],S⟩,by simp;omega,F6.len.trans<|F5.len.trans<|F4.len.trans B.le,rfl,by simp[aA],B.ss,B.st⟩
  have a5:bK Y (42,q2):=bw.old Z
  have aq:∀(e o:Int) {D:ae} {N:Nat} {M F G:AV},Wk D (60,f) p (al++[x]) N M F G->N<=n+k*bS (m+1)+(1+8*bS m)->Fx Y D ((60,f)::(aA a++(aA s++aA t)))->(∀q∈aA M,q∈aA a\/bK Y q)->(∀q∈aA F,q∈aA s\/bK Y q)->(∀q∈aA G,q∈aA t\/bK Y q)->
    aUV (.p (60,f) 0 0) (aR9 Y (60,f) p al (n+L l*bS (m+1)) a s t) [iv k] (yI (λ(_:Unit) i=>[iv i]) (L l) λk (_:Unit) Y'=>∃w s' z,Wk Y' (60,f) p al (n+k*bS (m+1)) w s' z/\Fx Y Y' ((60,f)::(aA a++(aA s++aA t)))/\(∀(q:Id),q∈aA w->q∈aA a\/bK Y q)/\(∀(q:Id),q∈aA s'->q∈aA s\/bK Y q)/\∀(q:Id),q∈aA z->q∈aA t\/bK Y q) (gM 0<|L l) Y1 [iv e,iv o] D:=by
   intro e o D N M F G C hN X ax O P
   obtain⟨th,am⟩:=C.bx
   have e1:dq.wrap (((L al+1:Nat):Int)-1)=(L al:Int):=by grind [eM]
   simp only[aUV,aI,oo am,u0,u1,am,yr,C5,yd,aj,C.ga.ln,bJ,a6G,bZ,vw,e1,↓uL]
   refine slP C.ga (by omega) (by simp;omega) λH g9 i9=>?_
   have ht:((al++[x]).map eo.c).take ((L al:Int).toNat)=al.map eo.c:=by simp
   rw[ht] at g9
   refine A0 am g9.ce (by simp) λE A b9=>?_
   have d9:∀r:Id,r.1≠60->r∉[((60,f):Id)]:=(by grind)
   obtain⟨ls,gs,ao⟩:=C.gs
   obtain⟨lt,ah,S⟩:=C.gt
   have R:Wk E (60,f) p al N H F G:=⟨⟨th,b9⟩,g9.fx A<|λr g=>(by grind [Wk.sa]),⟨ls,gs.fx A<|λr g=>(by grind [Wk.ss]),ao⟩,⟨lt,ah.fx A<|λr g=>(by grind [Wk.st]),S⟩,bp,A.len.trans C.le,rfl,λr g=>C.sa r<|i9▸g,C.ss,C.st⟩
   have aK:Fx Y E ((60,f)::(aA a++(aA s++aA t))):=(X.trans A).mono λr g=>by
    rcases dF.1 g with h|h
    ·exact .inl h
    ·exact .inl (by simp at h;simp[h])
   have u9:∀q∈aA H,q∈aA a\/bK Y q:=(by grind)
   simp only[a0Z,au,u0,u1,↓uL]
   refine⟨λ_=>aO _ _ _ _ _ _ (R.mono<|by omega) aK u9 O P,λ_=>?_⟩
   refine dR (mk:=λ(_:Unit) i=>[iv i]) (s:=()) (s':=()) (λ_ _=>rfl) ap (by have:=hs.1;omega) ⟨H,F,G,R.mono ?_,aK,u9,O,P⟩
   grind [tN,bS]
  have af:∀{D:ae} {N:Nat} {M F G:AV} {l':List eo} {d:Nat} {K:be},Wk D (60,f) p (al++[x]) N M F G->shL m 4 l'->N<=n+k*bS (m+1)+(1+4*bS m)->Fx Y D ((60,f)::(aA a++(aA s++aA t)))->(∀q∈aA M,q∈aA a\/bK Y q)->(∀q∈aA F,q∈aA s\/bK Y q)->(∀q∈aA G,q∈aA t\/bK Y q)->
    (∀(e o:Int) (H s9 t9:AV) (E:ae),Wk E (60,f) p (al++[x]) (N+4*bS m) H s9 t9->Fx D E ((60,f)::(aA M++(aA F++aA G)))->Fx Y E ((60,f)::(aA a++(aA s++aA t)))->(∀q∈aA H,q∈aA a\/bK Y q)->(∀q∈aA s9,q∈aA s\/bK Y q)->(∀q∈aA t9,q∈aA t\/bK Y q)->K (.t [iv e,iv o]) E)->cB 219 [.p (60,f) 0 0,sl eo.c l'] D d K:=by
   intro D N M F G l' d K C an hN X ax O P hK
   have h4:L l'*bS m<=4*bS m:=qo _ an.1
   refine jH rfl (ih C ⟨by have:=an.1;omega,an.2⟩<|by omega) ?_
   rintro r E ⟨e,o,H,s9,t9,rfl,R,A,v1,v2,v3⟩
   refine⟨A.len,hK e o H s9 t9 E (R.mono<|by omega) A ((X.trans A).mono λr g=>?_) (λq j=>(v1 q j).elim (ax q) λh=> .inr<|h.old X) (λq j=>(v2 q j).elim (O q) λh=> .inr<|h.old X)<|λq j=>(v3 q j).elim (P q) λh=> .inr<|h.old X⟩
   rcases dF.1 g with h|h
   ·exact .inl h
   ·simp only[eW,dF] at h⊢
    rcases h with h|h|h|h
    ·grind
    ·exact(ax r h).elim (by grind) λh=> .inr h.no
    ·exact(O r h).elim (by grind) λh=> .inr h.no
    ·exact(P r h).elim (by grind) λh=> .inr h.no
  simp only[u0,u1,b6,gw,aj,↓uL]
  refine af W6 g1 (by omega) ba (by simp[aA];exact .inr a5) aR aT λe' o H s9 t9 E R G9 A v1 v2 v3=>?_
  have b9:=G9.keep _ _ (n7 W6 v) b6
  simp only[a01,rr,aY,di,a07,u0,u1,b9,gw,aj,↓uL]
  refine⟨λ_=>?_,λ_=>aq _ _ R (by omega) A v1 v2 v3⟩
  refine af R g2 (by omega) A v1 v2 v3 λe2 ct co cu cv cn bg cm a7 w1 w2 w3=>?_
  simp only[a00,rr,aY]
  exact aq _ _ bg (by omega) a7 w1 w2 w3
theorem baR(j:PrB p){m:Nat}{l:List eo}(W:Wk Y b p al n a s t)(o:shL m 8 l)(k:n+L l*bS m<100000){d:Nat}{K:be}(z:∀(e i:Int) (g s' h:AV) f,Wk f b p al (n+L l*bS m) g s' h->Fx Y f (b::(aA a++(aA s++aA t)))->(∀q∈aA g,q∈aA a\/bK Y q)->(∀q∈aA s',q∈aA s\/bK Y q)->(∀q∈aA h,q∈aA t\/bK Y q)->K (.t [iv e,iv i]) f):cB 219 [.p b 0 0,sl eo.c l] Y d K:=by refine jH rfl (bc8 j m W o k) ?_;rintro r f ⟨e,i,g,s',h,rfl,u,v,w,x,y⟩;grind [Fx.len]
end
def a7A:dO:=aYb
def a7k:eJ a7A:=aTC
def aWi:=@aQU
section
attribute[local irreducible] aX
def a87:=bi 37 [(18,([8,9],[1])),(28,([11],[1,10]))]
def a0y R b(g:aG)(c:bu) h d a:=rV (eO 0 d) λe=>rV (eO 1 d) λi=>aO .neq e (iv 0) λj=>ah j (aE R a [e,i]) (aV (gt b 0) (iv 1) λf=>g [f] a/\c [f] a<c b h)
def a0z e b g R c d f a:=ab 1 a e λh=>ao 4 a h (gt b 0) λi=>ab 3 a i λj=>cB 219 [g,j] a 80<|a0y R b c d f
def a0B c d R e f b a:=Rg->ab 1 a c λg=>aJ a g λh=>aU (gt b 0) h λi=>ah i (rV (cO a d) λj=>aB 2 a j λk=>sV (aK 1 a k<|gt b 0)<|a0z c b d R e f a)<|aE R a [iv 0,iv 0]
def a0A b c R(g:cG)(d:fD) a:=Rg->ab 1 b c λi=>aJ b i λj=>aU (gt a 1) j λk=>ah k (ab 1 b c λl=>ao 4 b l (gt a 1) λm=>ab 3 b m λn=>fV aT4 b [n] λo=>aV (gt a 0) o λe=>aV (gt a 1) (iv 1) λf=>g [e,f]/\d [e,f]<d a) (aO .gtr (gt a 0) (iv 60) λp=>ah p (aE R b [iv 2,iv 0])<|aw 2 b c λq=>rV (bM bnH [(0,2),(2,1),(3,1),(4,1),(5,1)] [(0,q)]) λr=>eV (qm 293 6 b 60 r) λs h=>lV [iv 0] h<|a0B c s R)
def a0x b a R:=aw 2 a b λt3=>fV aT0 a [t3] λt4=>cf t4 λo=>ah o (aE R a [iv 3,iv 0]) (ab 0 a b λp=>fV aT7 a [p] λm=>rV (eO 0 m) λn=>rV (eO 1 m) λe=>aO .neq n (iv 0) λf=>ah f (aE R a [n,e])<|ab 1 a b λg=>aJ a g λh=>aO .gtr h (iv 4) λi=>ah i (aE R a [iv 2,iv 0])<|aw 2 a b λj=>fV aT9 a [j] λc=>rV (eO 0 c) λd=>rV (eO 1 c) λk=>aO .neq d (iv 0) λl=>ah l (aE R a [d,k])<|lR [iv 0,iv 0]<|a0A a b R)
def bgF{b:List AV}{R:o8}(l0:L b=2)(h:H1 197 2 1 b λc d=>a0x c d R):Ct 170 [.a b] R:=z1 a87 a7k Tryz.func170 l0 h
end
def bdo{p:xr}(f:shP p):Ct 170 [.a p.c] aQ1:=by
 have g:=f.1
 have R:=g.1
 have h2:=g.2.1
 refine bgF rfl λs2 S j h0=>?_
 simp+contextual only[a0x,u0,u1,j,gw,aj,ar,Fa,aWi,f,R,g,rr,aO2,hH,↓uL]
 intros
 refine yh (λs:Int×Nat=>[iv s.1,iv s.2]) 1 (L p.ay) (λ_=>True) (0,0) trivial ?_
 rintro⟨c,k⟩ _
 simp+contextual only[a0A,aI,au,u0,u1,j,rk,gw,aj,Ca,bh,ar,aWi,rr,aO2,hH,↓uL]
 refine⟨λh=>⟨vp h,⟨4,(f.2.2 _<|dB<|aL h).2⟩,λx=>wN (enc:=λs:Int×Nat=>[iv s.1,iv s.2]) (s:=(c,k)) (s':=(_,k+1)) (by rw[fX<|by grind]) rfl rfl (aL h) trivial⟩,λ_ _=>?_⟩
 have z:bM bnH [(0,2),(2,1),(3,1),(4,1),(5,1)] [(0, .a p.c)]=V (.a [sl w6.c p.A7,sl xt.c p.ay,iv 0, .l [] U U, .l [] U U, .l [] U U]):=rfl
 simp only[z,aY]
 refine bxL rfl (by decide) (by omega) λv F o N3 N=>?_
 have A:L F=4096:=o.len.trans S
 have W3:Wk F (60,v) p [] 0 (.l [] U U) (.l [] U U) (.l [] U U):=⟨⟨0,N⟩, .inl ⟨rfl,rfl⟩,⟨[], .inl ⟨rfl,rfl⟩,by simp⟩,⟨[], .inl ⟨rfl,rfl⟩,by simp⟩,by simp,A,rfl,by simp[aA],by simp[aA],by simp[aA]⟩
 have c3:=o.kq j
 refine yV (L p.ay) (λk _ Y=>∃a s t,Wk Y (60,v) p [] (k*10000) a s t/\box Y (1,1)=V ⟨197,2,U,U,[p.c]⟩) (by grind) ?_
 rintro k _ Y hk ⟨a,s,t,W,q⟩
 obtain⟨th,m⟩:=W.bx
 simp only[a0B,aI,au,u0,u1,q,oo m,m,gw,aj,rr,aO2,hH,tn,↓uL]
 intro h
 have d:=aL h
 have E:=f.2.2 _<|dB d
 have ab:=f.2.1
 refine A0 m rfl (by simp) λX b O=>?_
 have u:=b.kq q
 have H:Wk X (60,v) p [] (k*10000) a s t:=by
  obtain⟨ls,w,B⟩:=W.gs
  obtain⟨T,y,n⟩:=W.gt
  have d9:∀r:Id,r.1≠60->r∉[((60,v):Id)]:=(by simp_all)
  exact⟨⟨k,O⟩,W.ga.fx b<|λr D=>(by grind [Wk.sa]),⟨ls,w.fx b<|λr D=>(by grind [Wk.ss]),B⟩,⟨T,y.fx b<|λr D=>(by grind [Wk.st]),n⟩,W.la,b.len.trans W.le,rfl,W.sa,W.ss,W.st⟩
 simp only[a0z,u0,u1,u,rk,gw,aj,Ca,bh,↓uL]
 have aa:bS 4=585:=rfl
 have hm:L (gd p.ay k).body*bS 4<=8*bS 4:=qo _ E.2.1
 refine⟨dJ d,baR g H E.2 (by omega) λe ln M s' Z s5 K G _ _ _=>?_⟩
 have P:=G.keep _ _ (λC=>by
  simp only[eW,dF,iK] at C
  rcases C with h|h|h|h
  ·omega
  ·have:=W.sa _ h;simp at this
  ·have:=W.ss _ h;simp at this
  ·have:=W.st _ h;simp at this) u
 simp only[a0y,au,u0,u1,rr,aO2,hH,bR,↓uL]
 exactλ_=>dR (mk:=λ(_:Unit) i=>[iv i]) (s:=()) (s':=()) (λ_ _=>rfl) d (by omega) ⟨M,s',Z,K.mono (by omega),P⟩
def a59{p:xr}(f:shP p):∃x:Int×Int,Ct 170 [.a p.c] (·= .t [iv x.1,iv x.2]):=by obtain⟨r,⟨e,l,rfl⟩,b,d⟩:=bdo f;exact⟨(e,l),_,rfl,b,d⟩
noncomputable def chk(p:xr):Int×Int:=@dite _ (shP p) (Classical.propDecidable _) (λh=>Classical.choose<|a59 h) λ_=>(0,0)
def aW1(p:xr)(b:shP p):Ct 170 [.a p.c] (·= .t [iv (chk p).1,iv (chk p).2]):=by rw[chk,dif_pos b];exact Classical.choose_spec<|a59 b
def aRi:FT:=mT aW1
def bbJ{p Lw K}:=oK aRi aW1 p Lw K (j:=by simp+contextual only[ij,Nb])
def a7B:dO:=(170,aRi)::a7A
def aX4:eJ a7B:=it (pg aW1)<|a7k
def aWj:=ai @bbJ<|@aWi
section
attribute[local irreducible] aX
def a9E:=bi 11 [(3,([0,2,10],[1,3]))]
def a2O f(g:aG)(m1:bu) h b a:=rV (eO 0 b) λc=>rV (eO 1 b) λd=>aV (gt f 2) (iv 1) λe=>g [c,d,e] a/\m1 [c,d,e] a<m1 f h
def a2P j c i h m1 k b a:=rV (eO 0 b) λd=>rV (eO 1 b) λe=>ao 11 a j (gt c 2) λf=>ab 10 a f λg=>cB 221 [d,i,e,g] a 51<|a2O c h m1 k
def a2Q b d c i m1 j e a:=aV (gt b 1) (iv 1) λf=>ao 11 a d (gt b 2) λg=>ab 9 a g λh=>cB 221 [e,c,f,h] a 39<|a2P d b c i m1 j
def aVa c d R f m1 a b:=Rg->aJ b c λt3=>aU (gt a 2) t3 λt4=>ah t4 (ao 11 b c (gt a 2) λg=>ab 1 b g λh=>rV (bM bhQ aP0 [(0,d),(1,gt a 1),(2,h)]) λi=>eV (aX biT 1 b [(0,i)]) λj e=>eV (cj 148 bhQ 24 e 27 (gt a 0) j)<|a2Q a c d f m1 b)<|fe R b [gt a 0,gt a 1]
def aSv a b c d s0 R:=lV [a,c,iv 0] s0<|aVa d b R
def bfY{a b c d:AV}{s0:ae}{R:be}(h:aSv a b c d s0 R):EB 221 [a,b,c,d] s0 R:=zB a9E aX4 Tryz.func221 h
def a7U{a b c d:AV}{s0:ae}{R:be}(e:L s0=4096)(h:aSv a b c d s0 R):EB 221 [a,b,c,d] s0 R:=by refine bfY ?_;exact h
def a9q:=bi 32 [(8,([6],[1,2,3])),(11,([],[1,2,3,6])),(14,([39],[1,2,3,6,7,31])),(17,([8],[1,2,3,6,7])),(21,([65],[1,2,3,6,7,31])),(26,([9],[1,2,3]))]
def a8v h b c d e f a:=aB 0 a h λg=>sV (aK 1 a g f)<|ID b c d e
def aU2 b d(f:aG) e g c a:=Rg->ab 3 a b λi=>rV (AO .max i<|iv 1) λj=>aU (gt c 0) j λk=>ah k (ab 0 a d λl=>ab 2 a b λm=>ab 3 a b λn=>ab 0 a b λo=>bf o (iv 2) λp=>ab 4 a b λq=>rV (bM aP3 aOG [(0,m),(1,gt c 0),(2,n),(3,p),(4,q)]) λr=>eV (aX biS 1 a [(0,r)]) λs h=>eV (cj 142 aP3 48 h 63 l s)<|a8v d c e g a)<|f [] a
def a1T f(b:aG) d a:=aB 1 a f λe=>sV (aK 1 a e d) λc=>b [] c
def a8w b e a h j l k m i n o g p r q(c:aG) d:=dH [bo b,bo e,bo a,bo h,bo b,bo j,bo a,bo l,Qh [.f 220 [] [],k,m],lb U [i,n] [],lb I [o] [],lb I [g,p] [92],bo b,lb I [r,q] []] [(0,10),(1,10)]<|c [] d
def a1U d g e i k m l n j o p h q f b a:=aB 2 a d λc=>sV (aK 1 a c b)<|a8w d g e i k m l n j o p h q c b f
def a1V f(c:aG) d a:=aB 3 a f λe=>sV (aK 1 a e d) λb=>c [] b
def aQh a c b d t p:=Rg->ah (gt p 0) (ab 1 a c λu=>ab 2 a b λv=>ab 0 a b λw=>bf w (iv 4) λx=>rV (bM aXN C2 [(0,v),(1,x)]) λy=>eV (aX biv 1 a [(0,y)]) λz q=>eV (cj 144 aXN 24 q 77 u z)<|a1T c d) (bf t (iv 5) λA=>ah A (aB 2 a c λe=>aM a e λf=>aB 2 a b λg=>aM a g λh=>aB 1 a c λi=>aM a i λj=>aB 5 a b λk=>aM a k λl=>fV aQE a [j,l] λm=>rV (bM aYq C2 [(0,h),(1,m)]) λn=>eV (aX a7Y 1 a [(0,n)]) λo r=>eV (cj 146 aYq 24 r 92 f o)<|a1U c e b g i k j l h m n f o d)<|ab 3 a c λB=>ab 2 a b λC=>eV (aX C9 1 a [(0,C)]) λD s=>eV (cj 9 zz9 16 s 37 B D)<|a1V c d)
def aQg c a e b d f:=Rg->ah (gt f 0) (lV [iv 0] c<|aU2 a e b) (jR 21 (aQh c e a b d)<|adi d)
def aQi c(b:cG):=bf c (iv 1) λa=>ah a (b [a]) (bf c (iv 2) λd=>b [d])
def aQe a e d b:=ab 0 b a λc=>jR 14 (aQg b a e d c)<|aQi c
def a1Y a e c j d:=ab 0 a e λg=>ao 6 a g (gt c 0) λh=>aw 6 a h λi=>eV (bs 296 aXV a 7) λb f=>sV (aK 6 f b i)<|aQe b j d
def a1W f j q k l a m n i d p o(g:aG)(b:bu) h c:=dH [bo f,bo j,km,bo q,bo k,km,lb U [l,gt a 0] [],bo m,bo n,cq I i,km,bo d,bo d,bo f,lb I [p,o] []] [(12,14)] (aV (gt a 0) (iv 1) λe=>g [e] c/\b [e] c<b a h)
def a1X f k p l m e n o j g h i a b:=rV (eO 0 a) λc=>rV (eO 1 a) λq=>aB 5 b f λd=>sV (aK 1 b d c)<|a1W f k p l m e n o j a d c g h i
def a1R c m d o p b q r s n t v u j k l a:=dH [bo c,bo m,bo d,bo o,km,lb U [p,gt b 0] [],bo q,bo r,lb I [s] [],lb I [n,t] [110],bo c,lb I [v,u] []] [(0,8),(1,8)] (aB 5 a c λe=>aM a e λw=>aB 1 a d λf=>aM a f λg=>ao 4 a g (gt b 0) λh=>aB 3 a h λi=>aM a i λx=>cB 221 [w,gt b 0,iv 0,x] a 122<|a1X c e d f g b h i a j k l)
def a8u e i q k l d m n o j p f g h b a:=aB 4 a e λc=>sV (aK 1 a c b)<|a1R e i q k l d m n o j p c b f g h
def a1Z c m t3 R n o b a:=Rg->ab 1 a c λq=>aJ a q λr=>aU (gt b 0) r λs=>ah s (aB 4 a m λe=>aM a e λf=>aB 1 a c λg=>aM a g λh=>ao 4 a h (gt b 0) λi=>aB 0 a i λj=>aM a j λk=>eV (aX C9 1 a [(0,k)]) λl p=>eV (cj 9 zz9 16 p 110 f l)<|a8u m e c g h b i j k f l n o a) (aw 6 a m λt=>sV (aK 6 a t3 t) λd=>aw 6 d t3 λu=>aE R d [u])
def a11 c d t3 R e f b a:=Rg->ab 0 a c λg=>aJ a g λh=>aU (gt b 0) h λi=>ah i (jV 11 (IA b e f a)<|a1Y a c b d)<|lV [iv 0] a<|a1Z c d t3 R
def a1S b t3 R d a:=aw 2 a b λi=>fV aRi a [i] λh=>rV (eO 0 h) λj=>rV (eO 1 h) λk=>aO .neq j (iv 0) λe=>ah e (aw 6 a d λf=>sV (aK 6 a t3 f) λc=>aw 6 c t3 λg=>aE R c [g])<|lV [iv 0] a<|a11 b d t3 R
def a1P a b R:=eV (bs 31 aRc b 2) λt3 c=>eV (bs 31 aRc c 3)<|a1S a t3 R
def bgY{b:List AV}{R:o8}(l0:L b=2)(h:H1 197 2 1 b λc d=>a1P c d R):Ct 171 [.a b] R:=z1 a9q aX4 Tryz.func171 l0 h
end
end Go.Ab
