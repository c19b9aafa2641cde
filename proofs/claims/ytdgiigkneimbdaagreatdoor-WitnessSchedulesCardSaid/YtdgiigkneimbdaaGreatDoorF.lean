/- Part of the proof of WitnessSchedules. -/
import Derived.Test.YtdgiigkneimbdaaGreatDoorE
set_option linter.all false
set_option maxRecDepth 100000
open And renaming intro->ai
open Bool renaming and_assoc->BI,and_eq_false_iff->bik,and_eq_true->bN,and_false->qc,false->I,false_and->kM,false_eq_true->eE,false_or->lG,not_eq_false'->fK,not_eq_true'->eH,not_false->kN,not_true->fh,or_eq_false_iff->cP,or_eq_true->fH,or_false->kz,or_true->wY,true->U,true_and->iw,true_eq_false->sr,true_or->bkh
open Decidable renaming decide->Q,not_not->aNS
open Go.IntKind renaming i64->dq
open Go.Proofs.Tryz renaming prog->aS
open Int renaming not_lt->aqC,toNat_natCast->bh
open List renaming all_eq_true->dV,append_assoc->bje,append_nil->cL,cons.injEq->kO,cons_append->zn,drop_eq_getElem_cons->Cw,drop_length->Gz,drop_succ_cons->nM,drop_zero->ip,ext_getElem->biF,flatMap_cons->Cz,foldl_nil->aRl,getElem?_append_left->xe,getElem?_cons_zero->qh,getElem?_eq_getElem->eC,getElem?_map->ve,getElem_of_mem->ou,length->L,length_append->a6G,length_drop->oz,length_map->bJ,length_nil->bhZ,length_take->gC,map_append->dg,map_cons->ji,map_map->vA,map_nil->mU,map_set->bsl,mem_append->dF,mem_cons->eW,mem_filter->jW,mem_iff_getElem->RU,mem_map->dN,mem_map_of_mem->CA,mem_or_eq_of_mem_set->CC,mem_range->fq,mem_singleton->cE,nil_append->dW,not_mem_nil->ql,pairwise_append->RW,pairwise_cons->aqX,pairwise_iff_getElem->GN,range->aH,range_succ->qn,replicate->er,set_cons_zero->RY,singleton_append->RZ,take_append_drop->aq0,take_length->gV,take_of_length_le->oB,take_succ_eq_append_getElem->iJ
open Nat renaming le_refl->dA,lt_or_ge->jj,mul_le_mul_right->qo,reduceAdd->dc,zero_add->aj,zero_le->mh
open Ne renaming symm->Sa
open Option renaming bind_some->a6X,map_some->df,none->J,some->V
open Prod renaming fst->Se
namespace Go.Ab
open Go Go.RowKit Go.Proofs Go.Proofs.Tryz
def aQs(c:bit)(s:bcW)(t:Int):aRV:=gd (gd c.ay t.toNat).boU (gd s.ay t.toNat).pc.toNat
def PK(k:Int)(i:aRV):Prop:=(k=3\/k=23->i.a∈bie i)/\(k=4\/k=22->i.b∈bie i)/\(k=5->i.a∈bie i)
def EvL(e:aP):Prop:=L e.dI<=1000/\L e.ep<=1000
def bdY{i}:PK (aPY i.op) i:=by obtain⟨op,a,b,k,n,st⟩:=i;simp only[PK,aPY,cond_eq_ite];by_cases h:op<6\/28<op;simp_all;rw[za<|by simpa using h];have c:op=6\/op=7\/op=8\/op=9\/op=10\/op=11\/op=12\/op=13\/op=14\/op=15\/op=16\/op=17\/op=18\/op=19\/op=20\/op=21\/op=22\/op=23\/op=24\/op=25\/op=26\/op=27\/op=28:=Z;obtain rfl|rfl|rfl|rfl|rfl|rfl|rfl|rfl|rfl|rfl|rfl|rfl|rfl|rfl|rfl|rfl|rfl|rfl|rfl|rfl|rfl|rfl|rfl:=c<;>simp[gd,aXK,bie]
def aXq(c)(s)(t:Int)(hp:aPU c/\aOc c/\∃k,StB k s):Ct 264 [.a c.c, .a s.c,iv t] (λr=>∃(e:aP) (ok:Bool),r= .t [.a e.c,bv ok]/\EvL e/\(ok=U->aSm c s/\aF (L c.ay) t/\PK e.kind (aQs c s t))):=by
 obtain⟨hc,G,K,hs⟩:=hp
 have cJ:=aP4 hc.1
 have cD:=G.1
 generalize hQ:(λ(r:AV)=>∃(e:aP) (ok:Bool),r= .t [.a e.c,bv ok]/\EvL e/\(ok=U->aSm c s/\aF (L c.ay) t/\PK e.kind (aQs c s t)))=Qq
 refine aDq (bhh A rfl λs4 hl b1 b2 h0=>?_)
 refine zm hl λv6 s6 F6 N6 b6=>?_
 have c1:=F6.kq b1
 have c2:=F6.kq b2
 have a5:=F6.len.trans hl
 have k1:∀{x:dM} {y:AV},aN J (y::x)=V y:=λ{x y}=>by cases y<;>rfl
 have k7:=@r7A
 have hz:bM bti aP0 []=V (.a bti):=A
 simp only[qz 6,qy 8,qy 10,jB,c1,c2,o0,aWm,aTv]
 refine⟨⟨G,Z⟩,λb bl=>?_⟩
 have E:∀{x:ae},box x (6,v6)=V ⟨71,7,U,U,[bti]⟩->sV (aK 7 x (.p (6,v6) 0 0)<|.a bti) λy=>rV (sA (V 7) y<|.p (6,v6) 0 0) λt=>aE (λr=>Qq<|bqE r) y [t,bv I]:=λ{x} G=>by
  refine stW G A rfl λs7 F7 b7=>?_
  rw[aEa b7 A]
  refine aOH (vs':=[.a<|aP.c ⟨0,0,0,0,0,[],[]⟩,bv I]) A rfl ?_
  rw[<-hQ];exact⟨_,_,A,⟨O,O⟩,O⟩
 cases b with
 |false=>
  simp only[u0,↓jN,a5C,↓iC,hz]
  exact E b6
 |true=>
 obtain⟨hF⟩:Nonempty (aSm c s):=⟨bl A⟩
 have bW:=hF
 obtain⟨_,f1,f2,f3,f4,f5⟩:=bW
 rcases h1:Q (t<0) with _|_
 rotate_left
 ·simp only[eQ,↓jN,a5C,↓iC,wY,hz,h1]
  exact E b6
 rcases h2:Q (t>=(L c.ay:Int)) with _|_
 rotate_left
 ·simp only[eQ,c1,J9,↓jA,↓iC,wY,hz,h1,h2]
  exact E b6
 simp only[aPs] at h1 h2
 have cF:aF (L c.ay) t:=⟨Z,Z⟩
 obtain⟨m,rfl⟩:∃m:Nat,t=m:=⟨t.toNat,Z⟩
 have hm:m<L c.ay:=Z
 obtain⟨p1,p2,p3⟩:=f5 m hm
 obtain⟨r1,r2,r3⟩:=hc.2.2 _<|dB hm
 have bU:=bqN h1
 have bV:=bqN h2
 have cb:(gd s.ay m).pc.toNat<L (gd c.ay m).boU:=by have:=p1.1;have:=p1.2;omega
 have aa:∀j∈bie (aQs c s m),aF (L (gd s.ay m).aPe) j/\aF (L (gd s.ay m).aO6) j:=λj hj=>by
  have:=r3 _ cb j hj
  exact⟨⟨this.1,Z⟩,⟨this.1,Z⟩⟩
 have b4:=f1
 obtain⟨_,_,_,ft⟩:=iY b4
 simp only[eQ,c1,rk,J9,↓jA,↓iB,bU,bV,ixv,bh]
 refine⟨vB,anu a5 λv8 s8 F8 N8 b8=>?_⟩
 have bL:=F8.kq c1
 have bQ:=F8.kq c2
 have bD:=F8.kq b6
 have a6:=F8.len.trans a5
 simp only[qz 12,qy 14,eT,bL,b8,J9,ixv,bh]
 refine⟨dJ hm,p1,zm a6 λv9 cM bx N9 bH=>?_⟩
 refine stW bH A rfl λs9 bz b9=>?_
 have F9:Fx s8 s9 []:=(bx.trans bz).mono aUw
 have bR:=F9.kq bQ
 have bE:=F9.kq bD
 have bG:=F9.kq b8
 have a7:=F9.len.trans a6
 simp only[qz 16,qy 18]
 refine dT (by simp[eL,lb,aNG,dC,dK,sl,aRV.c]) ?_
 generalize hi:gd (gd c.ay m).boU (gd s.ay m).pc.toNat=i at*
 have b5:aQs c s m=i:=by simp[aQs,hi]
 rw[b5] at aa
 have b3:bM bti aP0 [(0,iv m),(4,iv i.site)]=V (.a [iv m,iv 0,iv 0,iv 0,iv i.site, .l [] U U, .l [] U U]):=A
 simp only[eS,b9,J9,b3]
 refine anu a7 λah cK ab cC ac=>?_
 have W:=ab.kq bR
 have R:=ab.kq bE
 have aC:=ab.kq bG
 have D:=ab.kq b9
 have bn:=ab.len.trans a7
 have aD:∀{x:ae} {k o u:Int} {d f:AV} {ds fs:eu},box x (6,v6)=V ⟨71,7,U,U,[bti]⟩->J7 x 3 1 d (ds.map ci)->J7 x 3 1 f (fs.map ci)->(∀q∈aA d++aA f,q.1≠6)->L ds<=1000->L fs<=1000->PK k i->sV (aK 7 x (.p (6,v6) 0 0)<|.a [iv m,iv k,iv o,iv 0,iv u,d,f]) λy=>rV (sA (V 7) y<|.p (6,v6) 0 0) λt=>aE (λr=>Qq<|bqE r) y [t,bv U]:=λ{x k o u d f ds fs} G bT w hq l1 l2 hk=>by
  refine stW G A rfl λs7 F7 b7=>?_
  rw[aEa b7 A]
  have e1:=aBr (bT.fx F7 λq h e=>X)
  have e2:=aBr (w.fx F7 λq h e=>X)
  refine aOH (vs':=[.a<|aP.c ⟨m,k,o,0,u,ds,fs⟩,bv U]) (by simp only[ji,mU,fzT,aWt,e1,e2];rfl) (by simp[iX,aP.c,eN,sl]) ?_
  rw[<-hQ];exact⟨_,_,A,⟨l1,l2⟩,vB⟩
 have a4:∀{x:ae} {l:List (eu)} {j:Int} {K:J3},rV (cz 1 x (sl cl l)<|iv j) K=(aF (L l) j/\K (.q<|cl<|gd l j.toNat)):=aBz λ_=>A
 have a8:∀{x:ae} {l:eu},sA J x (.q<|cl l)=V (sl ci l):=A
 have a3:∀t∈(gd s.ay m).aPe,Tn t:=(hs.th _<|dB Z).2.2.1
 have nil:∀{x:ae},J7 x 3 1 (.l [] U U) (([]:eu).map ci):=λ{x}=> .inl ⟨A,A⟩
 have ag:aF (L s.eB.ay) (m:Int):=by rw[ft,<-hc.2.1];omega
 rcases q1:Q ((gd s.eB.ay m).cQ=1) with _|_
 rotate_left
 ·have b0:bM bti aP0 [(0,iv m),(1,iv 1),(2,iv<|-1),(4,iv<|-1)]=V (.a [iv m,iv 1,iv<|-1,iv 0,iv<|-1, .l [] U U, .l [] U U]):=A
  simp only[qz 20,qy 22,qy 30,fD,W,D,J9,bh,q1,↓iC,b0]
  refine⟨ag,?_⟩
  exact aD R nil nil aBY O O (by simp[PK])
 rcases q2:Q ((gd s.eB.ay m).cQ=4) with _|_
 rotate_left
 ·simp only[qz 20,qy 22,qy 30,fD,W,D,ac,J9,bh,q1,q2,↓iC,↓iB]
  refine⟨ag,ag,?_⟩
  refine A0 ac A O λcg M ad=>?_
  have am:=M.kq R
  simp only[qz 24,eS,ad]
  refine A0 ad A O λB N v=>?_
  have C:=N.kq am
  simp only[qz 26,qy 28]
  refine dT (by simp[eL,lb,aNG,dC,dK,sl,aoC.c]) ?_
  simp only[eQ,v,List.set_cons_succ,RY,k7]
  exact aD C nil nil aBY O O (by simp[PK])
 rcases q3:Q ((gd s.eB.ay m).cQ=2) with _|_
 ·simp only[qz 20,qy 22,qy 30,eT,W,D,ac,J9,ix,bh,q1,q2,q3,↓iB,hz]
  exact⟨ag,E R⟩
 simp only[qz 20,qy 22,qy 30,eT,W,aC,D,ac,J9,ix,o0,aWm,rr,bh,q1,q2,q3,↓iC,↓iB]
 refine⟨ag,λho=>(aa _ ?_).2,λo=>?_⟩
 ·obtain⟨op,a,b,k,n,st⟩:=i
  simp only at ho⊢
  obtain rfl|rfl:=ho<;>simp[bie]
 refine A0 ac A O λcg M ad=>?_
 have am:=M.kq R
 have bd:=M.kq aC
 have bf:=M.kq D
 simp only[qz 32,eS,ad]
 refine A0 ad A O λB N v=>?_
 have C:=N.kq am
 have S:=N.kq bd
 have T:=N.kq bf
 have aO:=(N.len.trans M.len).trans bn
 simp only[List.set_cons_succ,RY] at v
 rcases q4:Q (aPY i.op=0) with _|_
 rotate_left
 ·simp only[qz 34,qy 36,eS,v,k1,nM,ip,q4,↓iC,hz]
  exact E C
 simp only[qz 34,eS,v,k1,nM,ip,q4,↓iB]
 refine bsf (λg=>∀{x:ae} {d:AV} {ds:eu},L x=4096->box x (6,v6)=V ⟨71,7,U,U,[bti]⟩->box x (8,v8)=V ⟨277,4,U,U,[(gd s.ay m).c]⟩->box x (9,v9)=V ⟨290,6,U,U,[i.c]⟩->box x (10,ah)=V ⟨71,7,U,U,[[iv m,iv<|aPY i.op,iv o,iv 0,iv i.site,d, .l [] U U]]⟩->J7 x 3 1 d (ds.map ci)->(∀q∈aA d,q.1≠6/\q.1≠10)->L ds<=1000->g [] x) (λ{x d ds} cG G h8 h9 he g1 hq l1=>?_) λbB aL=>?_
 ·simp only[qz 123,aI]
  refine bpF (λg=>∀{x:ae} {d f:AV} {ds fs:eu},box x (6,v6)=V ⟨71,7,U,U,[bti]⟩->box x (10,ah)=V ⟨71,7,U,U,[[iv m,iv<|aPY i.op,iv o,iv 0,iv i.site,d,f]]⟩->J7 x 3 1 d (ds.map ci)->J7 x 3 1 f (fs.map ci)->(∀q∈aA d++aA f,q.1≠6)->L ds<=1000->L fs<=1000->g [] x) (λ{x d f ds fs} G he g1 g2 hq l1 l2=>?_) λa1 aM=>?_
  ·simp only[qz 153,qy 50,eQ,he,k7]
   exact aD G g1 g2 hq l1 l2 bdY
  have go:∀{y:ae} {f:AV} {fs:eu},Fx x y []->J7 y 3 1 f (fs.map ci)->(∀q∈aA f,bK x q/\q.1=132)->L fs<=1000->sV (aK 1 y (.p (10,ah) 0 6) f) λs=>a1 [] s:=λ{y f fs} F w hf lf=>by
   refine A0 (F.kq he) w.ce O λs2 F2 b2=>?_
   refine aM (F2.kq<|F.kq G) b2 ((g1.fx F O).fx F2 λq h e=>?_) (w.fx F2 λq h e=>?_) (λq h=>?_) l1 lf
   ·simp at e;subst e;exact(hq _ h).2 A
   ·simp at e;subst e;have:=(hf _ h).2;simp at this
   ·obtain h|h:=dF.1 h
    ·exact(hq q h).1
    ·rw[(hf q h).2];decide
  have dn:(Q (i.op=8)||Q (i.op=9)||Q (i.op=26))=I->a1 [] x:=λ_=>aM G he g1 nil (λq h=>by
   obtain h|h:=dF.1 h
   ·exact(hq q h).1
   ·simp[aA] at h) l1 O
  have up:(Q (i.op=8)||Q (i.op=9)||Q (i.op=26))=U->∀{K:be},(∀(f:AV) (y:ae) (fs:eu),Fx x y []->J7 y 3 1 f (fs.map ci)->(∀q∈aA f,bK x q/\q.1=132)->L fs<=1000->K f y)->rV (cz 1 x (sl cl (gd s.ay m).aPe)<|iv i.b) λbs=>rV (sA J x bs) λbt=>eV (apA 3 fB 8 x 132 (.l [] U U) bt) K:=λho {K} hK=>by
   have hr:=aa i.b (by
    obtain⟨op,a,b,k,n,st⟩:=i
    simp only[fH,awG] at ho⊢
    obtain(rfl|rfl)|rfl:=ho<;>simp[bie])
   rw[a4]
   refine⟨hr.1,?_⟩
   simp only[a8,aY]
   have hT:=a3 _<|dB (l:=(gd s.ay m).aPe) (k:=i.b.toNat)<|be7 hr.1.1 hr.1.2
   refine apV (bA:=[]) (e:=3) (z:=1) (.inl ⟨A,A⟩) A rfl H Z O fF (by simp;have:=hT.len;omega) λf y w F P=>?_
   exact hK f y _ (F.mono aBY) w (λq h=>(P q h).elim (λh=>by simp[aA] at h) id) hT.len
  rcases z1:Q (i.op=8) with _|_<;>rcases z2:Q (i.op=9) with _|_<;>rcases z3:Q (i.op=26) with _|_<;>simp only[z1,z2,z3,wY,kz] at up dn<;>simp only[qz 155,eS,h9,he,h8,z1,z2,z3,J9,k1,↓jA,↓jN,a5C,↓iC,↓iB,wY]
  all_goals first|exact dn A|exact dn trivial|(refine up trivial λf y fs F w P l=>?_;simp only[qz 46,qy 48,eS,F.kq he];exact go F w P l)
 simp only[qz 125,eS,T,v,S,J9,k1]
 have a2:∀{y:ae} {f:AV} {fs:eu} {pl:Nat},Fx B y []->J7 y 3 1 f (fs.map ci)->(∀q∈aA f,bK B q/\q.1=pl)->pl≠10->pl≠6->L fs<=1000->sV (aK 1 y (.p (10,ah) 0 5) f) λs2=>bB [] s2:=λ{y f fs pl} F w hf hp cH lf=>by
  refine A0 (F.kq v) w.ce O λs2 F2 b2=>?_
  have ax:∀{q:Id} {z:bY},q≠(10,ah)->box B q=V z->box s2 q=V z:=λh hz=>F2.keep _ _ (by simpa using h)<|F.kq hz
  exact aL ((F2.len.trans F.len).trans aO) (ax O C) (ax O S) (ax O T) b2 (w.fx F2 λq h e=>by simp at e;subst e;exact hp (hf _ h).2.symm) (λq h=>by rw[(hf q h).2];omega) lf
 have az:∀{j:Int} {pl:Nat} {K:be},j∈bie i->pl<4096->(∀(f:AV) (y:ae) (fs:eu),Fx B y []->J7 y 3 1 f (fs.map ci)->(∀q∈aA f,bK B q/\q.1=pl)->L fs<=1000->K f y)->rV (cz 1 B (sl cl (gd s.ay m).aPe)<|iv j) λbu=>rV (sA J B bu) λbw=>eV (apA 3 fB 8 B pl (.l [] U U) bw) K:=λ{j pl K} hj cI hK=>by
  have hr:=aa j hj
  rw[a4]
  refine⟨hr.1,?_⟩
  simp only[a8,aY]
  have hT:=a3 _<|dB (l:=(gd s.ay m).aPe) (k:=j.toNat)<|be7 hr.1.1 hr.1.2
  refine apV (bA:=[]) (e:=3) (z:=1) (.inl ⟨A,A⟩) A rfl H Z O fF (by simp;have:=hT.len;omega) λf y w F P=>?_
  exact hK f y _ (F.mono aBY) w (λq h=>(P q h).elim (λh=>by simp[aA] at h) id) hT.len
 refine⟨λho=>?_,λho=>?_⟩
 ·have a9:=aNQ ho
  refine az (j:=i.a) (pl:=96) (by obtain⟨op,a,b,k,n,st⟩:=i;simp only at a9⊢;subst a9;simp[bie]) H λf y fs F w P lf=>?_
  simp only[qz 38,qy 40,eS,F.kq v]
  exact a2 F w P H H lf
 ·have bS:=aL aO C S T v nil aBY O
  refine bs6 (λg=>(i.op=7\/i.op=9->g [bv U])/\g [bv I]) ⟨λh=>?_,?_⟩ λg aq=>?_
  ·simp only[qz 141,au,aI]
   simp only[eS,T,v,S,J9,k1,↓iC]
   refine az (j:=i.k) (pl:=109) (by obtain⟨op,a,b,k,n,st⟩:=i;simp only at h⊢;obtain rfl|rfl:=h<;>simp[bie]) H λf y fs F w P lf=>?_
   simp only[qz 42,qy 44,eS,F.kq v]
   exact a2 F w P H H lf
  ·simp only[qz 141,au,aI,↓iB]
   exact bS
  rcases z1:Q (i.op=7) with _|_<;>rcases z2:Q (i.op=9) with _|_<;>simp only[qz 143,eQ,z1,z2,↓iC,↓iB]
  ·exact aq.2
  ·exact aq.1 (.inr<|aNQ z2)
  ·exact aq.1 (.inl<|aNQ z1)
  ·exact aq.1 (.inl<|aNQ z1)
def aUh:FT:=vn aXq
def bb8:=zZ aUh aXq (j:=bsg)
def aYe:dO:=(264,aUh)::a7G
def a7p:eJ aYe:=asq (By aXq)<|a7o
def aWn:=ai @bb8<|@aWm
section
attribute[local irreducible] aX
def a5I:=I9 39 [(15,([16],[3,4,5,6,7,9,14,15])),(17,([78],[3,4,5,6,7,9,14,15,16,77])),(30,([],[3,4,5,6,7,9,14,16])),(35,([],[4,5,6,7,9,14]))]
def aVk b c a d R:=(.mk _:NR aYe a5I Tryz.f205 [.u, .u, .u] [b,c,a] d R).p
def bhk{c0:dM}{b:dM}{c:dM}{R:J3}(l0:L c0=7)(l1:L b=7)(d:L c=2)(h:H3 150 7 3 c0 145 7 4 b 113 2 5 c λf g i e=>aVk f g i e R):Ct 205 [.a c0, .a b, .a c] R:=z3 a5I a7p func205 l0 l1 d h
end
def bg(s:aTo)(t:Int):Prop:=aF (L s.count) t/\1<=gd s.count t.toNat
structure StI(w:aOw)(s:aTo)(j:Nat):Prop where
 r:0<=(gd s.eB.ay j).cQ/\(gd s.eB.ay j).cQ<=5
 fr:((gd s.eB.ay j).cQ=0\/(gd s.eB.ay j).cQ=1)↔gd s.count j=0
 z:j=0->(gd s.eB.ay j).cQ≠0
 wt:((gd s.eB.ay j).cQ=3\/(gd s.eB.ay j).cQ=4)->aF (L w.bC) (gd s.eB.ay j).cond/\(gd s.eB.ak (gd w.bC (gd s.eB.ay j).cond.toNat).eg.toNat).aPo≠j
 nw:¬((gd s.eB.ay j).cQ=3\/(gd s.eB.ay j).cQ=4)->(gd s.eB.ay j).cond=0
 at':(gd s.eB.ay j).atomic=U->bg s j
structure LcI(w:aOw)(s:aTo)(j:Nat):Prop where
 ow:(gd s.eB.ak j).aPo≠-1->bg s (gd s.eB.ak j).aPo
 rd:(gd s.eB.ak j).bk≠[]->(gd w.ak j).rw=U/\(gd s.eB.ak j).aPo= -1
 rb:∀x∈(gd s.eB.ak j).bk,bg s x
 inc:jC (gd s.eB.ak j).bk
structure SI(w:aOw)(s:aTo)(n:Nat):Prop where
 fit:fN w s=U
 c0:∀c∈s.count,0<=c
 sum:s.count.sum=n
 st:∀j,j<L s.eB.ay->StI w s j
 lk:∀j,j<L s.eB.ak->LcI w s j
 tx:s.eB.tx≠-1->bg s s.eB.tx
 fu:∀j,j<L s.bU->gd s.eB.done j=I->gd s.bU j=0
theorem gdS{α}[Inhabited α]{l}{i j:Nat}{x:α}:gd (l.set i x) j=if i=j/\j<L l then x else gd l j:=by grind [gd]
theorem aTf{α}[Inhabited α]{l i j}{x:α}(h:i≠j):gd (l.set i x) j=gd l j:=by grind [gdS]
theorem aTe{α}[Inhabited α]{l:List α}{i:Nat}{x}(h:i<L l):gd (l.set i x) i=x:=by grind [gdS]
structure Mk(s s':aW):Prop where
 lk:s'.ak=s.ak
 tx:s'.tx=s.tx
 dn:s'.done=s.done
 len:L s'.ay=L s.ay
 th:∀j,gd s'.ay j=gd s.ay j\/((gd s.ay j).cQ=3/\gd s'.ay j={gd s.ay j with cQ:=4})
theorem Mk.refl(s):Mk s s:=⟨A,A,A,A,λ_=> .inl A⟩
def aYj{s}{c u:Int}(h:u∈fO s c):aF (L s.ay) u/\(gd s.ay u.toNat).cQ=3/\(gd s.ay u.toNat).cond=c:=by unfold fO eh at h;simp only[dN,jW,fq] at h;obtain⟨i,⟨b,a⟩,rfl⟩:=h;simp only[pe,bN,awG] at a;refine⟨⟨Z,Z⟩,?_⟩;grind
theorem Mk.one{s s'}(h:Mk s s'){u}(a:(gd s.ay u.toNat).cQ=3):Mk s (aNU s' u {fA s' u with cQ:=4}):=by refine⟨h.lk,h.tx,h.dn,by simp[aNU,h.len],λj=>?_⟩;simp only[aNU,fA,gdS];grind [Mk.th]
def Mk.fold{s}:∀(l:eu) {s'},Mk s s'->(∀u∈l,(gd s.ay u.toNat).cQ=3)->Mk s (l.foldl (λs u=>aNU s u {fA s u with cQ:=4}) s')|[],_,h,_=>h|u::l,_,h,a=>Mk.fold l (h.one<|a u O) vB
theorem bhI{s eI lD}(h:fO s eI≠[]):(gd s.ay (tD s eI lD).toNat).cQ=3:=by unfold tD;split;rename_i b;exact(aYj b).2.1;cases d:fO s eI with|nil=>simp_all|cons a l=>exact(aYj (c:=eI)<|by grind [gd]).2.1
theorem a6V{w s t eI lD}:Mk s (cU w s t 18 eI lD).1:=by simp only[cU];grind [Mk.one,Mk.refl,bhI]
theorem a6W{w s t eI lD}:Mk s (cU w s t 19 eI lD).1:=by simp only[cU];simp only[show¬(19:Int)=1 by decide,show¬(19:Int)=2 by decide,show¬((19:Int)=6\/(19:Int)=10) by decide,show¬((19:Int)=7\/(19:Int)=11) by decide,show¬(19:Int)=8 by decide,show¬(19:Int)=9 by decide,show¬(19:Int)=12 by decide,show¬(19:Int)=13 by decide,show¬(19:Int)=14 by decide,show¬(19:Int)=15 by decide,show¬(19:Int)=16 by decide,show¬(19:Int)=17 by decide,show¬(19:Int)=18 by decide,btd,a6F];exact Mk.fold _ (Mk.refl s) (λu a=>(aYj a).2.1)
section
variable{w:aOw}{s s':aTo}{t:Nat}
structure Ct1(s s':aTo)(t:Nat):Prop where
 lt:t<L s.count
 e:s'.count=s.count.set t (gd s.count t+1)
 p:0<=gd s.count t
theorem Ct1.len(h:Ct1 s s' t):L s'.count=L s.count:=by rw[h.e];simp
def Ct1.at(h:Ct1 s s' t):gd s'.count t=gd s.count t+1:=by rw[h.e,aTe h.lt]
theorem Ct1.ne(h:Ct1 s s' t){j}(a:j≠t):gd s'.count j=gd s.count j:=by rw[h.e,aTf<|Sa a]
theorem Ct1.bg(h:Ct1 s s' t){x}(a:Ab.bg s x):Ab.bg s' x:=by refine⟨by rw[h.len];exact a.1,?_⟩;by_cases e:x.toNat=t;rw[e,h.at];have:=h.p;omega;rw[h.ne e];exact a.2
theorem Ct1.own(h:Ct1 s s' t):Ab.bg s' (t:Int):=by refine⟨⟨Z,by rw[h.len];have:=h.lt;omega⟩,?_⟩;rw[bh,h.at];have:=h.p;omega
theorem StI.keep(c:Ct1 s s' t){j}(b:j≠t)(a:gd s'.eB.ay j=gd s.eB.ay j)(d:∀l,(gd s'.eB.ak l).aPo=(gd s.eB.ak l).aPo\/(gd s'.eB.ak l).aPo=t\/(gd s'.eB.ak l).aPo= -1)(h:StI w s j):StI w s' j:=by refine⟨by rw[a];exact h.r,by rw[a,c.ne b];exact h.fr,by rw[a];exact h.z,λhs=>?_,by rw[a];exact h.nw,by grind [Ct1.bg,StI.at']⟩;grind [StI.wt]
theorem StI.own(c:Ct1 s s' t){x}(e:gd s'.eB.ay t=x)(b:x.cQ=2\/x.cQ=5)(d:x.cond=0):StI w s' t:=by have a:=c.own;have:¬gd s'.count t=0:=(by rw[c.at];have:=c.p;omega);refine⟨X,X,X,X,vB,λ_=>a⟩
theorem LcI.keep(c:Ct1 s s' t){j}(a:gd s'.eB.ak j=gd s.eB.ak j)(h:LcI w s j):LcI w s' j:=⟨by grind [Ct1.bg,LcI.ow],by rw[a];exact h.rd,by grind [Ct1.bg,LcI.rb],by rw[a];exact h.inc⟩
end
def bfw{l}:∀{i:Nat} {x:Int},i<L l->(l.set i x).sum=l.sum-gd l i+x:=by induction l with|nil=>simp|cons a l b=>intro i x h;cases i with|zero=>simp[gd];omega|succ i=>grind [gd]
def aWu{l:eu}:(∀c∈l,0<=c)->∀i,gd l i<=l.sum/\0<=l.sum:=by induction l with|nil=>intro _ i;simp[gd]|cons a l b=>intro h i;have:=h a O;obtain⟨d,e⟩:=b vB<|i-1;grind [gd,Nat.add_sub_cancel]
section
variable{w:aOw}{s s':aTo}{t n:Nat}
theorem SI.next(h:SI w s n)(c:Ct1 s s' t)(a:fN w s'=U)(m:∀j,j<L s.eB.ay->StI w s' j)(l:∀j,j<L s.eB.ak->LcI w s' j)(g:L s'.eB.ay=L s.eB.ay)(i:L s'.eB.ak=L s.eB.ak)(k:s'.eB.tx=s.eB.tx\/s'.eB.tx=t\/s'.eB.tx= -1)(d:∀j,j<L s'.bU->gd s'.eB.done j=I->gd s'.bU j=0):SI w s' (n+1):=by refine⟨a,?_,?_,vB,vB,λb=>?_,d⟩;intro x b;rw[c.e] at b;obtain f|rfl:=CC b;exact h.c0 x f;have:=c.p;omega;rw[c.e,bfw c.lt,h.sum];omega;grind [Ct1.bg,SI.tx,Ct1.own]
theorem SI.mk1(h:SI w s n)(c:Ct1 s s' t)(a:fN w s'=U)(f:∀j,j≠t->gd s'.eB.ay j=gd s.eB.ay j)(b:L s'.eB.ay=L s.eB.ay)(e:L s'.eB.ak=L s.eB.ak)(k:StI w s' t)(m:∀l,(gd s'.eB.ak l).aPo=(gd s.eB.ak l).aPo\/(gd s'.eB.ak l).aPo=t\/(gd s'.eB.ak l).aPo= -1)(i:∀j,j<L s.eB.ak->LcI w s' j)(g:s'.eB.tx=s.eB.tx\/s'.eB.tx=t\/s'.eB.tx= -1)(d:∀j,j<L s'.bU->gd s'.eB.done j=I->gd s'.bU j=0):SI w s' (n+1):=by grind [SI.next,StI.keep,SI.st]
end
theorem a97{w s}{t k eI lD:Int}:L (cU w s t k eI lD).1.ak=L s.ak/\L (cU w s t k eI lD).1.done=L s.done/\L (cU w s t k eI lD).1.ay=L s.ay:=by by_cases a:k=18;grind [a6V,Mk.lk,Mk.dn,Mk.len];by_cases b:k=19;grind [a6W,Mk.lk,Mk.dn,Mk.len];unfold cU;by_cases q:k=1;grind [aNU,lC];rw[za q];clear q;by_cases q:k=2;grind [aNU,lC];rw[za q];clear q;by_cases q:k=6\/k=10;grind [aNU,lC];rw[za q];clear q;by_cases q:k=7\/k=11;grind [aNU,lC];rw[za q];clear q;by_cases q:k=8;grind [aNU,lC];grind [aNU,lC]
def bfb{w s e}(h:fN w s=U):fN w (oc w s e)=U:=by grind [a97,og,fN,lh,oc]
def bva{p:Prop}(h:p:=by grind [Go.Ab.cU,Go.Ab.lC]):p:=h
theorem SI.step{w s e}{n:Nat}(h:SI w s n)(hv:∀j,j<L w.bC->uh w j=I)(hn:n<100000)(W:bjf w s e=U):SI w (oc w s e) (n+1):=by
 simp only[bjf,eH,cP] at W
 obtain⟨b1,_,_,_,b5⟩:=W
 simp only[aOL,cP,fK,aPs] at b1
 obtain⟨⟨⟨⟨hf,ht⟩,k1⟩,k2⟩,he⟩:=b1
 have q:=bfb (e:=e) hf
 simp only[jm,bN] at he
 obtain⟨al,_,i,g⟩:=he
 obtain⟨f1,f2,f3,f4⟩:=iY al
 have G:=dX.1 ht
 have:L s.count=L w.ay:=buj
 have:L s.bU=L w.bU:=buj
 obtain⟨N,kd,eI,val,site,dI,ep⟩:=e
 simp only at ht G k1 k2 i g
 obtain⟨t,rfl⟩:∃t:Nat,N=t:=⟨N.toNat,by have:=G.1;omega⟩
 have:t<L w.ay:=by have:=G.2;omega
 have M:=h.st t Z
 have ag:0<=gd s.count t/\gd s.count t<=n:=by
  have E:=aWu h.c0 t
  rw[h.sum] at E
  exact⟨h.c0 _<|dB Z,E.1⟩
 have c:Ct1 s (oc w s ⟨t,kd,eI,val,site,dI,ep⟩) t:=⟨Z,by grind [oc,bh,eM],ag.1⟩
 have an:kd=1\/kd=2\/kd=3\/kd=4\/kd=5\/kd=6\/kd=7\/kd=8\/kd=9\/kd=10\/kd=11\/kd=12\/kd=13\/kd=14\/kd=15\/kd=16\/kd=17\/kd=18\/kd=19\/kd=20\/kd=21\/kd=22\/kd=23:=Z
 generalize hS:oc w s ⟨t,kd,eI,val,site,dI,ep⟩=S at*
 have ao:S.eB=(cU w s.eB t kd eI<|og ⟨t,kd,eI,val,site,dI,ep⟩).1:=by rw[<-hS];rfl
 have z:kd≠22->S.bU=s.bU:=(by grind [oc])
 have v:S.bU=s.bU->S.eB.done=s.eB.done->∀j,j<L S.bU->gd S.eB.done j=I->gd S.bU j=0:=(by grind [SI.fu])
 have K:S.eB.ak=s.eB.ak->∀j,j<L s.eB.ak->LcI w S j:=(by grind [LcI.keep,SI.lk])
 generalize og ⟨t,kd,eI,val,site,dI,ep⟩=wk at ao
 have:kd=22->S.bU=s.bU.set eI.toNat val:=(by grind [oc])
 clear hS
 have:Mk s.eB S.eB->kd≠22->(gd s.eB.ay t).cQ=2->SI w S (n+1):=λm a h2=>by
  refine h.next c q (λj B=>?_) (K m.lk) m.len (by rw[m.lk]) (.inl m.tx) (v (z a) m.dn)
  by_cases et:j=t
  ·grind [Mk.th,StI.own,StI.nw]
  ·have am:=h.st j B
   obtain E|⟨E,h3⟩:=m.th j
   ·grind [StI.keep,Mk.lk]
   ·have:=am.wt<|.inl E
    refine⟨vB,by grind [Ct1.ne,StI.fr],X,(by grind [Mk.lk]),vB,by grind [Ct1.bg,StI.at']⟩
 have:S.eB=s.eB->kd≠22->(gd s.eB.ay t).cQ=2->SI w S (n+1):=(by grind [SI.mk1,StI.own,StI.nw])
 have one:∀x:aoC,S.eB=aNU s.eB t x->kd≠22->x.cQ=2\/x.cQ=5->x.cond=0->SI w S (n+1):=λx b a h2 h3=>by
  refine h.mk1 c q (by grind [aNU,bh,aTf]) (by grind [aNU]) (by rw[b];rfl) (by grind [StI.own,aNU,bh,aTe]) (λl=> .inl<|by rw[b];rfl) (K<|by rw[b];rfl) (.inl<|by rw[b];rfl) (v (z a)<|by rw[b];rfl)
 have lock:∀(k:Nat) (x:cg),S.eB={s.eB with ak:=s.eB.ak.set k x}->kd≠22->(gd s.eB.ay t).cQ=2->(x.aPo=(gd s.eB.ak k).aPo\/x.aPo=t\/x.aPo= -1)->(x.bk≠[]->(gd w.ak k).rw=U/\x.aPo= -1)->(∀y∈x.bk,y=t\/y∈(gd s.eB.ak k).bk)->jC x.bk->k<L s.eB.ak->SI w S (n+1):=λk x b a h2 h3 h4 h5 h6 W=>by
  have D:∀j,gd S.eB.ak j=if k=j/\j<L s.eB.ak then x else gd s.eB.ak j:=(by grind [gdS])
  refine h.mk1 c q (λj _=>by rw[b]) (by rw[b]) (by rw[b];simp) (by grind [StI.own,StI.nw]) (λl=>?_) (λj B=>?_) (.inl<|by rw[b]) X
  ·grind
  ·by_cases C:k=j
   ·subst C
    have p:gd S.eB.ak k=x:=vB
    have l0:=h.lk k B
    refine⟨by grind [Ct1.bg,LcI.ow,Ct1.own],vB,by grind [Ct1.own,Ct1.bg,LcI.rb],vB⟩
   grind [LcI.keep,SI.lk]
 obtain rfl|rfl|rfl|rfl|rfl|rfl|rfl|rfl|rfl|rfl|rfl|rfl|rfl|rfl|rfl|rfl|rfl|rfl|rfl|rfl|rfl|rfl|rfl:=an
 all_goals simp[lc] at g
 ·exact one {gd s.eB.ay t with cQ:=2} (by grind [cU,fA]) H (.inl A) (M.nw Z)
 ·exact one {gd s.eB.ay t with cQ:=5} (by grind [cU,fA]) H (.inr A) (M.nw Z)
 ·grind [cU]
 ·grind [cU]
 ·grind [cU]
 ·
  have f:=mJ i H H
  have d:eI.toNat<L s.eB.ak:=by have:=f.1;have:=f.2;omega
  have l0:=h.lk _ d
  simp[named] at i
  exact lock eI.toNat {cH s.eB eI with aPo:=t} bva H g.1 (.inr<|.inl A) (λa=>by have:=(l0.rd a).1;grind) (λy o=> .inr o) l0.inc d
 ·have f:=mJ i H H
  have d:eI.toNat<L s.eB.ak:=by have:=f.1;have:=f.2;omega
  have l0:=h.lk _ d
  exact lock eI.toNat {cH s.eB eI with aPo:= -1} bva H g.1 (.inr<|.inr A) (λa=>⟨(l0.rd a).1,A⟩) (λy o=> .inr o) l0.inc d
 ·
  have f:=mJ i H H
  have d:eI.toNat<L s.eB.ak:=by have:=f.1;have:=f.2;omega
  have l0:=h.lk _ d
  simp[named] at i
  have e0:mP (cH s.eB eI).bk [(t:Int)]=fk (cH s.eB eI).bk t:=Ro l0.inc
  exact lock eI.toNat {cH s.eB eI with bk:=mP (cH s.eB eI).bk [(t:Int)]} bva H g.1 (.inl A) (λ_=>⟨i.2,g.2.1⟩) (λy o=>by rw[e0] at o;exact an1 o) (by rw[e0];exact Nz l0.inc) d
 ·
  have f:=mJ i H H
  have d:eI.toNat<L s.eB.ak:=by have:=f.1;have:=f.2;omega
  have l0:=h.lk _ d
  exact lock eI.toNat {cH s.eB eI with bk:=fJ (cH s.eB eI).bk t} bva H g.1 (.inl A) (λa=>l0.rd<|λe=>a<|by simp[cH,e,fJ]) (λy o=> .inr (jW.1 o).1) (amF.2<|(amF.1 l0.inc).filter _) d
 ·
  have f:=mJ i H H
  have d:eI.toNat<L s.eB.ak:=by have:=f.1;have:=f.2;omega
  have l0:=h.lk _ d
  exact lock eI.toNat {cH s.eB eI with aPo:=t} bva H g.1 (.inr<|.inl A) (λa=>aYx g.2.2 a) (λy o=> .inr o) l0.inc d
 ·have f:=mJ i H H
  have d:eI.toNat<L s.eB.ak:=by have:=f.1;have:=f.2;omega
  have l0:=h.lk _ d
  exact lock eI.toNat {cH s.eB eI with aPo:= -1} bva H g.1 (.inr<|.inr A) (λa=>⟨(l0.rd a).1,A⟩) (λy o=> .inr o) l0.inc d
 ·
  have b:S.eB={s.eB with tx:=(t:Int)}:=bte
  grind [SI.mk1,StI.own,StI.nw]
 ·have b:S.eB={s.eB with tx:= -1}:=bte
  grind [SI.mk1,StI.own,StI.nw]
 ·exact one {gd s.eB.ay t with atomic:=U} (by grind [cU,fA]) H (.inl g.1) (M.nw Z)
 ·exact one {gd s.eB.ay t with atomic:=I} (by grind [cU,fA]) H (.inl g.1) (M.nw Z)
 ·
  have f:=oT i H H
  have r:eI.toNat<L w.bC:=by have:=f.1;have:=f.2;omega
  have:=f1 _<|dB r
  have u:(gd w.bC eI.toNat).eg.toNat<L s.eB.ak:=Z
  have l0:=h.lk _ u
  generalize P:(gd w.bC eI.toNat).eg=m at*
  have b:S.eB=aNU (lC s.eB m {cH s.eB m with aPo:= -1}) t {fA s.eB t with cQ:=3,cond:=eI}:=bte
  have D:∀j,gd S.eB.ak j=if m.toNat=j/\j<L s.eB.ak then{cH s.eB m with aPo:= -1} else gd s.eB.ak j:=λj=>by rw[b];exact gdS
  have R:gd S.eB.ay t={fA s.eB t with cQ:=3,cond:=eI}:=by grind [aNU,bh,aTe,lC]
  refine h.mk1 c q (by grind [aNU,bh,lC,aTf]) (by grind [aNU,lC]) (by grind [aNU,lC]) ?_ (λl=>?_) (λj B=>?_) (.inl<|by rw[b];rfl) (v (z H)<|by rw[b];rfl)
  ·have:=c.at
   refine⟨X,X,X,λ_=>?_,X,λ_=>c.own⟩
   rw[R]
   refine⟨f,?_⟩
   simp only[P]
   rw[D,zg ⟨A,u⟩]
   simp only;omega
  ·grind
  ·by_cases C:m.toNat=j
   ·subst C
    have p:=D m.toNat
    rw[zg ⟨A,u⟩] at p
    exact⟨X,by rw[p];exactλa=>⟨(l0.rd a).1,A⟩,by rw[p];exactλy o=>c.bg<|l0.rb y o,by rw[p];exact l0.inc⟩
   grind [LcI.keep,SI.lk]
 ·
  have f:=oT i H H
  have r:eI.toNat<L w.bC:=by have:=f.1;have:=f.2;omega
  have:=f1 _<|dB r
  have F:=hv _ r
  have u:(gd w.bC eI.toNat).eg.toNat<L s.eB.ak:=Z
  have l0:=h.lk _ u
  simp only[uh,cP] at F
  have:=F.2
  clear F
  generalize P:(gd w.bC eI.toNat).eg=m at*
  have b:S.eB=aNU (lC s.eB m {cH s.eB m with aPo:=t}) t {fA s.eB t with cQ:=2,cond:=0}:=bte
  have D:∀j,gd S.eB.ak j=if m.toNat=j/\j<L s.eB.ak then{cH s.eB m with aPo:=(t:Int)} else gd s.eB.ak j:=λj=>by rw[b];exact gdS
  have R:gd S.eB.ay t={fA s.eB t with cQ:=2,cond:=0}:=by grind [aNU,bh,aTe,lC]
  refine h.mk1 c q (by grind [aNU,bh,lC,aTf]) (by grind [aNU,lC]) (by grind [aNU,lC]) (StI.own c R (.inl A) A) (λl=>?_) (λj B=>?_) (.inl<|by rw[b];rfl) (v (z H)<|by rw[b];rfl)
  ·grind
  ·by_cases C:m.toNat=j
   ·subst C
    have p:=D m.toNat
    rw[zg ⟨A,u⟩] at p
    exact⟨by grind [Ct1.own],by rw[p];exactλa=>aYx (l0.rd a).1 vB,by rw[p];exactλy o=>c.bg<|l0.rb y o,by rw[p];exact l0.inc⟩
   grind [LcI.keep,SI.lk]
 ·grind [a6V]
 ·grind [a6W]
 ·
  have r:=Eb i H H
  have:eI.toNat<L w.ay:=by have:=r.1;have:=r.2;omega
  have:eI.toNat≠t:=X
  have T:=h.st eI.toNat Z
  have b:S.eB=aNU s.eB eI {fA s.eB eI with cQ:=1}:=bte
  have D:∀j,gd S.eB.ay j=if eI.toNat=j/\j<L s.eB.ay then{fA s.eB eI with cQ:=1} else gd s.eB.ay j:=λj=>by rw[b];exact gdS
  refine h.next c q (λj B=>?_) (K<|by rw[b];rfl) (by grind [aNU]) (by rw[b];rfl) (.inl<|by rw[b];rfl) (v (z H)<|by rw[b];rfl)
  by_cases C:eI.toNat=j
  ·subst C
   have p:=D eI.toNat
   rw[zg ⟨A,B⟩] at p
   have:=T.fr.1<|.inl g.2.2
   refine⟨X,by grind [Ct1.ne],X,X,by rw[p];intro _;exact T.nw Z,by rw[p];exactλha=>c.bg<|T.at' ha⟩
  ·by_cases et:j=t
   ·grind [StI.own,StI.nw]
   ·exact StI.keep c et X (λl=> .inl<|by rw[b];rfl) (h.st j B)
 ·grind [cU]
 ·
  have:S.eB={s.eB with done:=s.eB.done.set eI.toNat U}:=bte
  grind [SI.mk1,StI.own,StI.nw,gdS,SI.fu]
 grind [cU]
structure PB(x:ae)(v6 v7:Nat)(c:bit)(ch:ot):Prop where
 hl:L x=4096
 b1:box x (3,1)=V ⟨150,7,U,U,[c.c]⟩
 b3:box x (5,1)=V ⟨113,2,U,U,[ch.c]⟩
 b6:box x (6,v6)=V ⟨145,7,U,U,[bsF]⟩
 b7:box x (7,v7)=V ⟨71,7,U,U,[bti]⟩
theorem PB.kx{x y v6 v7 c ch ks}(P:PB x v6 v7 c ch)(F:Kx ks x y)(h:3∉ks/\5∉ks/\6∉ks/\7∉ks):PB y v6 v7 c ch:=⟨F.len.trans P.hl,F.keep _ _ h.1 P.b1,F.keep _ _ h.2.1 P.b3,F.keep _ _ h.2.2.1 P.b6,F.keep _ _ h.2.2.2 P.b7⟩
theorem PB.fx{x y v6 v7 c ch Lw}(P:PB x v6 v7 c ch)(F:Fx x y Lw)(h:∀q∈Lw,q.1≠3/\q.1≠5/\q.1≠6/\q.1≠7):PB y v6 v7 c ch:=⟨F.len.trans P.hl,(by grind [Fx.keep,PB.b1]),(by grind [Fx.keep,PB.b3]),(by grind [Fx.keep,PB.b6]),by grind [Fx.keep,PB.b7]⟩
section
variable{pl:Nat×Nat×Nat}{x:ae}{a:AV}{f:Nat->AV×AV}{ss:List bim}{n u:Nat}
def TTs.ix(T:TTs pl I x a f ss n)(h:u<n){K}(g:∀b,a= .m b n->box x b=V ⟨277,4,U,U,alx f ss n⟩->K (.p b u 0)):rV (cz 4 x a<|iv u) K:=by obtain⟨j,_⟩|⟨b,rfl,_,d⟩:=T.bx;omega;have:cz 4 x (.m b n) (iv u)=V (.p b u 0):=(by simp[cz,d,h]);rw[this];exact g b A d
def be4{b e z o v}(d:box x b=V ⟨e,z,o,v,alx f ss n⟩)(g:u<n):sA (V 4) x (.p b u 0)=V (.a [iv (gd ss u).pc,(f u).1,(f u).2,iv (gd ss u).ac]):=by simp only[sA,iE,d,a6X,aTy g];rfl
theorem a7b{s}(b:s.pc=(gd ss u).pc)(d:s.ac=(gd ss u).ac):alx f (ss.set u s) n=alx f ss n:=by grind [alx,gdS]
theorem bfD(T:TTs pl I x a f ss n)(z:u<n)(N:n<=L ss){m:Nat}(M:m<L (gd ss u).aO6){v:Int}{K:be}(E:pl.1≠pl.2.1/\pl.1≠pl.2.2)(D:∀p y,TTs pl I y a f (ss.set u {gd ss u with aO6:=(gd ss u).aO6.set m v}) n->Fx x y (aA (f u).1)->K p y):rV (cz 1 x (f u).1<|iv m) λp=>sV (aK 1 x p<|iv v) (K p):=ixG (T.g1 u z) bt2 λd m1 j t=>by rw[bh];have:=T.p1 u z d bno;refine aQz (x:=iv v) (r:=[iv<|gd (gd ss u).aO6 m]) t brU O A rfl rfl λy F o=>?_;have l:((gd ss u).aO6.map ci++m1).set m ([iv<|gd (gd ss u).aO6 m].set 0<|nrm<|eR x<|iv v)=((gd ss u).aO6.set m v).map ci++m1:=(by rw[List.set_append_left _ _ X,bsl];rfl);rw[l] at o;have:aA (f u).1=[d]:=(by rw[j];rfl);have w:∀k,k<n->k≠u->∀q∈aA (f k).1,q∉[d]:=(by grind [TTs.d1]);refine D _ y ⟨T.bx.elim .inl λ⟨b,B,C,G⟩=> .inr ⟨b,B,C,?_⟩,λk g=>?_,λk g=>?_,T.p1,T.p2,T.d1,T.d2⟩ vB;grind [a7b,Fx.keep];rw[gdS];by_cases e:u=k;subst e;rw[zg ⟨A,Z⟩];exact .inr ⟨d,m1,by rw[j];simp,o⟩;rw[za<|λh=>e h.1];exact(T.g1 k g).fx F<|w k g<|Sa e;rw[gdS];have:=(T.g2 k g).fx F (by grind [TTs.p2]);grind
theorem bfE(T:TTs pl I x a f ss n)(E:u<n)(W:n<=L ss){m:Nat}(C:m<L (gd ss u).aPe){l t o K}(P:pl.2.1≠pl.1/\pl.2.1≠pl.2.2)(N:∀y,TTs pl I y a f (ss.set u {gd ss u with aPe:=(gd ss u).aPe.set m l}) n->Fx x y (aA (f u).2)->K y):rV (cz 1 x (f u).2<|iv m) λp=>sV (aK 1 x p<|.l (l.map ci) t o) K:=by have v:J7 x 25 1 (f u).2 ((gd ss u).aPe.map cl):=T.g2 u E;refine ixG v bt2 λd m1 j B=>?_;rw[bh];have:=T.p2 u E d bno;refine aQz (x:= .l (l.map ci) t o) (r:=[sl ci<|gd (gd ss u).aPe m]) B (by rw[xe X,ve,eC C,aNV C];rfl) O A rfl rfl λy F z=>?_;have w:((gd ss u).aPe.map cl++m1).set m ([sl ci<|gd (gd ss u).aPe m].set 0<|nrm<|eR x<|.l (l.map ci) t o)=((gd ss u).aPe.set m l).map cl++m1:=(by rw[List.set_append_left _ _ X,bsl];rfl);rw[w] at z;have:aA (f u).2=[d]:=(by rw[j];rfl);have D:∀k,k<n->k≠u->∀q∈aA (f k).2,q∉[d]:=(by grind [TTs.d2]);refine N y ⟨T.bx.elim .inl λ⟨b,G,M,R⟩=> .inr ⟨b,G,M,?_⟩,λk g=>?_,λk g=>?_,T.p1,T.p2,T.d1,T.d2⟩ vB;grind [a7b,Fx.keep];rw[gdS];have:=(T.g1 k g).fx F (by grind [TTs.p1]);grind;rw[gdS];by_cases e:u=k;subst e;rw[zg ⟨A,Z⟩];show J7 y 25 1 (f u).2<|((gd ss u).aPe.set m l).map cl;exact .inr ⟨d,m1,by rw[j];simp,z⟩;rw[za<|λh=>e h.1];exact(T.g2 k g).fx F<|D k g<|Sa e
theorem bfC{b r s y}(T:TTs pl I y (.m b<|L ss) f ss<|L ss){e}{z:Nat}{o}(C:u<L ss)(t:box x b=V ⟨e,z,o,U,(alx f ss<|L ss).set u r⟩)(w:r.map (frN x)=s.c)(v:∀k,k<L ss->frN x (f k).1=sl ci (gd ss k).aO6/\frN x (f k).2=sl cl (gd ss k).aPe):fz x (.m b<|L ss)=sl bim.c (ss.set u s):=by have h:((alx f ss<|L ss).set u r).map (·.map (frN x))=(ss.set u s).map bim.c:=(by rw[bsl,bsl,w];congr 1;refine List.ext_getElem? λk=>?_;obtain d|d:=jj k<|L ss;rw[ve,aTy d,ve,eC d];obtain⟨l,p⟩:=v k d;simp only[df,ji,mU,l,p,aNV d];rfl;grind [aQ8]);have e:((alx f ss<|L ss).set u r).take (L ss)=(alx f ss<|L ss).set u r:=oB (by grind [aQ8]);have q:(((alx f ss<|L ss).set u r).all λr=>r.all λc=>eN<|frN x c)=U:=(by rw[dV];intro D j;rw[dV];intro c B;have g:=CA (f:=(·.map (frN x))) j;rw[h] at g;obtain⟨s,_,hs⟩:=dN.1 g;grind [CA,bim.c,eN,sl]);simp only[Ab.fz,dQ,t,e,q,a6F,h];rw[za H];rfl
theorem idb{b q:Id}{k}(h:q∈[b])(d:b.1=k):q.1=k:=vB
end
def aQc(t b:bim):Prop:=L t.aO6=L b.aO6/\L t.aPe=L b.aPe/\(∀l∈t.aPe,Tn l)/\t.pc=b.pc/\t.ac=b.ac
structure SK(ch:ot)(cc fu:AV)(v15 u:Nat)(s:bcW):Prop where
 pc:∀q∈aA cc,q.1=11
 pf:∀q∈aA fu,q.1=15/\q≠(15,v15)
 hu:u<L s.ay
 hch:ch.aq=u
structure SM(x:ae)(v6 v7 v9 v14 v15:Nat)(c:bit)(ch:ot)(S:aW)(fl:Bool×Bool×Bool×Bool×Bool×Bool)(cc fu ta:AV)(f:Nat->AV×AV)(u:Nat)(s:bcW)(e:aP)(i:aRV):Prop where
 P:PB x v6 v7 c ch
 b4:box x (4,1)=V ⟨145,7,U,U,[eD S fl++[cc,fu,ta]]⟩
 b9:∃v:Int,box x (9,v9)=V ⟨71,7,U,U,[({e with value:=v}:aP).c]⟩
 b14:box x (14,v14)=V ⟨277,4,U,U,[[iv (gd s.ay u).pc,(f u).1,(f u).2,iv (gd s.ay u).ac]]⟩
 b15:box x (15,v15)=V ⟨290,6,U,U,[i.c]⟩
 gc:∃l:eu,L l=L s.cells/\J7 x 2 1 cc (l.map ci)
 gf:∃l:eu,L l=L s.bU/\J7 x 2 1 fu (l.map ci)
 tt:∃ss:List bim,L ss=L s.ay/\TTs (12,31,33) I x ta f ss (L ss)/\∀k,k<L ss->aQc (gd ss k) (gd s.ay k)
section
variable{x:ae}{v6 v7 v9 v14 v15:Nat}{c:bit}{ch:ot}{S:aW}{fl:Bool×Bool×Bool×Bool×Bool×Bool}{cc fu ta:AV}{f:Nat->AV×AV}{u:Nat}{s:bcW}{e:aP}{i:aRV}{K:J3}{K2:be}{KS:ae->Prop}
theorem SM.to(M:SM x v6 v7 v9 v14 v15 c ch S fl cc fu ta f u s e i){y Lw}(F:Fx x y Lw)(h:∀q∈Lw,q.1≠3/\q.1≠4/\q.1≠5/\q.1≠6/\q.1≠7/\q.1≠14/\q≠(15,v15))(b:∃v:Int,box y (9,v9)=V ⟨71,7,U,U,[({e with value:=v}:aP).c]⟩)(d:∃l:eu,L l=L s.cells/\J7 y 2 1 cc (l.map ci))(g:∃l:eu,L l=L s.bU/\J7 y 2 1 fu (l.map ci))(j:∃ss:List bim,L ss=L s.ay/\TTs (12,31,33) I y ta f ss (L ss)/\∀k,k<L ss->aQc (gd ss k) (gd s.ay k)):SM y v6 v7 v9 v14 v15 c ch S fl cc fu ta f u s e i:=⟨M.P.fx F X,(by grind [Fx.keep,SM.b4]),b,(by grind [Fx.keep,SM.b14]),(by grind [Fx.keep,SM.b15]),d,g,j⟩
theorem SM.keep9(M:SM x v6 v7 v9 v14 v15 c ch S fl cc fu ta f u s e i){y Lw}(F:Fx x y Lw)(h:∀q∈Lw,q.1≠9):∃v:Int,box y (9,v9)=V ⟨71,7,U,U,[({e with value:=v}:aP).c]⟩:=by grind [SM.b9,Fx.keep]
theorem SM.keepC(M:SM x v6 v7 v9 v14 v15 c ch S fl cc fu ta f u s e i){y Lw}(F:Fx x y Lw)(h:∀q∈aA cc,q∉Lw):∃l:eu,L l=L s.cells/\J7 y 2 1 cc (l.map ci):=by grind [SM.gc,J7.fx]
theorem SM.keepF(M:SM x v6 v7 v9 v14 v15 c ch S fl cc fu ta f u s e i){y Lw}(F:Fx x y Lw)(h:∀q∈aA fu,q∉Lw):∃l:eu,L l=L s.bU/\J7 y 2 1 fu (l.map ci):=by grind [SM.gf,J7.fx]
theorem SM.keepT(M:SM x v6 v7 v9 v14 v15 c ch S fl cc fu ta f u s e i){y Lw}(F:Fx x y Lw)(h:∀q∈Lw,q.1≠12/\q.1≠31/\q.1≠33):∃ss:List bim,L ss=L s.ay/\TTs (12,31,33) I y ta f ss (L ss)/\∀k,k<L ss->aQc (gd ss k) (gd s.ay k):=by grind [SM.tt,TTs.fx]
theorem aX3(M:SM x v6 v7 v9 v14 v15 c ch S fl cc fu ta f u s e i)(C:SK ch cc fu v15 u s){v}(h:∀y,SM y v6 v7 v9 v14 v15 c ch S fl cc fu ta f u s e i->KS y):sV (aK 1 x (.p (9,v9) 0 3)<|iv v) KS:=by obtain⟨k,j⟩:=M.b9;refine A0 j A (by simp[aP.c]) λy F b=>h y (M.to F O ⟨v,b⟩ (M.keepC F λq d g=>?_) (M.keepF F λq d g=>?_)<|M.keepT F O);grind [SK.pc];have:=(C.pf q d).1;simp_all
theorem aTu{e a}{l:eu}(g:J7 x e 1 a<|l.map ci){o:Int}(b:aF (L l) o)(d:∀v:Int,K<|iv v):rV (cz 1 x a<|iv o) λp=>rV (sA J x p) K:=by obtain⟨m,rfl⟩:∃m:Nat,o=m:=⟨o.toNat,by have:=b.1;omega⟩;have:m<L l:=(aYF b.2);refine(SlR.of g).ix1 (c:=iv<|gd l m) brU (K:=λ_=>K) λ_ _=>d _
theorem bfe(M:SM x v6 v7 v9 v14 v15 c ch S fl cc fu ta f u s e i){o:Int}(h:aF (L s.cells) o)(b:∀v:Int,K<|iv v):rV (cz 1 x cc<|iv o) λp=>rV (sA J x p) K:=by obtain⟨l,d,g⟩:=M.gc;exact aTu g vB b
theorem bff(M:SM x v6 v7 v9 v14 v15 c ch S fl cc fu ta f u s e i){o:Int}(h:aF (L s.bU) o)(b:∀v:Int,K<|iv v):rV (cz 1 x fu<|iv o) λp=>rV (sA J x p) K:=by obtain⟨l,d,g⟩:=M.gf;exact aTu g vB b
def aX2(M:SM x v6 v7 v9 v14 v15 c ch S fl cc fu ta f u s e i)(C:SK ch cc fu v15 u s){o:Int}(j:aF (L (gd s.ay u).aO6) o)(h:∀v:Int,K<|iv v):rV (cz 1 x (f u).1<|iv o) λp=>rV (sA J x p) K:=by obtain⟨ss,d,T,g⟩:=M.tt;have b:u<L ss:=(by rw[d];exact C.hu);exact aTu (T.g1 u b) (by rwa [(g u b).1]) h
theorem aR5{e a}{l:eu}(g:J7 x e 1 a<|l.map ci){o v:Int}(j:aF (L l) o)(k:∀p y,Fx x y (aA a)->J7 y e 1 a ((l.set o.toNat v).map ci)->K2 p y):rV (cz 1 x a<|iv o) λp=>sV (aK 1 x p<|iv v) (K2 p):=ixG g X λb m q t=>by have:o.toNat<L l:=(be7 j.1 j.2);refine aQz (x:=iv v) (r:=[iv<|gd l o.toNat]) t brU O A rfl rfl λy F h=>?_;have d:(l.map ci++m).set o.toNat ([iv<|gd l o.toNat].set 0<|nrm<|eR x<|iv v)=(l.set o.toNat v).map ci++m:=(by rw[List.set_append_left _ _ X,bsl];rfl);rw[d] at h;exact k _ y bno (.inr ⟨b,m,by rw[q];simp,h⟩)
theorem bfg(M:SM x v6 v7 v9 v14 v15 c ch S fl cc fu ta f u s e i)(C:SK ch cc fu v15 u s){o v:Int}(m:aF (L s.cells) o)(d:∀p y,SM y v6 v7 v9 v14 v15 c ch S fl cc fu ta f u s e i->K2 p y):rV (cz 1 x cc<|iv o) λp=>sV (aK 1 x p<|iv v) (K2 p):=by obtain⟨l,k,g⟩:=M.gc;refine aR5 g vB λp y F j=>d p y (M.to F (λq b=>?_) (M.keep9 F λq b=>?_) X (M.keepF F λq b h=>?_)<|M.keepT F λq b=>?_);grind [SK.pc];grind [SK.pc];have:=(C.pf q b).1;grind [SK.pc];grind [SK.pc]
theorem bfh(M:SM x v6 v7 v9 v14 v15 c ch S fl cc fu ta f u s e i)(C:SK ch cc fu v15 u s){o v:Int}(m:aF (L s.bU) o)(h:∀p y,SM y v6 v7 v9 v14 v15 c ch S fl cc fu ta f u s e i->K2 p y):rV (cz 1 x fu<|iv o) λp=>sV (aK 1 x p<|iv v) (K2 p):=by obtain⟨l,k,g⟩:=M.gf;refine aR5 g vB λp y F j=>h p y (M.to F (λq b=>?_) (M.keep9 F λq b=>?_) (M.keepC F λq b d=>?_) X<|M.keepT F λq b=>?_);grind [SK.pf];have:=(C.pf q b).1;omega;have:=(C.pf q d).1;grind [SK.pc];have:=(C.pf q b).1;omega
theorem a7e{ss t}(b:∀k,k<L ss->aQc (gd ss k) (gd s.ay k))(d:aQc t<|gd s.ay u):∀k,k<L (ss.set u t)->aQc (gd (ss.set u t) k) (gd s.ay k):=(by grind [gdS])
theorem bfi(M:SM x v6 v7 v9 v14 v15 c ch S fl cc fu ta f u s e i)(C:SK ch cc fu v15 u s){o v:Int}(k:aF (L (gd s.ay u).aO6) o)(r:∀p y,SM y v6 v7 v9 v14 v15 c ch S fl cc fu ta f u s e i->K2 p y):rV (cz 1 x (f u).1<|iv o) λp=>sV (aK 1 x p<|iv v) (K2 p):=by obtain⟨ss,l,T,j⟩:=M.tt;have b:u<L ss:=(by rw[l];exact C.hu);obtain⟨m,rfl⟩:∃m:Nat,o=m:=⟨o.toNat,by have:=k.1;omega⟩;have g:=j u b;refine bfD T b (dA _) (by rw[g.1];have:=k.2;omega) H λp y t F=>r p y (M.to F (λq d=>?_) (M.keep9 F λq d=>?_) (M.keepC F λq d h=>?_) (M.keepF F λq d h=>?_) ⟨ss.set u {gd ss u with aO6:=(gd ss u).aO6.set m v},X,vB,a7e j ⟨by simpa using g.1,g.2.1,g.2.2.1,g.2.2.2⟩⟩);have:=T.p1 u b q d;grind;have:=T.p1 u b q d;omega;have:=T.p1 u b q h;grind [SK.pc];have:=T.p1 u b q h;have:=(C.pf q d).1;omega
theorem bfj(M:SM x v6 v7 v9 v14 v15 c ch S fl cc fu ta f u s e i)(C:SK ch cc fu v15 u s){o:Int}{l t b}(E:Tn l)(r:aF (L (gd s.ay u).aPe) o)(w:∀y,SM y v6 v7 v9 v14 v15 c ch S fl cc fu ta f u s e i->KS y):rV (cz 1 x (f u).2<|iv o) λp=>sV (aK 1 x p<|.l (l.map ci) t b) KS:=by obtain⟨ss,v,T,k⟩:=M.tt;have d:u<L ss:=(by rw[v];exact C.hu);obtain⟨m,rfl⟩:∃m:Nat,o=m:=⟨o.toNat,by have:=r.1;omega⟩;have h:=k u d;refine bfE T d (dA _) (by rw[h.2.1];have:=r.2;omega) H λy D F=>w y (M.to F (λq g=>?_) (M.keep9 F λq g=>?_) (M.keepC F λq g j=>?_) (M.keepF F λq g j=>?_) ⟨ss.set u {gd ss u with aPe:=(gd ss u).aPe.set m l},X,vB,a7e k ⟨h.1,by simpa using h.2.1,λz B=>(CC B).elim (h.2.2.1 z) vB,h.2.2.2⟩⟩);have:=T.p2 u d q g;grind;have:=T.p2 u d q g;simp_all;have:=T.p2 u d q j;grind [SK.pc];have:=T.p2 u d q j;have:=(C.pf q g).1;simp_all
end
section
variable{x:ae}{v6 v7 v9 v14 v15:Nat}{c:bit}{ch:ot}{S:aW}{fl:Bool×Bool×Bool×Bool×Bool×Bool}{cc fu ta:AV}{f:Nat->AV×AV}{u:Nat}{s:bcW}{e:aP}{i:aRV}{Qq:J3}
structure SB(c:bit)(s:bcW)(u:Nat):Prop where
 hu:u<L c.ay
 rg:(gd c.ay u).aO6<=1000
 il:L (gd c.ay u).boU<1000000
 ev:0<=(gd s.ay u).ac/\(gd s.ay u).ac<=900
 rl:L (gd s.ay u).aO6<=1000
 tl:L (gd s.ay u).aPe<=1000
def aSl(Qq:J3)(S:aW)(s:bcW)(e:aP)(u:Nat):Prop:=∀(cells d:eu) (ss:List bim) (v:Int) (b:bim),L cells=L s.cells->L d=L s.bU->L ss=L s.ay->(∀k,k<L ss->aQc (gd ss k) (gd s.ay k))->((∀l∈b.aPe,Tn l)/\L b.aO6<=1000/\L b.aPe<=1000/\0<=b.ac/\b.ac<=(gd s.ay u).ac+1)->Qq (.t [.a<|bcW.c ⟨S,cells,d,ss.set u b⟩, .a ({e with value:=v}:aP).c,bv U])
end
section
variable{x:ae}{v6 v7 v9 v14 v15:Nat}{c:bit}{ch:ot}{S:aW}{fl:Bool×Bool×Bool×Bool×Bool×Bool}{cc fu ta:AV}{f:Nat->AV×AV}{u:Nat}{s:bcW}{e:aP}{i:aRV}{Qq:J3}
def aOf{v}:({e with value:=v}:aP).c=[iv e.aq,iv e.kind,iv e.eI,iv v,iv e.site,sl ci e.dI,sl ci e.ep]:=rfl
end
def aQG.b{s s'}(h:aQG s s'){k:Nat}(d:0<=s.ac/\s.ac<=k):ThB k s':=⟨h.2.1,h.2.2.1,h.1,by obtain e|e:=h.2.2.2<;>omega,by obtain e|e:=h.2.2.2<;>omega⟩
def aXt(c)(s)(ch:ot)(hp:aPU c/\aOc c/\∃k,k<=900/\StB k s):Ct 205 [.a c.c, .a s.c, .a ch.c] (λr=>∃(s':bcW) (e:aP) (ok:Bool),r= .t [.a s'.c, .a e.c,bv ok]/\(ok=U->EvL e/\∀k,k<=900->StB k s->StB (k+1) s')):=by
 obtain⟨hc,hb,K,hK,hs⟩:=hp
 have eg:=aP4 hc.1
 generalize hQ:(λ(r:AV)=>∃(s':bcW) (e:aP) (ok:Bool),r= .t [.a s'.c, .a e.c,bv ok]/\(ok=U->EvL e/\∀k,k<=900->StB k s->StB (k+1) s'))=Qq
 refine aDq (bhk A rfl rfl λs6 hl b1 b2 b3 h0=>?_)
 simp only[aVk,qy 8]
 refine zm hl λv6 s7 F7 N7 b6=>?_
 refine zm (F7.len.trans hl) λv7 s8 F8 N8 b7=>?_
 have bb:Fx s6 s8 []:=F7.trans F8
 have P:PB s8 v6 v7 c ch:=⟨bb.len.trans hl,bb.kq b1,bb.kq b3,F8.kq b6,b7⟩
 have c2:=bb.kq b2
 have N:∀{x:dM} {y:AV},aN J (y::x)=V y:=λ{x y}=>by cases y<;>rfl
 have hz:bM bsF aon []=V (.a bsF):=A
 have cf:bM bti aP0 []=V (.a bti):=A
 have bu:∀{x:ae},PB x v6 v7 c ch->sV (aK 7 x (.p (6,v6) 0 0)<|.a bsF) λy=>sV (aK 7 y (.p (7,v7) 0 0)<|.a bti) λz=>rV (sA (V 7) z<|.p (6,v6) 0 0) λa=>rV (sA (V 7) z<|.p (7,v7) 0 0) λb=>aE (λr=>Qq<|bqE r) z [a,b,bv I]:=λ{x} P=>by
  refine stW P.b6 A rfl λy F b=>?_
  refine stW (F.kq P.b7) A rfl λz F2 b2=>?_
  rw[aEa (F2.kq b) A]
  simp only[aY]
  rw[aEa b2 A]
  refine aOH (vs':=[.a<|bcW.c ⟨⟨[],0,[],[]⟩,[],[],[]⟩, .a<|aP.c ⟨0,0,0,0,0,[],[]⟩,bv I]) A rfl ?_
  rw[<-hQ];exact⟨_,_,_,A,O⟩
 simp only[qz 10,qy 12,gp,P.b1,P.b3,c2,ot.c,N,o0,aWn]
 refine⟨⟨hc,hb,K,hs⟩,?_⟩
 rintro r ⟨e,ok,rfl,bY,dp⟩
 refine⟨by simp[lo,nA,aNN,iR,bit.c,aOw.c,bcW.c,aW.c,sl],?_⟩
 simp only[oJ,pG,aY]
 refine anu P.hl λv9 s9 F9 N9 E=>?_
 have P9:=P.fx F9 O
 have bV:=F9.kq c2
 cases ok with
 |false=>
  simp only[qz 14,qy 16,eQ,↓iC,hz,cf]
  exact bu P9
 |true=>
 obtain⟨dm,b8,bj⟩:=dp A
 have ag:=hs.sy
 simp only[qz 14,qy 20,eT,P9.b1,P9.b3,bV,E,ot.c,J9,N,ar,aWn,↓iB]
 refine⟨⟨Z,λl hl=>by have:=ag.rd l hl;omega,by have:=ag.lo;omega,by have:=ag.dn;omega,by have:=ag.th;omega⟩,?_⟩
 rintro r ⟨fl,rfl⟩
 rcases bX:jm c.aQ s.eB ch.aq e.kind e.eI with _|_
 ·refine⟨by simp[lo,nA,aNN,iR,aOw.c,aW.c,sl],?_⟩
  simp only[bih,oJ,pG,KM,aY]
  refine anu P9.hl λdG dx aO cT bR=>?_
  simp only[qz 22,qy 24,eQ,↓iC,hz,cf]
  exact bu<|P9.fx aO O
 refine⟨by simp[lo,nA,aNN,iR,aOw.c,aW.c,sl],?_⟩
 simp only[aRa,oJ,pG,KM,aY]
 obtain⟨dO,f1,f2,f3,f4,f5⟩:=dm
 simp only[jm,bN] at bX
 obtain⟨_,ei,cd,_⟩:=bX
 obtain⟨u,hu⟩:∃u:Nat,ch.aq=u:=⟨ch.aq.toNat,by have:=b8.1;omega⟩
 have aU:u<L c.ay:=by have:=b8.2;omega
 have aV:u<L s.ay:=Z
 obtain⟨p1,p2,p3⟩:=f5 u aU
 obtain⟨r1,r2,r3⟩:=hc.2.2 _<|dB aU
 have be:=hs.th _<|dB aV
 generalize hi:aQs c s ch.aq=i at bj
 have b5:gd (gd c.ay u).boU (gd s.ay u).pc.toNat=i:=by grind [aQs]
 have dr:(gd s.ay u).pc.toNat<L (gd c.ay u).boU:=by have:=p1.1;have:=p1.2;omega
 have ba:∀j∈bie i,aF (L (gd s.ay u).aO6) j/\aF (L (gd s.ay u).aPe) j:=λj hj=>by
  have:=r3 _ dr j (by rwa [b5])
  exact⟨⟨this.1,Z⟩,⟨this.1,Z⟩⟩
 generalize hS:(cU c.aQ s.eB ch.aq e.kind e.eI ch.lD).1=S
 generalize(cU c.aQ s.eB ch.aq e.kind e.eI ch.lD).2=av
 have B:SB c s u:=⟨aU,Z,hb.2 _<|dB aU,⟨be.2.2.2.1,by have:=be.2.2.2.2;omega⟩,be.1,be.2.1⟩
 have cD:aSl Qq S s e u:=λcells aG ss v t' q1 q2 q3 q4 q5=>by
  rw[<-hQ]
  refine⟨_,_,_,A,λ_=>⟨bY,λk hk ce=>?_⟩⟩
  have cF:=ce.th _<|dB aV
  refine⟨by grind [jX.apply,StB.sy],vB,vB,by grind [StB.tl],λt ht=>?_⟩
  obtain ht|rfl:=CC ht
  ·obtain⟨j,hj,rfl⟩:=ou ht
   obtain⟨w1,w2,w3,w4,w5⟩:=q4 j hj
   have bf:=ce.th _<|dB (l:=s.ay) (k:=j) Z
   rw[aNV hj] at w1 w2 w3 w4 w5
   exact⟨by rw[w1];exact bf.1,by rw[w2];exact bf.2.1,w3,by rw[w5];exact bf.2.2.2.1,by rw[w5];have:=bf.2.2.2.2;omega⟩
  ·exact⟨q5.2.1,q5.2.2.1,q5.1,q5.2.2.2.1,by have:=cF.2.2.2.2;omega⟩
 refine anu P9.hl λdG dx aO cT bR=>?_
 have bO:=P9.fx aO O
 have bt:=aO.kq bV
 have cr:=aO.kq E
 have dw:aN (V 7) s.c=V (.a s.c):=A
 simp only[qz 22,eQ,bt,dw,ip,↓iB]
 refine jH A (bds bO.hl ⟨by have:=ag.lo;omega,by have:=ag.dn;omega,by have:=ag.th;omega,λl hl=>by have:=ag.rd l hl;omega⟩ Z Z (aYF hs.tl) λt ht=>⟨(hs.th t ht).1,(hs.th t ht).2.1,λz hz=>((hs.th t ht).2.2.1 z hz).len⟩) ?_
 rintro r el ⟨a1,a2,a3,cc,fu,ta,f,rfl,_,gc,gf,T,Xq,ek,du,na⟩
 refine⟨Xq.len,?_⟩
 have cW:=bO.kx Xq O
 have cx:=Xq.kq bt
 have ct:=Xq.kq cr
 have bB:=Xq.kq bR
 simp only[qz 28]
 refine stW cx A rfl λem W bS=>?_
 have cu:=W.kq ct
 have bC:=W.kq bB
 have cX:=cW.fx W O
 have n4:∀{q:Id},q.1≠4->q∉[((4,1):Id)]:=X
 have cy:=gc.fx W X
 have cB:=gf.fx W X
 have cZ:=T.fx W O
 have es:aN (V 4) (eD S fl)=V (.a<|eD S fl):=A
 simp only[qz 30,eS,bC,bS,es,ip]
 refine stI (y:=4) (cs:=eD S fl) bS A rfl O λdy aR R=>?_
 have bq:box dy (4,1)=V ⟨145,7,U,U,[eD S fl++[cc,fu,ta]]⟩:=R
 have cv:=aR.kq cu
 have bp:=cX.fx aR O
 have cz:=cy.fx aR X
 have cC:=cB.fx aR X
 have bQ:=cZ.fx aR O
 have e4:eD S fl++[cc,fu,ta]=[.l (S.ak.map cg.c) fl.1 fl.2.1,iv S.tx, .l (S.done.map cb) fl.2.2.1 fl.2.2.2.1, .l (S.ay.map aoC.c) fl.2.2.2.2.1 fl.2.2.2.2.2,cc,fu,ta]:=A
 have bT:=bq
 rw[e4] at bT
 simp only[qz 32,qy 34,eS,bT,bp.b3,ot.c,hu,N,nM,ip]
 refine bQ.ix aV λb eh hb=>?_
 simp only[be4 hb aV,aY]
 refine anu bp.hl λv14 dz aA ef aa=>?_
 have bc:=bp.fx aA O
 have co:=aA.kq bq
 have cw:=aA.kq cv
 have cA:=cz.fx aA O
 have bw:=cC.fx aA O
 have c0:=bQ.fx aA O
 have ri:aN (V 6) i.c=V (.a i.c):=A
 have ej:∀{j:Nat},(j:Int).toNat=j:=Z
 simp only[qz 36,qy 38,eT,bc.b1,bc.b3,aa,ot.c,hu,J9,N,ixv,bh,b5,ri]
 refine⟨dJ aU,p1,zm bc.hl λv15 d8 ck bL cn=>?_⟩
 refine stW cn A rfl λcj cm c1=>?_
 have al:Fx dz cj []:=(ck.trans cm).mono λq D=>by simp at D;subst D;exact .inr bL.no
 have cY:=bc.fx al O
 simp only[qz 40]
 refine dT (by simp[eL,lb,aNG,dC,dK,sl,bqI.c]) ?_
 have bs:=al.kq cw
 have bd:=al.kq aa
 have ec:e.c=[iv e.aq,iv e.kind,iv e.eI,iv e.value,iv e.site,sl ci e.dI,sl ci e.ep]:=A
 have M:SM cj v6 v7 v9 v14 v15 c ch S fl cc fu ta f u s e i:=⟨cY,al.kq co,⟨e.value,bs⟩,bd,c1,⟨s.cells,A,cA.fx al O⟩,⟨s.bU,A,bw.fx al O⟩,⟨s.ay,A,c0.fx al O,λk hk=>⟨A,A,(hs.th _<|dB hk).2.2.1,A,A⟩⟩⟩
 have C:SK ch cc fu v15 u s:=⟨X,λq D=>⟨(du q D).1,λeq=>?_⟩,aV,hu⟩
 ·simp only[eS,bd,bs,N,ip]
  refine aX3 M C λx M=>?_
  have hA:=λh=>ba _<|bj.1 h
  have hB:=λh=>(ba _<|bj.2.1 h).1
  have hC:=λh=>(ba _<|bj.2.2 h).1
  have hO:e.kind=3\/e.kind=4->aF (L s.cells) e.eI:=λh=>by rw[f2];exact qP cd Z Z
  have hF:e.kind=22\/e.kind=23->aF (L s.bU) e.eI:=λh=>by rw[f3];exact oU cd Z Z
  simp only[qz 42]
  refine bpF (λo=>∀{x:ae} {nx:Int},SM x v6 v7 v9 v14 v15 c ch S fl cc fu ta f u s e i->o [iv nx] x) (λ{x nx} M=>?_) λo j=>?_
  ·obtain⟨v,E⟩:=M.b9
   simp only[qz 93,aI]
   refine bpF (λo=>∀{x:ae},SM x v6 v7 v9 v14 v15 c ch S fl cc fu ta f u s e i->o [] x) (λ{x} M=>?_) λed j=>?_
   ·have hw:dq.wrap ((gd s.ay u).ac+1)=(gd s.ay u).ac+1:=eM (aYF B.ev)<|aYF B.ev
    simp only[qz 183,eS,M.b14,N,nM,ip,hw]
    refine A0 M.b14 A O λx1 F1 b1=>?_
    simp only[List.set_cons_succ,RY] at b1
    simp only[qz 66,au,eS,b1]
    refine A0 b1 A O λx2 F2 b2=>?_
    simp only[RY] at b2
    have F:Fx x x2 [(14,v14)]:=(F1.trans F2).mono λq D=> .inl (by simpa using D)
    have P:=M.P.fx F O
    have b4:=F.kq M.b4
    obtain⟨v,E⟩:=M.keep9 F O
    obtain⟨cells,dj,gc⟩:=M.keepC F λq D g=>by have:=C.pc q D;simp at g;subst g;simp at this
    obtain⟨aG,dl,gf⟩:=M.keepF F λq D g=>by have:=(C.pf q D).1;simp at g;subst g;simp at this
    obtain⟨ss,h1,T,h3⟩:=M.keepT F O
    have hu:u<L ss:=by rw[h1];exact C.hu
    have S3:=h3 u hu
    simp only[qz 68]
    refine bpF (λo=>∀{x:ae} {r:dM} {t':bim},PB x v6 v7 c ch->box x (4,1)=V ⟨145,7,U,U,[eD S fl++[cc,fu,ta]]⟩->box x (9,v9)=V ⟨71,7,U,U,[({e with value:=v}:aP).c]⟩->box x (14,v14)=V ⟨277,4,U,U,[r]⟩->J7 x 2 1 cc (cells.map ci)->J7 x 2 1 fu (aG.map ci)->TTs (12,31,33) I x ta f ss (L ss)->(r=t'.c\/∃pc ev,r=[iv pc,(f u).1,(f u).2,iv ev]/\t'=⟨pc,(gd ss u).aO6,(gd ss u).aPe,ev⟩)->((∀l∈t'.aPe,Tn l)/\L t'.aO6<=1000/\L t'.aPe<=1000/\0<=t'.ac/\t'.ac<=(gd s.ay u).ac+1)->o [] x) (λ{x r t'} P b4 E R gc gf T hr ht=>?_) λee o=>?_
    ·have k4:∀{a b c d:AV},aN (V 4) [a,b,c,d]=V (.a [a,b,c,d]):=A
     have bz:=C.hch
     have bg:=C.pc
     have bi:=λq D=>(C.pf q D).1
     have dt:∃y0 y1 y2 y3,r=[y0,y1,y2,y3]:=by
      obtain rfl|⟨_,_,rfl,_⟩:=hr<;>exact⟨_,_,_,_,A⟩
     obtain⟨y0,y1,y2,y3,rfl⟩:=dt
     have dk:eY (.a [y0,y1,y2,y3])=V [y0,y1,y2,y3]:=A
     simp only[qz 213,eS,b4,P.b3,R,eD,zn,dW,ot.c,N,k4,nM,ip,bz]
     refine T.ix hu λb ha hb=>?_
     subst ha
     have pb:b.1=33:=by obtain⟨h,_⟩|⟨b',h,h2,_⟩:=T.bx;omega;simp only[AV.m.injEq] at h;rwa [h.1]
     refine Bp hb (aTy hu) dk A O λs1 F1 b1=>?_
     have n1:∀{q:Id},q.1≠33->q∉[b]:=λh e=>h<|idb e pb
     have P1:=P.fx F1 (λq D=>by have:=idb D pb;omega)
     have an:=F1.keep _ _ (n1 O) b4
     have ao:=F1.keep _ _ (n1 O) E
     have c8:=gc.fx F1 λq D=>n1 (by rw[bg q D];decide)
     have c9:=gf.fx F1 λq D=>n1 (by rw[bi q D];decide)
     have e1:aN (V 7) (eD S fl++[cc,fu, .m b<|L ss])=V (.a<|eD S fl++[cc,fu, .m b<|L ss]):=A
     have e2:aN (V 7) ({e with value:=v}:aP).c=V (.a ({e with value:=v}:aP).c):=A
     simp only[qz 74,qy 76,eQ,an,ao,ip,e1,e2]
     refine stW P1.b6 A rfl λs2 F2 b2=>?_
     have c4:=F2.kq P1.b7
     refine stW c4 A rfl λs3 F3 b3=>?_
     simp only[qz 78]
     have ca:9∉aNG (.a<|eD S fl++[cc,fu, .m b<|L ss]):=λh=>by
      have e:aNG (.a<|eD S fl++[cc,fu, .m b<|L ss])=dK cc++(dK fu++[b.1]):=by simp[aNG,dC,eD,dK]
      rw[e] at h
      simp only[dF,cE] at h
      obtain h|h|h:=h
      ·obtain⟨q,D,h⟩:=aQu gc h;have:=bg q D;omega
      ·obtain⟨q,D,h⟩:=aQu gf h;have:=bi q D;omega
      ·omega
     refine dT ?_ ?_
     ·generalize AV.a (eD S fl++[cc,fu, .m b<|L ss])=b0 at ca⊢
      simp[eL,lb,aTn,ca]
     have br:=F3.kq b2
     simp only[eQ,b3,br,ip,e1,e2]
     have W:Fx s1 s3 [(6,v6),(7,v7)]:=F2.trans F3
     have aZ:∀{q:Id},q.1≠6->q.1≠7->q∉[((6,v6):Id),(7,v7)]:=λh h' e=>by simp at e;obtain rfl|rfl:=e;exact h A;exact h' A
     have hT:fz s3 (.m b<|L ss)=sl bim.c (ss.set u t'):=by
      have g1:∀k,k<L ss->frN s3 (f k).1=sl ci (gd ss k).aO6/\frN s3 (f k).2=sl cl (gd ss k).aPe:=λk hk=>
       ⟨aWh<|((T.g1 k hk).fx F1 λq D=>n1<|by rw[T.p1 k hk q D];decide).fx W λq D=>aZ (by rw[T.p1 k hk q D];decide)<|by rw[T.p1 k hk q D];decide,(((T.g2 k hk).fx F1 λq D=>n1<|by rw[T.p2 k hk q D];decide).fx W λq D=>aZ (by rw[T.p2 k hk q D];decide)<|by rw[T.p2 k hk q D];decide).fr⟩
      refine bfC T hu (W.keep _ _ (aZ (by rw[pb];decide)<|by rw[pb];decide) b1) ?_ g1
      simp only[List.take_zero,dW,nM,List.drop_nil,cL]
      obtain h|⟨pc,ev,h,rfl⟩:=hr
      ·rw[h];rfl
      ·rw[h]
       simp only[ji,mU,(g1 u hu).1,(g1 u hu).2]
       rfl
     have x4:=aBr (c8.fx W λq D=>aZ (by rw[bg q D];decide)<|by rw[bg q D];decide)
     have x5:=aBr (c9.fx W λq D=>aZ (by rw[bi q D];decide)<|by rw[bi q D];decide)
     refine aOH (vs':=[.a<|bcW.c ⟨S,cells,aG,ss.set u t'⟩, .a ({e with value:=v}:aP).c,bv U]) ?_ (by simp[iX,bcW.c,aP.c,aW.c,eN,sl])<|cD cells aG ss v t' dj dl h1 h3 ht
     simp only[ji,mU,fzT,eD,x4,x5,hT,bcz,aWt,zn,dW]
     rfl
    have bY:=B.ev
    have bW:=o P b4 E b2 gc gf T (.inr ⟨nx,_,A,A⟩) ⟨S3.2.2.1,by rw[S3.1];exact B.rl,by rw[S3.2.1];exact B.tl,by simp only;omega,by simp only;omega⟩
    have hb:=B.hu
    have k4:∀{a b c d:AV},aN (V 4) [a,b,c,d]=V (.a [a,b,c,d]):=A
    have ke:({e with value:=v}:aP).c=[iv e.aq,iv e.kind,iv e.eI,iv v,iv e.site,sl ci e.dI,sl ci e.ep]:=A
    have kc:aN (V 2) (gd c.ay u).c=V (.a (gd c.ay u).c):=A
    rcases q1:Q (e.kind≠16) with _|_
    ·simp only[qz 215,eS,E,ke,N,nM,ip,q1,↓jN,a7i,↓iB]
     exact bW
    ·rcases q2:Q (e.kind≠2) with _|_
     ·simp only[qz 215,eS,E,ke,N,nM,ip,q1,q2,↓jA,↓iB]
      exact bW
     ·simp only[qz 215,eT,E,ke,P.b1,P.b3,b2,ot.c,C.hch,J9,N,k4,kc,ixv,bh,q1,q2,↓jA,↓iC]
      refine⟨dJ hb,?_⟩
      refine baY (s:=⟨nx,(gd ss u).aO6,(gd ss u).aPe,(gd s.ay u).ac+1⟩) P.hl (.of (T.g1 u hu)) (.of (e:=25)<|T.g2 u hu) (λq D=>by have:=T.p1 u hu q D;simp at this;omega) B.rg B.il (by have:=B.rl;simp only;have:=S3.1;omega) (by have:=B.tl;simp only;have:=S3.2.1;omega) S3.2.2.1 λok s' x3 h' F3=>?_
      have br:=F3.kq b2
      simp only[qz 70,oJ,pG,aY]
      refine stW br A rfl λx4 F4 c3=>?_
      simp only[qz 72]
      refine dT (by simp[eL,lb,aNG,dC,dK,bim.c,sl]) ?_
      have aB:Fx x2 x4 [(14,v14)]:=(F3.trans F4).mono λq D=> .inl (by simpa using D)
      refine o (P.fx aB O) (aB.kq b4) (aB.kq E) c3 (gc.fx aB λq D g=>?_) (gf.fx aB λq D g=>?_) (T.fx aB O) (.inl A) ⟨h'.1,h'.2.1,h'.2.2.1,?_,?_⟩
      ·have:=C.pc q D;simp at g;subst g;simp at this
      ·have:=(C.pf q D).1;simp at g;subst g;simp at this
      ·obtain e|e:=h'.2.2.2<;>(try simp only at e)<;>omega
      ·obtain e|e:=h'.2.2.2<;>(try simp only at e)<;>omega
   rcases q1:Q (e.kind=3) with _|_<;>rcases q2:Q (e.kind=23) with _|_<;>simp only[qz 185,eS,E,aOf,M.b14,M.b15,J9,N,q1,q2,↓jA,↓jN,a5C,↓iC,↓iB,wY]
   ·exact j M
   all_goals
    obtain⟨h1,h2⟩:=hA (by simp only[awG,aPs] at q1 q2;omega)
    refine bfi M C h1 λ_ y G=>?_
    have hb:aX bH 1 y [(0,iv (gd s.ay u).ac)]=V (.l ([(gd s.ay u).ac].map ci) U U,y):=iz
    simp only[qz 60,eS,G.b14,G.b15,J9,N,hb,qz 62,qy 64]
    exact bfj G C (Tn.one ⟨B.ev.1,by have:=B.ev.2;omega⟩) h2 λz M2=>j M2
  obtain⟨v,E⟩:=M.b9
  have b4:=M.b4
  rw[e4] at b4
  have R:=M.b14
  have aa:=M.b15
  have val:∀{w:Int} {K:ae->Prop},(∀y,SM y v6 v7 v9 v14 v15 c ch S fl cc fu ta f u s e i->K y)->sV (aK 1 x (.p (9,v9) 0 3)<|iv w) K:=λh=>aX3 M C h
  simp only[qz 95,eS,E,aOf,J9,N]
  refine bs6 (λo=>o [bv U]/\o [bv I]) ⟨?_,?_⟩ λeb h=>by
   rcases q1:Q (e.kind=1) with _|_<;>rcases q2:Q (e.kind=16) with _|_<;>rcases q3:Q (e.kind=2) with _|_<;>simp only[qz 107,eQ,q1,q2,q3,↓iC,↓iB]
   all_goals first|exact h.2|exact h.1
  ·simp only[qz 105,qy 44,qy 46,au,aI]
   simp only[eS,R,J9,N,↓iC]
   exact j M
  simp only[qz 105,qy 44,qy 46,au,aI,↓iB]
  rcases q4:Q (e.kind=3) with _|_
  rotate_left
  ·simp only[eS,E,aOf,b4,J9,N,↓iC,q4]
   exact bfe M (hO<|.inl<|aNQ q4) λw=>val λy G=>j G
  rcases q5:Q (e.kind=23) with _|_
  rotate_left
  ·simp only[eS,E,aOf,b4,J9,N,↓iC,↓iB,q4,q5]
   exact bff M (hF<|.inr<|aNQ q5) λw=>val λy G=>j G
  rcases q6:Q (e.kind=4) with _|_
  rotate_left
  ·simp only[eS,E,aOf,R,aa,J9,N,↓iC,↓iB,q4,q5,q6]
   refine aX2 M C (hB<|.inl<|aNQ q6) λw=>val λy G=>?_
   obtain⟨v1,ao⟩:=G.b9
   have an:=G.b4
   rw[e4] at an
   simp only[qz 48,qy 50,eS,ao,aOf,an,N,nM,ip]
   exact bfg G C (hO<|.inr<|aNQ q6) λ_ y M2=>j M2
  rcases q7:Q (e.kind=22) with _|_
  rotate_left
  ·simp only[eS,E,aOf,R,aa,J9,N,↓iC,↓iB,q4,q5,q6,q7]
   refine aX2 M C (hB<|.inr<|aNQ q7) λw=>val λy G=>?_
   obtain⟨v1,ao⟩:=G.b9
   have an:=G.b4
   rw[e4] at an
   simp only[qz 52,qy 54,eS,ao,aOf,an,N,nM,ip]
   exact bfh G C (hF<|.inl<|aNQ q7) λ_ y M2=>j M2
  rcases q8:Q (e.kind=5) with _|_
  ·simp only[eQ,↓iB,q4,q5,q6,q7,q8]
   exact j M
  simp only[eS,E,aOf,↓iC,↓iB,q4,q5,q6,q7,q8]
  refine val λy G=>?_
  obtain⟨v1,ao⟩:=G.b9
  simp only[qz 56,eS,G.b14,G.b15,J9,N]
  refine aX2 G C (hC<|aNQ q8) λw=>?_
  simp only[eQ,ao]
  refine⟨λ_=>aX3 G C λz M2=>?_,λ_=>j G⟩
  simp only[qz 58,eS,M2.b15,J9]
  exact j M2
 ·obtain⟨x,hx⟩:=aTi bw q D
  subst eq
  exact bL.no x hx
def aUk:FT:=vn aXt
def bcb:=zZ aUk aXt (j:=bsg)
def a7H:dO:=(205,aUk)::aYe
def a7q:eJ a7H:=asq (By aXt)<|a7p
def a6s:=ai @bcb<|@aWn
section
attribute[local irreducible] aX
def a9N:=I9 11 [(3,([2,10],[3,4,5,9])),(6,([2],[3,4,5,9,10]))]
def bhm{c0 b c d}:=yB2 150 7 4 145 7 5 a7q func123 a9N c0 b [.a c0, .a b,c,d]
end
def bcu{Y a cs c bA e z}(g:J7 Y e z a bA)(h:cs.map (lz Y)=c):aOo Y (.t [a, .a cs])= .t [.l bA I I, .a c]:=by have:nrm (eR Y a)= .l bA I I:=(by rw[<-aOb g];obtain⟨_,rfl⟩|⟨b,m,rfl,d⟩:=g;rfl;simp[eR,aTH,d,nrm,lz]);have:nrm (eR Y<|.a cs)= .a (cs.map<|lz Y):=(by simp only[eR,nrm,vA];rfl);grind [aOo]
def bvb{p:Prop}(h:p:=by grind [Go.Ab.lI.p]):p:=h
def bdt{Y c s f}(hl:L Y=4096)(hc:aPU c)(hb:aOc c)(hs:StB 0 s)(hn:L f<=100):∃r Y1,((∃(l:List aP) (s':bcW),r= .t [sl aP.c l, .a s'.c]/\L l<=100/\∀e∈l,EvL e)/\Fx Y Y1 [])/\cZ aS GG 123 [.a c.c, .a s.c, .l [] U U,sl ot.c f] Y r Y1:=by generalize hQ:(λ(r:AV) (y:ae)=>(∃(l:List aP) (s':bcW),aOo y r= .t [sl aP.c l, .a s'.c]/\L l<=100/\∀e∈l,EvL e)/\Fx Y (kills y<|aNW r) [])=Qq;refine aQR (R:=Qq) ?_ X;refine bhm hl A rfl λs4 v4 v5 K4 bn bo bp b4 b5=>?_;have F4:=K4.fx [];simp only[qy 6];refine zm (F4.len.trans hl) λv9 s6 i N6 b9=>?_;have am:Fx Y s6 []:=F4.trans i;have n9:=(N6.old F4).no;have rc:aN (V 7) c.c=V (.a c.c):=A;have P:∀{s:bcW},aN (V 7) s.c=V (.a s.c):=A;have re:∀{s:aP},aN (V 7) s.c=V (.a s.c):=A;have aO:∀{s:ot},aN (V 2) s.c=V (.a s.c):=A;have aD:∀{x:ae} {j:Int} {K:J3},rV (cz 2 x (sl ot.c f)<|iv j) K=(aF (L f) j/\K (.q<|ot.c<|gd f j.toNat)):=aBz λ_=>A;refine yW (L f) (λk a x=>Fx Y x []/\box x (4,v4)=V ⟨150,7,U,U,[c.c]⟩/\(∃s',box x (5,v5)=V ⟨145,7,U,U,[s'.c]⟩/\StB k s')/\box x (9,v9)=V ⟨145,7,U,U,[bsF]⟩/\∃l:List aP,L l<=k/\(∀e∈l,EvL e)/\J7 x 71 7 a (l.map aP.c)/\∀q∈aA a,q.1=41/\∀y,box Y q≠V y) (s0:= .l [] U U) ⟨am,i.kq b4,bsq,b9,[],O,O, .inl ⟨A,A⟩,aBY⟩ ?_;rintro k a x hk ⟨F,E,⟨s',M,W⟩,N,l,bm,B,g,pa⟩;have C:=F.len.trans hl;have aG:fS x a=V (iv<|L l):=(by rw[g.ln,bJ]);rcases q1:Q ((k:Int)<(L f:Int)) with _|_;simp only[qz 19,qy 22,au,eQ,M,P,q1,↓jN,a7i,↓iB,ip];refine stW N A rfl λs7 F7 b7=>?_;simp only[b7,a6X,qh,df,P,aY];have g7:=g.fx F7 λq n h=>(by have:=(pa q n).1;simp at h;subst h;simp at this);show Qq (.t [a, .a s'.c]) s7;rw[<-hQ];refine⟨⟨l,s',bcu g7 A,Z,B⟩,((F.trans F7).trans<|aOp _ _).mono λq n=> .inr ?_⟩;have ei:aNW (.t [a, .a s'.c])=aA a:=(by have:=aQX g7;obtain⟨_,rfl⟩|⟨b,m,rfl,_⟩:=g7<;>simp[aNW,aNN,iR,bcW.c,aW.c,sl,aA]);grind;have q2:Q (((L l:Nat):Int)<400)=U:=X;simp only[qz 19,qy 22,au,eQ,aG,q1,q2,↓jA,a5C,↓iC,ip];have T:k<L f:=vB;refine bsf (λd=>∀{w:AV} {y:ae} {s3:bcW} {l':List aP},Fx Y y []->box y (4,v4)=V ⟨150,7,U,U,[c.c]⟩->box y (5,v5)=V ⟨145,7,U,U,[s3.c]⟩->StB (k+1) s3->box y (9,v9)=V ⟨145,7,U,U,[bsF]⟩->L l'<=k+1->(∀e∈l',EvL e)->J7 y 71 7 w (l'.map aP.c)->(∀q∈aA w,q.1=41/\∀z,box Y q≠V z)->d [w] y) ?_ λd j6=>?_;intro w y s3 l' F E M hs N h1 h2 g p;simp only[qz 39,au,eQ];exact yX T X;simp only[qz 41,hZ,E,M,P,rc,aD,aO,bh,Fa,a6s,rr,ip];refine⟨dJ T,X,?_⟩;rintro r ⟨s2,e,ok,rfl,aJ⟩;refine⟨by simp[lo,nA,aNN,iR,bit.c,aOw.c,bcW.c,aW.c,ot.c,sl],?_⟩;simp only[oJ,pG,KM,aY];refine zm C λbq x1 F1 N1 b1=>?_;simp only[qz 8];refine zm (F1.len.trans C) λbr x2 F2 N2 b2=>?_;have aq:=F2.kq b1;simp only[qz 10];refine stW aq A rfl λx3 F3 b3=>?_;have av:=F3.kq b2;simp only[qz 12];refine stW av A rfl λx4 S ax=>?_;have aw:=S.kq b3;have G:Fx x x4 []:=(((F1.trans F2).trans F3).trans S).mono bwa;simp only[qz 14];refine dT (by simp[gt1,eL,lb,Qh,aNG,dC,dK,sl,ot.c,bcW.c,aW.c,aP.c,bit.c,aOw.c]) ?_;have aa:=G.kq M;have g4:=g.fx G O;have aE:=G.len.trans C;have aQ:StB k s'->StB (k+1) s':=λh=>⟨h.sy.mono Z,h.ce,h.fu,h.tl,λt ht=>by obtain⟨w1,w2,w3,w4,w5⟩:=h.th t ht;exact⟨w1,w2,w3,w4,Z⟩⟩;cases ok with|false=>simp only[↓iB];exact j6 (F.trans G) (G.kq E) aa (aQ W) (G.kq N) Z B g4 pa|true=>obtain⟨he,aK⟩:=aJ A;simp only[↓iC,eQ,aw,P,ip];refine stW aa A rfl λx5 u az=>?_;have ay:=u.kq ax;have g5:=g4.fx u λq n h=>(by have:=(pa q n).1;simp at h;subst h;simp at this);have aC:aX EI 1 x5 [(0, .a e.c)]=V (.l ([e].map aP.c) U U,x5):=ua A rfl rfl H (by simp[aP.c,eN,sl]) H;have o:∀{l:List aP},∀r∈l.map aP.c,L r=7:=qW (λ_=>by rfl);simp only[qz 16,qy 18,qy 20,eQ,ay,re,aC,ip];refine apQ g5 (u.len.trans aE) o o O NA λw x6 g6 i P6=>?_;have D:∀{q:Id},q.1≠41->q∉aA a:=X;have v:Fx Y x5 []:=((F.trans G).trans u).mono X;refine j6 (l':=l++[e]) ((v.trans i).mono X) (i.keep _ _ (D O)<|u.kq<|G.kq E) (i.keep _ _ (D O) az) (aK k Z W) (i.keep _ _ (D O)<|u.kq<|G.kq N) NA (λy hy=>?_) bvb λq n=>⟨(P6 q n).2,((P6 q n).1.old v).no⟩;obtain h|h:=dF.1 hy;exact B y h;grind
def aYf:dO:=a7H
def a7r:eJ aYf:=a7q
def a6t:=@a6s
section
attribute[local irreducible] aX
def aVj a a1 b R:=(.mk _:NF<|zF GGV aYf ato Tryz.f60 [.u,a1] [a] b<|I3 Tryz.f60 R).p
def bhi{c0:dM}{a1:AV}{R:J3}(l0:L c0=7)(h:∀b:ae,L b=4096->box b (2,1)=V ⟨150,7,U,U,[c0]⟩->(∀k,k≠2->aZ b k=mO)->aVj (.p (2,1) 0 0) a1 b R):Fn aS GG 60 [.a c0,a1] R:=by refine fnV (uq ready (aQ9 a7r) func60 (an:=ato) a7c<|Eq.mpr (show ZF aS GGV aYf ato Tryz.f60 [.a c0,a1] R=(eV (bxA 150 7 (ly Tryz.f60) 2<|.a c0) λc b=>aVj c a1 b R) by kernel_rfl) ?_);refine mY (N:=4096) A l0 H H uB (by rw[i8]) λb f d g g0=>?_;exact h b f d (λk e=>by rw[g0 k e];exact i8 _ k)
end
theorem Kx.fx0{Y Y'}(k:Kx [] Y Y'){b x}(h:box Y b=V x):box Y' b=V x:=k.keep b x O h
def baV{Y c s f}{d:Nat}{K}(u:L Y=4096)(q:aPU c)(o:aOc c)(hs:StB 0 s)(w:L f<=100)(n:∀(l) (s':bcW) g,L l<=100->(∀e∈l,EvL e)->Kx [] Y g->K (.t [sl aP.c l, .a s'.c]) g):cV 123 [.a c.c, .a s.c, .l [] U U,sl ot.c f] Y d K:=by refine aQN A rfl [] (λx j=>?_) (λp h=>by simp at h) (bdt (aOr.trans u) q o hs w) ?_;simp only[eW,ql,brT] at j;obtain rfl|rfl|rfl|rfl:=j;intro y b;simp only[bit.c,aOw.c,dF,eW,ql,brT,or_assoc] at b;obtain rfl|rfl|rfl|rfl|rfl|rfl|rfl:=b<;>exact .inl btN;intro y b;simp only[bcW.c,aW.c,dF,eW,ql,brT,or_assoc] at b;(obtain rfl|rfl|rfl|rfl|rfl|rfl|rfl:=b<;>first|trivial|exact .inl btN);exact .inr A;exact .inl btN;rintro r g ⟨⟨l,s',rfl,k,m⟩,F⟩;refine⟨F.len.trans aOr,[],(λp h=>by simp at h),?_,n l s' _ k m Kx.mix⟩;intro v i;simp only[eW,ql,brT] at i;obtain rfl|rfl:=i;exact .inl btN;intro y b;simp only[bcW.c,aW.c,dF,eW,ql,brT,or_assoc] at b;obtain rfl|rfl|rfl|rfl|rfl|rfl|rfl:=b<;>first|trivial|exact .inl btN
def aXr(c)(f)(hp:aOc c/\L f<=100):Ct 60 [.a c.c,sl ot.c f] (λr=>∃(t:brp) (s:bcW),r= .t [.a t.c, .a s.c]/\L t.ac<=100/\∀e∈t.ac,EvL e):=by obtain⟨m,hn⟩:=hp;generalize G:(λ(r:AV)=>∃(t:brp) (s:bcW),r= .t [.a t.c, .a s.c]/\L t.ac<=100/\∀e∈t.ac,EvL e)=Qq;refine aDq (bhi A λs2 n b1 h0=>?_);simp only[aVj,qy 4];refine zm n λv4 s4 w N4 b4=>?_;refine zm (w.len.trans n) λv5 p x N6 D=>?_;have d:=x.kq b4;have b:Fx s2 p []:=w.trans x;have F:=b.kq b1;have g:=b.len.trans n;have hz:bM bsF aon []=V (.a bsF):=A;have M:bM buB [(0,6),(6,1)] []=V (.a buB):=A;have rc:aN (V 7) c.c=V (.a c.c):=A;simp only[qz 6,qy 8,hZ,F,rc,ip,a6t,Fa,hz,M];have i:∀{r:AV},lo p [.a c.c] r:=(by intro r;simp[lo,nA,aNN,iR,bit.c,aOw.c,sl]);refine⟨m,?_⟩;rintro _ ⟨ok,rfl,h⟩;refine⟨i,?_⟩;simp only[aIN,aY];cases ok with|false=>simp only[kN,↓iC];refine stW d A rfl λs7 T k=>?_;refine stW (T.kq D) A rfl λs8 W b8=>?_;have E:=W.kq k;have rz:aN (V 7) bsF=V (.a bsF):=A;have R:aN (V 7) buB=V (.a buB):=A;simp only[qz 10,eQ,b8,E,rz,R,ip];refine aOH (vs':=[.a<|brp.c ⟨⟨[],[],[],[],[],[]⟩,[]⟩, .a<|bcW.c ⟨⟨[],0,[],[]⟩,[],[],[]⟩]) A rfl ?_;rw[<-G];exact⟨_,_,A,O,O⟩|true=>simp only[fh,↓iB];refine⟨⟨h A,m⟩,?_⟩;rintro _ ⟨s,rfl,hs⟩;refine⟨i,?_⟩;refine baV g (h A) m hs hn λl s' aA h1 h2 y=>?_;have o:=y.len.trans g;simp only[qz 12,qy 14,oJ,pG,aY];refine zm o λv7 aB ax az k=>?_;refine stW k A rfl λS ay c7=>?_;have up:∀{q:Id} {z:bY},q≠(7,v7)->box p q=V z->box S q=V z:=(by grind [Fx.keep,Kx.fx0]);have d1:=up O F;have d4:=up O d;have d5:=up O D;have N:aN (V 6) c.c=V (.a c.aQ.c):=A;have P:aN (V 7) s'.c=V (.a s'.c):=A;have rt:aN (V 7) (brp.c ⟨c.aQ,l⟩)=V (.a<|brp.c ⟨c.aQ,l⟩):=A;have K:bM buB [(0,6),(6,1)] [(0, .a c.aQ.c),(1,sl aP.c l)]=V (.a<|brp.c ⟨c.aQ,l⟩):=A;simp only[qz 16];refine dT (by simp[eL,lb,lbV,Qh,aNG,dC,dK,bit.c,bcW.c,aW.c,aOw.c,sl]) ?_;simp only[eS,d1,c7,N,P,K,ip];refine stW d4 A rfl λaC u B=>?_;simp only[qz 18];refine stW (u.kq d5) A rfl λaD v C=>?_;have j:=v.kq B;simp only[qz 20];refine dT (by simp[eL,lb,lbV,aNG,dC,dK,bcW.c,aW.c,aOw.c,brp.c,sl]) ?_;simp only[eQ,j,C,P,rt,ip];refine aOH (vs':=[.a<|brp.c ⟨c.aQ,l⟩, .a s'.c]) A (by simp[iX,eN,brp.c,aOw.c,bcW.c,aW.c,sl]) ?_;rw[<-G];exact⟨_,_,A,h1,h2⟩
def aUi:FT:=pn aXr
def bb9:=f211 aUi aXr (j:=bsg)
def a7I:dO:=(60,aUi)::aYf
def a7s:eJ a7I:=asq (aN0 aXr)<|a7r
def aWo:=ai @bb9<|@a6t
section
attribute[local irreducible] aX
def a9X:=I9 18 [(1,([0],[1,4])),(8,([28],[1,4,5,6,26,27]))]
def bhv{a a1}:=y0 a7s func20 a9X [a,a1]
end
section
attribute[local irreducible] aX
def bhx{c b}:=yB1 42 7 3 aPL func120 ato b [c, .a b]
def a90:=I9 25 [(3,([8],[0,2,7])),(6,([16],[0,2,7])),(9,([21],[0,2,7])),(14,([26],[0,2,7])),(21,([33],[0,2]))]
def bhA{a a1 b}:=yB aPL func201 a90 [a,a1,b]
def a93:=I9 21 [(7,([24],[0,5,10]))]
def bhD{c b d e}:=yB1 42 7 5 aPL func202 a93 b [c, .a b,d,e]
def a92:=I9 11 [(4,([5,10],[0,1,8,9])),(7,([5],[0,1,8,9,10]))]
def bhC{a a1}:=yB aPL func203 a92 [a,a1]
def a5J:=I9 39 [(4,([16],[0,4,5,15])),(7,([],[0,4,5,15,16])),(10,([7],[0,4,5,6,15,16])),(17,([64],[0,4,5,63])),(20,([],[0,4,5,63,64])),(26,([],[0,4,5])),(28,([],[0,4,5])),(33,([143],[0,4,5,142]))]
def aSH b a c R:=(.mk _:NF<|zF GGV aR3 a5J Tryz.f58 [b, .u] [a] c<|QDb Tryz.f58 R).p
def bhw{c:AV}{b:dM}{s0:ae}{R:be}(hs:L s0=4096)(l1:L b=6)(h:HB1 34 6 3 b s0 λe d=>aSH c e d R):EB 58 [c, .a b] s0 R:=aTc<|zB1 a5J (aQ9 aPL) func58 hs l1 h
def a5K:=I9 13 [(4,([],[0,3,5,6,8,9,11])),(8,([],[0,3,8,9,11])),(10,([],[8,11]))]
def aSL c a b d e R:=(.mk _:NF<|zF GGV aR3 a5K Tryz.f121 [c, .u, .u,d] [a,b] e<|QDb Tryz.f121 R).p
def bhy{d:AV}{b:dM}{c:dM}{e:AV}{s0:ae}{R:be}(hs:L s0=4096)(l1:L b=7)(f:L c=6)(h:HB2 42 7 5 b 34 6 6 c s0 λi j g=>aSL d i j e g R):EB 121 [d, .a b, .a c,e] s0 R:=aTc<|zB2 a5K (aQ9 aPL) func121 hs l1 f h
end
def bt:(∀p:Prop,(True->p)=p)/\(∀p,(False->p)=True)/\((I=U)=False)/\((U=I)=False)/\(∀p,(p/\True)=p)/\(∀p,(True/\p)=p)/\(∀b,(U||b)=U)/\(∀b,(I||b)=b)/\(∀b,(b||U)=U)/\(∀b,(b||I)=b)/\(∀b,(U&&b)=b)/\(∀b,(I&&b)=I)/\(∀b,(b&&U)=b)/\(∀b,(b&&I)=I)/\(∀α:Sort 1,(α->True)=True):=by refine⟨λp=>O,λp=>O,O,O,λp=>O,λp=>O,O,O,O,O,O,O,O,O,O⟩
def ir:=ai @bt @eQ
def jP:=ai @bt @u0
def aS3{Y b l}{a d:Nat}{n:Int}{K}(Lw:List Id)(hl:L Y=4096)(z:b.1=14\/b.1=15\/b.1=16)(T:Tp Y b l a)(o:∀q∈Lw,(q.1=14\/q.1=15\/q.1=16)/\∃x,box Y q=V x/\x.var=I)(hK:∀(x:Int) (g:Nat) i,0<=x->(1<=n->x<n)->Tp i b l g->a<=g->(a<L l->1<=n->g=a+1)->Kx [14,15,16] Y i->(∀q∈Lw,∀x,box Y q=V x->box i q=V x)->K (iv x) i):cV 119 [.p b 0 0,iv n] Y d K:=by have m:∀{q:Id},q.1=14\/q.1=15\/q.1=16->q.1∈[14,15,16]:=λh=>(by obtain h|h|h:=h<;>simp[h]);have ib:okI [14,15,16] (b::Lw) b:=⟨m z,O⟩;have D:b∉Lw:=λh=>(by obtain⟨_,x,c,v⟩:=o b h;rw[T.bx] at c;cases c;cases v);have w:∀q∈Lw,∀x,box Y q=V x->box (bnq [14,15,16] (b::Lw) Y) q=V x:=λq e x c=>(by rwa [aOV<|m (o q e).1,zg<|by simp[e]]);have C:Tp (bnq [14,15,16] (b::Lw) Y) b l a:=⟨by rw[aOV<|m z,zg O];exact T.bx,T.le,T.ok,T.ll⟩;have bA:∀(Y':ae) (g:Nat),Tp Y' b l g->(∀q∈Lw,∀x,box Y q=V x->box Y' q=V x)->okB [14,15,16] (b::Lw) Y':=λY' g N hk p t x c v q e y M=>(by obtain rfl|t:=eW.1 t;rw[N.bx] at c;cases c;simp only[cE] at e;subst e;simp only[eW,ql,brT] at M;obtain rfl|rfl:=M;exact .inl A;trivial;obtain⟨_,x',G,E⟩:=o p t;rw[hk p t x' G] at c;cases c;rw[E] at v;cases v);refine aQN A rfl (b::Lw) (λx c=>?_) (bA _ _ C w) (aWF (aOr.trans hl) C n) ?_;simp only[eW,ql,brT] at c;obtain rfl|rfl:=c;exact ib;trivial;rintro r i ⟨x,g,rfl,P,R,j,S,W,F⟩;have k:=F.len.trans aOr;have kp:=λq e x c=>F.keep _ _ (by simp only[cE];rintro rfl;exact D e)<|w q e x c;exact⟨k,b::Lw,bA _ _ j kp,trivial,hK x g _ P R ⟨by rw[aPT k<|m z,zg O];exact j.bx,j.le,j.ok,j.ll⟩ S W Kx.mix λq e x c=>by rw[aPT k<|m (o q e).1,zg<|by simp[e]];exact kp q e x c⟩
def aPu{Y b l}{a d:Nat}{n:Int}{K}(m:L Y=4096)(T:Tp Y b l a)(j:∀(x:Int) (e:Nat) c,0<=x->(1<=n->x<n)->Tp c b l e->a<=e->Fx Y c [b]->K (iv x) c):cB 119 [.p b 0 0,iv n] Y d K:=a55 m T λx e c h i g k _ F=>j x e c h i g k F
theorem k1A{x y}:aN J (y::x)=V y:=by cases y<;>rfl
def ky:=ai @eS @k1A
def aTE{Y b l n}(T:Tp Y b l n){e z a bA}(g:J7 Y e z a bA):∀q∈aA a,q∉[b]:=λq c h=>by
 simp only[cE] at h;subst h
 exact aNO g q c _ T.bx A
def bdc{Y b l}{a:Nat}{x0 R x2 S W x5 a6}{cnt:eu}(C:L Y=4096)(T:Tp Y b l a)(g:J7 Y 3 1 a6<|cnt.map ci)(hn:L cnt<=1000):∃r j,(∃(u:Int) (e:Nat),r=iv u/\(u= -1\/aF (L cnt) u)/\Tp j b l e/\a<=e/\Fx Y j [b])/\cZ aS GG 120 [.p b 0 0, .a [x0,R,x2,S,W,x5,a6]] Y r j:=bhx C A λs2 P G aa nf t=>by have c:=G.fx [];have q:=T.fx c O;have m:=g.fx c O;have N:((3,P):Id)∉[b]:=λh=>(by simp only[cE] at h;subst h;exact nf _ T.bx);simp only[ky,t,nM,ip,m.ln,bJ];rw[eM Z Z];refine aPu (c.len.trans C) q λu e j h0 M k n i=>?_;have:=M Z;have w:=i.keep _ _ N t;have g1:=m.fx i<|aTE q m;have z:dq.wrap (u-2)=u-2:=eM Z Z;rcases o:Q (u-2<0) with _|_;simp only[aPs] at o;have D:aF (L cnt) (u-2):=⟨Z,Z⟩;have E:=bqN o;simp only[qz 4,ky,z,E,w,nM,ip,↓jA,a7i];refine aTu g1 D λv=>?_;rcases F:Q (v=0) with _|_;simp only[ir,F];exact⟨u-2,e,A, .inr D,k,n,c.trans i⟩;simp only[ir,F];exact⟨-1,e,A, .inl A,k,n,c.trans i⟩;simp only[qz 4,ir,z,o,↓jN,a5C];exact⟨-1,e,A, .inl A,k,n,c.trans i⟩
def baM{Y}:aX bH 8 Y [(0,iv 0),(1,iv 0),(2,iv 0),(3,iv 1),(4,iv 1),(5,iv 2),(6,iv 3),(7,iv 4)]=V (.l ([0,0,0,1,1,2,3,4].map ci) U U,Y):=a7c
section
attribute[local irreducible] aX
def bdk{Y b l}{a:Nat}{kd th:Int}(z:L Y=4096)(T:Tp Y b l a):∃r i,(∃(o:Int) (e:Nat),r=iv o/\(kd=3\/kd=4->0<=o/\o<5)/\Tp i b l e/\a<=e/\Fx Y i [b])/\cZ aS GG 201 [.p b 0 0,iv kd,iv th] Y r i:=bhA z<|by generalize W:(λ(r:AV) (i:ae)=>∃(o:Int) (e:Nat),r=iv o/\(kd=3\/kd=4->0<=o/\o<5)/\Tp i b l e/\a<=e/\Fx Y i [b])=R;have g:∀{o:Int} {e:Nat} {y:ae},(kd=3\/kd=4->0<=o/\o<5)->Tp y b l e->a<=e->Fx Y y [b]->R (iv o) y:=λv N P S=>(by rw[<-W];exact⟨_,_,A,v,N,P,S⟩);refine bvP (λc=>∀t,(t=I->¬(kd=3\/kd=4))->c [bv t]) ?_ λc w=>?_;intro t q;(cases t);have q:=q A;have D:∀{o:Int},R (iv o) Y:=g (λh=>aYx h q) T (dA _)<|Fx.refl _ _;simp only[qz 21,qy 2,au,ir];refine bs6 (λc=>∀t,c [bv t]) (λt=>?_) λc j=>(by simp only[qz 41,nV,j,FA]);(cases t);simp only[qz 39,qy 6,au,ir];refine bs6 (λc=>∀t,c [bv t]) (λt=>?_) λc j=>(by simp only[qz 59,nV,j,FA]);(cases t);simp only[qz 57,au,ir];refine bs6 (λc=>∀t,c [bv t]) (λt=>?_) λc j=>(by simp only[qz 89,nV,j,FA]);(cases t);simp only[qz 87,au,ir];refine bs6 (λc=>∀t,c [bv t]) (λt=>?_) λc j=>(by simp only[qz 131,nV,j,FA]);(cases t);simp only[qz 129,au,ir];exact D;simp only[qz 129,au,ir];refine aPu z T λu e i E v m n k=>?_;simp only[qz 8,eQ,jr];(first|exact g (λh=>aYx h q) m n k|exact⟨H,g (λh=>aYx h q) m n k⟩);simp only[qz 87,au,ir];exact D;simp only[qz 57,au,ir];exact D;simp only[qz 39,qy 6,au,ir];exact aPu z T λu e i E v m n k=>g (λh=>aYx h q) m n k;have M:=@baM Y;simp only[qz 21,qy 2,au,ir,M];refine aPu z T λu e i E v m n k=>?_;have G:=v H;simp only[qz 4,tf,ci,qM,u0];refine⟨⟨E,by simpa using G⟩,g (λ_=>?_) m n k⟩;have hm:∀x∈([0,0,0,1,1,2,3,4]:eu),0<=x/\x<5:=H;exact hm _<|dB NA;rcases C:Q (kd=3) with _|_;rcases F:Q (kd=4) with _|_;simp only[qz 23,C,F,ir];refine w I λ_=>?_;simp at C F;omega;simp only[qz 23,C,F,ir];exact w U (λh=>Bool.noConfusion h);simp only[qz 23,C,ir];exact w U (λh=>Bool.noConfusion h)
end
theorem aRH{c l}(h:gK c=sl ci l):∃t o,c= .l (l.map ci) t o:=by(cases c<;>first|(simp[gK,sl] at h;done)|skip);rename_i bA t o;simp only[gK,sl,AV.l.injEq] at h;exact⟨t,o,by rw[h.1]⟩
def bdL{ds}{s:aTo}(h:Lk ds s.c):∃x0 g x2 i t4 o4 e a j,ds=[x0,g,x2,i, .l (s.cells.map ci) t4 o4, .l (s.bU.map ci) e a,j]:=by have k:=oC h;obtain⟨h,_⟩:=h;obtain _|⟨x0,_|⟨g,_|⟨x2,_|⟨i,_|⟨m,_|⟨x5,_|⟨j,_|⟨n,ds⟩⟩⟩⟩⟩⟩⟩⟩:=ds<;>simp at k;simp only[ji,mU,aTo.c,kO] at h;obtain⟨t4,o4,rfl⟩:=aRH h.2.2.2.2.1;obtain⟨e,a,rfl⟩:=aRH h.2.2.2.2.2.1;exact⟨_,_,_,_,_,_,_,_,_,A⟩
def bdD{Y b l}{a:Nat}{ds}{s:aTo}{kd ob:Int}(hl:L Y=4096)(T:Tp Y b l a)(o:Lk ds s.c)(hs:L s.eB.ay<1000)(h3:kd=3->aF (L s.cells) ob)(az:0<L s.bU):∃r i,(∃(v:Int) (g:Nat),r=iv v/\Tp i b l g/\a<=g/\Fx Y i [b])/\cZ aS GG 202 [.p b 0 0, .a ds,iv kd,iv ob] Y r i:=bhD hl (oC o) λs2 v5 K2 aA nf E=>by generalize hR:(λ(r:AV) (i:ae)=>∃(v:Int) (g:Nat),r=iv v/\Tp i b l g/\a<=g/\Fx Y i [b])=R;have S:=K2.fx [];have D:=T.fx S O;have z:=S.len.trans hl;have j:∀{v:Int} {g:Nat} {y:ae},Tp y b l g->a<=g->Fx s2 y [b]->R (iv v) y:=λh2 h3 h4=>(by rw[<-hR];exact⟨_,_,A,h2,h3,S.trans h4⟩);have h:∀{v:Int},R (iv v) s2:=j D (dA _)<|Fx.refl _ _;obtain⟨x0,x1,x2,x3,t4,o4,t5,o5,x6,rfl⟩:=bdL o;have M:=λ{Y}=>o.arg Y;have Bi:aN (V 7) [x0,x1,x2,x3, .l (s.cells.map ci) t4 o4, .l (s.bU.map ci) t5 o5,x6]=V (.a [x0,x1,x2,x3, .l (s.cells.map ci) t4 o4, .l (s.bU.map ci) t5 o5,x6]):=A;have k:∀{Y:ae} {l:eu},fS Y (sl ci l)=V (iv<|L l):=cT;rcases F:Q (kd=3) with _|_;rcases P:Q (kd=23) with _|_;simp only[F,P,eQ,↓iB];refine bs6 (λe=>∀t,e [bv t]) (λt=>?_) λe af=>(by simp only[qz 47,nV,af,FA]);(cases t);rcases G:Q (kd=5) with _|_;rcases C:Q (kd=18) with _|_;rcases N:Q (kd=19) with _|_;simp only[qz 45,qy 4,au,G,C,N,ir,↓iB];exact h;simp only[qz 45,qy 4,au,G,C,N,hZ,↓iB,↓iC,E,Bi,ip,aPg,M,bt];refine⟨hs,?_⟩;rintro _ ⟨w,rfl,hw⟩;refine⟨by rw[lo,nA];simp[x9 o],?_⟩;simp only[k,u0];exact h;simp only[qz 45,qy 4,au,G,C,hZ,↓iB,↓iC,E,Bi,ip,aPg,M,bt];refine⟨hs,?_⟩;rintro _ ⟨w,rfl,hw⟩;refine⟨by rw[lo,nA];simp[x9 o],?_⟩;rcases q0:Q ((0:Int)<(L w:Int)) with _|_;simp only[k,eQ,q0,↓iB];exact h;simp only[k,eQ,q0,↓iC];simp only[awG] at q0;refine aPu z D λu g i W h1 n q m=>?_;have ad:=h1 Z;simp only[qz 8,amX,ci,qM,u0];exact⟨⟨W,ad⟩,j n q m⟩;simp only[qz 45,qy 4,qy 6,au,G,ir,↓iC];exact aPu z D λu g i W h1 n q m=>j n q m;simp only[qz 45,qy 4,qy 6,au,ir];exact aPu z D λu g i W h1 n q m=>j n q m;simp only[F,P,ky,↓iB,↓iC,E,nM,ip,tf,ci,qM];exact⟨⟨Z,Z⟩,h⟩;simp only[F,ky,↓iC,E,nM,ip,tf,ci,qM];exact⟨h3 (by simpa using F),h⟩
def aS1{Y n}:aX bH 1 Y [(0,iv n)]=V (.l ([n].map ci) U U,Y):=iz
def bdv{Y b}{l ns:eu}{a:Nat}{x}(E:L Y=4096)(hb:b.1≠28)(T:Tp Y b l a)(g:J7 Y 3 1 x<|ns.map ci)(hn:L ns<=1000):∃r j,(∃(m:eu) (i:Nat),J7 j 3 1 r (m.map ci)/\L m<=L ns/\Tp j b l i/\a<=i/\Fx Y j [b]/\∀q∈aA r,bK Y q/\q.1=28)/\cZ aS GG 203 [.p b 0 0,x] Y r j:=bhC E<|by generalize hR:(λ(r:AV) (j:ae)=>∃(m:eu) (i:Nat),J7 j 3 1 r (m.map ci)/\L m<=L ns/\Tp j b l i/\a<=i/\Fx Y j [b]/\∀q∈aA r,bK Y q/\q.1=28)=R;simp only[g.ln,bJ,u0];refine yW (L ns) (λk c y=>Fx Y y [b]/\(∃i,Tp y b l i/\a<=i)/\∃m:eu,L m<=k/\J7 y 3 1 c (m.map ci)/\∀q∈aA c,bK Y q/\q.1=28) (s0:= .l [] U U) ⟨Fx.refl _ _,⟨a,T,dA _⟩,[],O, .inl ⟨A,A⟩,aBY⟩ ?_;rintro k c y hk ⟨F,⟨i,C,ha⟩,m,hm,D,v⟩;have ad:=F.len.trans E;rcases G:Q ((k:Int)<(L ns:Int)) with _|_;simp only[qz 25,au,eQ,G,↓iB];rw[<-hR];exact⟨m,i,D,Z,C,ha,F,v⟩;have t:=Int.ofNat_lt.1<|aNQ G;have gy:=g.fx F<|aTE T g;have ek:dq.wrap ((k:Int)+3)=(k:Int)+3:=eM Z Z;simp only[qz 25,au,eQ,G,↓iC];refine bsf (λe=>∀{o:AV} {w:ae} {m':eu} {i:Nat},Fx Y w [b]->Tp w b l i->a<=i->L m'<=k+1->J7 w 3 1 o (m'.map ci)->(∀q∈aA o,bK Y q/\q.1=28)->e [o] w) ?_ λe nx=>?_;intro o w m' i F T h1 h2 g p;simp only[qz 45,au,eQ];exact yX t ⟨F,⟨_,T,h1⟩,m',h2,g,p⟩;simp only[qz 47,qy 4,qy 6,eQ];refine(SlR.of gy).ix1 (c:=iv<|gd ns k) (by rw[ve,eC t,aNV t];rfl) λp _=>?_;simp only[gy.ln,bJ,ek,eQ];rcases q2:Q ((L ns:Int)<=(k:Int)+3) with _|_;simp only[jP,↓jN,a7i];exact nx F C ha Z D v;simp only[u0,↓jA,a5C];refine aPu (d:=22) ad C λu a2 y2 h0 h1 S ao M=>?_;have W:=D.fx M<|aTE C D;have z:=(F.trans M).mono (ks':=[b]) λq n=> .inl (by simpa using n);rcases q3:Q (u=1) with _|_;simp only[ir,q3];exact nx z S Z Z W v;simp only[ir,q3,aS1];refine apQ W (z.len.trans E) pU pU O NA λo y3 g3 N P=>?_;have nb:b∉aA c:=λh=>hb (v b h).2;refine nx (m':=m++[gd ns k]) ((z.trans N).mono λq n=>?_) (S.fx N nb) Z NA (by rw[dg];exact g3.p) λq n=>⟨(P q n).1.old z,(P q n).2⟩;obtain h|h:=dF.1 n;exact .inl h;exact .inr (v q h).1.no
structure Rds(Y:ae)(B:Id)(f:Nat->AV)(m:Nat):Prop where
 bx:box Y B=V ⟨25,1,U,U,boY 4 λi=>[f i]⟩
 gr:∀i,i<4->∃ns:eu,L ns<=m/\J7 Y 3 1 (f i) (ns.map ci)
 dj:∀i j,i<4->j<4->i≠j->∀q∈aA (f i),q∉aA (f j)
 pl:∀i,i<4->∀q∈aA (f i),q.1=47\/q.1=103
theorem Rds.kx{Y Y' B f m ks}(a:Rds Y B f m)(k:Kx ks Y Y')(h:B.1∉ks/\47∉ks/\103∉ks):Rds Y' B f m:=⟨k.keep _ _ h.1 a.bx,λi c=>by obtain⟨ns,g,j⟩:=a.gr i c;exact⟨ns,g,k.gr j λq n=>by obtain e|e:=a.pl i c q n<;>rw[e]<;>first|exact h.2.1|exact h.2.2⟩,a.dj,a.pl⟩
theorem Rds.fx{Y Y' B f m Lw}(a:Rds Y B f m)(F:Fx Y Y' Lw)(h:∀q∈Lw,q≠B/\q.1≠47/\q.1≠103):Rds Y' B f m:=⟨F.keep _ _ (λe=>(h _ e).1 A) a.bx,λi g=>by obtain⟨ns,j,k⟩:=a.gr i g;exact⟨ns,j,k.fx F λq n e=>by obtain c|c:=a.pl i g q n<;>first|exact(h q e).2.1 c|exact(h q e).2.2 c⟩,a.dj,a.pl⟩
theorem Rds.rd{Y B f m}(a:Rds Y B f m){u}(h:0<=u/\u<4){K}(i:K<|f u.toNat):rV (cz 1 Y (.m B 4)<|iv u) λp=>rV (sA J Y p) K:=by have c:u.toNat<4:=Z;have e:cz 1 Y (.m B 4) (iv u)=V (.p B u.toNat 0):=(by simp[cz,h.1,a.bx,c]);have g:sA J Y (.p B u.toNat 0)=V (f u.toNat):=(by simp[sA,iE,a.bx,uU c,aN]);rwa [e,aY,g,aY]
structure EvS(Y x:ae)(b:Id)(l:eu)(a0 v5 v6 v8 v11:Nat)(ds:dM)(B:Id)(f:Nat->AV)(u kd ob va st:Int)(dp fr:AV):Prop where
 bx:box x (11,v11)=V ⟨71,7,U,U,[[iv u,iv kd,iv ob,iv va,iv st,dp,fr]]⟩
 b8:box x (8,v8)=V ⟨71,7,U,U,[bti]⟩
 b5:box x (5,v5)=V ⟨42,7,U,U,[ds]⟩
 b6:box x (6,v6)=V ⟨34,6,U,U,[aNE.c]⟩
 tp:∃a',Tp x b l a'/\a0<=a'
 kx:Kx [14,15,16] Y x
 pb:b.1=14\/b.1=15\/b.1=16
 gd:∃m:eu,L m<=1000/\J7 x 3 1 dp (m.map ci)
 gf:∃m:eu,L m<=1000/\J7 x 3 1 fr (m.map ci)
 pd:∀q∈aA dp,q.1=28/\∀z,box Y q≠V z
 pf:∀q∈aA fr,q.1=28/\∀z,box Y q≠V z
 rd:Rds x B f 1000
 pB:B.1=20
 no:(∀z,box Y (11,v11)≠V z)/\∀z,box Y (8,v8)≠V z
section
variable{Y x y:ae}{b B:Id}{l:eu}{a0 v5 v6 v8 v11 d:Nat}{ds:dM}{f:Nat->AV}{u kd ob va st:Int}{dp fr:AV}{K:be}{KS:ae->Prop}
theorem EvS.le(E:EvS Y x b l a0 v5 v6 v8 v11 ds B f u kd ob va st dp fr)(h:L Y=4096):L x=4096:=E.kx.len.trans h
def EvS.nx(E:EvS Y x b l a0 v5 v6 v8 v11 ds B f u kd ob va st dp fr)(F:Fx x y [b]){i}(T:Tp y b l i)(h:a0<=i):EvS Y y b l a0 v5 v6 v8 v11 ds B f u kd ob va st dp fr:=by have n:=E.pb;have c:∀{q:Id},q.1≠14->q.1≠15->q.1≠16->q∉[b]:=λj k r e=>(by simp at e;subst e;omega);obtain⟨m,j,g1⟩:=E.gd;obtain⟨p,k,o⟩:=E.gf;have g:∀{q:Id},q.1=28->q∉[b]:=λh=>c Z Z Z;exact⟨F.keep _ _ (c O O O) E.bx,F.keep _ _ (c O O O) E.b8,F.keep _ _ (c O O O) E.b5,F.keep _ _ (c O O O) E.b6,⟨i,T,h⟩,E.kx.fx F λq a=> .inl (by simp at a;subst a;obtain e|e|e:=n<;>simp[e]),n,⟨m,j,g1.fx F λq a=>g (E.pd q a).1⟩,⟨p,k,o.fx F λq a=>g (E.pf q a).1⟩,E.pd,E.pf,E.rd.fx F (λq a=>by simp at a;subst a;exact⟨λe=>by have:=E.pB;rw[<-e] at this;omega,Z,Z⟩),E.pB,E.no⟩
def EvS.set(E:EvS Y x b l a0 v5 v6 v8 v11 ds B f u kd ob va st dp fr)(F:Fx x y [(11,v11)]){j n k:Int}{c g}(M:box y (11,v11)=V ⟨71,7,U,U,[[iv u,iv kd,iv j,iv n,iv k,c,g]]⟩)(gd:∃m:eu,L m<=1000/\J7 x 3 1 c (m.map ci))(w:∃m:eu,L m<=1000/\J7 x 3 1 g (m.map ci))(p:∀q∈aA c,q.1=28/\∀z,box Y q≠V z)(r:∀q∈aA g,q.1=28/\∀z,box Y q≠V z):EvS Y y b l a0 v5 v6 v8 v11 ds B f u kd j n k c g:=by obtain⟨m,C,g1⟩:=gd;obtain⟨N,D,v⟩:=w;obtain⟨t,T,G⟩:=E.tp;have o:=E.pb;have i:∀{q:Id},q.1=28->q∉[((11,v11):Id)]:=λh e=>(by simp at e;subst e;simp at h);exact⟨M,F.kq E.b8,F.kq E.b5,F.kq E.b6,⟨t,T.fx F (λe=>by simp at e;subst e;simp at o),G⟩,E.kx.fx F<|λq a=> .inr<|by simp at a;subst a;exact E.no.1,o,⟨m,C,g1.fx F λq a=>i (p q a).1⟩,⟨N,D,v.fx F λq a=>i (r q a).1⟩,p,r,E.rd.fx F (λq a=>by simp at a;subst a;exact⟨λe=>by have:=E.pB;rw[<-e] at this;simp at this,O,O⟩),E.pB,E.no⟩
def a56(E:EvS Y x b l a0 v5 v6 v8 v11 ds B f u kd ob va st dp fr)(n:L Y=4096){j:Nat}(k:j<4)(i:∀r y,EvS Y y b l a0 v5 v6 v8 v11 ds B f u kd ob va st dp fr->(∃m:eu,L m<=1000/\J7 y 3 1 r (m.map ci))->(∀q∈aA r,q.1=28/\∀z,box Y q≠V z)->K r y):cB 203 [.p b 0 0,f j] x d K:=by obtain⟨ns,h,g⟩:=E.rd.gr j k;obtain⟨v,T,C⟩:=E.tp;refine jH A (bdv (E.le n) (aYF E.pb) T g h) ?_;rintro r y ⟨m,a2,e,w,c,t,F,p⟩;exact⟨F.len,i r y (E.nx F c Z) ⟨m,Z,e⟩ λq a=>⟨(p q a).2,λz o=>(p q a).1.no z<|E.kx.keep _ _ (by rw[(p q a).2];decide) o⟩⟩
end
def bcs{Y c0 e h i j dp fr m k}(g:J7 Y 3 1 dp<|m.map ci)(n:J7 Y 3 1 fr<|k.map ci):aOo Y (.a [iv c0,iv e,iv h,iv i,iv j,dp,fr])= .a (aP.mk c0 e h i j m k).c:=by show AV.a (List.map gK<|List.map (aTH Y) _)=_;have o:=a6r g;have p:=a6r n;simp only[ji,mU,o,p];rfl
def bdf{Y b B l}{a:Nat}{ds}{s:aTo}{f}(C:L Y=4096)(hb:b.1=14\/b.1=15\/b.1=16)(hB:B.1=20)(T:Tp Y b l a)(hL:Lk ds s.c)(hs:L s.eB.ay<1000)(h3:L s.cells=5)(bf:0<L s.bU)(Oq:Rds Y B f 1000):∃r Y1,(∃(e:aP) (w:Nat),r= .a e.c/\EvL e/\(0<=e.aq/\e.aq<4)/\Tp Y1 b l w/\a<=w/\(a<L l->a+1<=w)/\Kx [14,15,16] Y Y1)/\cZ aS GG 121 [.p b 0 0, .a ds, .a aNE.c, .m B 4] Y r Y1:=by generalize hQ:(λ(r:AV) (y:ae)=>∃(e:aP) (w:Nat),aOo y r= .a e.c/\EvL e/\(0<=e.aq/\e.aq<4)/\Tp (kills y<|aNW r) b l w/\a<=w/\(a<L l->a+1<=w)/\Kx [14,15,16] Y (kills y<|aNW r))=Qq;refine aQR (R:=Qq) ?_ (λr y h=>by rw[<-hQ] at h;exact h);refine bhy C (oC hL) A λs4 v5 v6 K4 cj ck cl b5 b6=>?_;have F4:=K4.fx [];have bp:=F4.len.trans C;simp only[aSL];refine zm bp λv8 s6 N N8 b8=>?_;have W:=F4.trans N;have K6:Kx [14,15,16] Y s6:=W.kx O;have bq:=W.len.trans C;have n8:=(N8.old F4).no;simp only[qz 6];refine aS3 [] bq hb (T.fx W O) O λu a1 s8 bw bA T8 ca bu K8 _=>?_;have hu:0<=u/\u<4:=⟨bw,bA H⟩;have ap:=K6.kx K8 O;have br:=ap.len.trans C;simp only[qz 8,aPg,ar];rintro _ ⟨t,o,rfl⟩;refine⟨by rw[lo,nA];simp,?_⟩;simp only[bdM,u0];refine aS3 [] br hb T8 O λk a2 cm bn bo aZ cb cd an _=>?_;have hk:aF (L aTp) k:=⟨bn,by have:=bo H;simpa using this⟩;have aa:=ap.kx an O;have aO:=aa.len.trans C;simp only[qz 10,tf,ci,qM,eQ];refine⟨hk,?_⟩;generalize gd aTp k.toNat=kd;refine aS3 [] aO hb aZ O λst a3 bF cg ch a7 cc cf ao _=>?_;have G:=aa.kx ao O;have aQ:=G.len.trans C;have bl:∀{u k st:Int},bM bti aP0 [(0,iv u),(1,iv k),(4,iv st)]=V (.a [iv u,iv k,iv 0,iv 0,iv st, .l [] U U, .l [] U U]):=λ{u k st}=>A;simp only[qz 12,qy 14,bl,eQ];generalize dq.wrap (dq.wrap (u*6)+st)=site;refine zm aQ λv11 cn al au a8=>?_;refine stW a8 A rfl λag am bd=>?_;have ax:=G.no O au.no;have ab:=(G.fx al O).fx am λq v=> .inr (by simp at v;subst v;exact ax);have M:Fx bF ag []:=(al.trans am).mono λq v=>(by simp at v;subst v;exact .inr au.no);have kk:∀{q:Id} {z:bY},q.1≠14->q.1≠15->q.1≠16->box s6 q=V z->box ag q=V z:=λh1 P h3 h=>M.kq (ao.keep _ _ (by simp[h1,P,h3])<|an.keep _ _ (by simp[h1,P,h3])<|K8.keep _ _ (by simp[h1,P,h3]) h);simp only[qz 16];refine dT (by simp[eL,lb,lbV,aNG,dC,dK]) ?_;have E:EvS Y ag b l a3 v5 v6 v8 v11 ds B f u kd 0 0 site (.l [] U U) (.l [] U U):=⟨bd,kk O O O b8,kk O O O<|N.kq b5,kk O O O<|N.kq b6,⟨a3,a7.fx M O,dA _⟩,ab,hb,⟨[],O, .inl ⟨A,A⟩⟩,⟨[],O, .inl ⟨A,A⟩⟩,aBY,aBY,Oq.kx ab ⟨by rw[hB];decide,H,H⟩,hB,ax,n8⟩;have aM:a<L l->a+1<=a3:=λh=>(by have:=bu h H;omega);have bW:a<=a3:=Z;have aw:u.toNat<4:=Z;have r7:=@r7A;have uQ:aN (V 7) ds=V (.a ds):=(by have:=oC hL;simp[aN,this,oB<|Nat.le_of_eq this]);refine bpF (λi=>∀{x st},EvS Y x b l a3 v5 v6 v8 v11 ds B f u kd 0 0 st (.l [] U U) (.l [] U U)->i [] x) (λ{x st} E=>?_) λJ4 h4=>?_;(focus simp only[qz 27,ky,E.bx,nM,ip];obtain⟨w,T',bk⟩:=E.tp;refine jH A (bdk (E.le C) T') ?_;rintro _ y ⟨ob,a2,rfl,ho,T2,P,F2⟩;refine⟨F2.len,?_⟩;have j:=E.nx F2 T2 Z;simp only[qz 20,eS,j.bx];refine A0 j.bx A O λz Fz bz=>?_;have S:=j.set Fz bz j.gd j.gf j.pd j.pf;obtain⟨a5,T5,h5⟩:=S.tp;simp only[qz 22,ky,S.bx,S.b5,uQ,nM,ip];refine jH A (bdD (S.le C) T5 hL hs (λh=>?_) bf) ?_;rw[h3];exact ho<|.inl h;rintro _ y2 ⟨va,a6,rfl,T6,h6,N⟩;refine⟨N.len,?_⟩;have D:=S.nx N T6 Z;simp only[qz 24,eS,D.bx];refine A0 D.bx A O λz2 aX bc=>?_;have E:=D.set aX bc D.gd D.gf D.pd D.pf;simp only[qz 26];refine bpF (λi=>∀{x ob va st dp fr},EvS Y x b l a3 v5 v6 v8 v11 ds B f u kd ob va st dp fr->i [] x) (λ{x ob va st dp fr} E=>?_) λJ8 h8=>?_;(focus simp only[qz 51,aI];refine bpF (λi=>∀{x ob va st dp fr},EvS Y x b l a3 v5 v6 v8 v11 ds B f u kd ob va st dp fr->i [] x) (λ{x ob va st dp fr} E=>?_) λb9 av=>?_;simp only[qz 63,qy 36,eQ,E.bx,r7,ip];refine stW E.b8 A rfl λy F b=>?_;simp only[b,eQ,r7];obtain⟨m,h1,g1⟩:=E.gd;obtain⟨m2,P,g2⟩:=E.gf;have az:∀{q:Id},q.1=28->q∉[((8,v8):Id)]:=λh e=>(by simp at e;subst e;simp at h);have y1:=g1.fx F λq v=>az (E.pd q v).1;have y2:=g2.fx F λq v=>az (E.pf q v).1;obtain⟨w,T',bk⟩:=E.tp;have ei:aNW (.a [iv u,iv kd,iv ob,iv va,iv st,dp,fr])=aA dp++aA fr:=(by have i1:=aQX y1;have i2:=aQX y2;have e0:∀{n:Int},iR (iv n)=[]:=A;simp only[aNW,aNN,Cz,List.flatMap_nil,i1,i2,e0,dW,cL]);have nb:∀q∈aA dp++aA fr,q.1=28/\∀z,box Y q≠V z:=λq v=>(by obtain h|h:=dF.1 v;exact E.pd q h;exact E.pf q h);have bv:=E.pb;show Qq (.a [iv u,iv kd,iv ob,iv va,iv st,dp,fr]) y;rw[<-hQ];refine⟨_,w,bcs y1 y2,⟨h1,P⟩,hu,?_,Z,λh=>by have:=aM h;omega,?_⟩;rw[ei];exact(T'.fx F (λe=>by simp at e;subst e;simp at bv)).fx (aOp _ _) λe=>(aYF<|(nb _ e).1);rw[ei];exact(E.kx.fx F<|λq v=> .inr<|by simp at v;subst v;exact E.no.2).fx (aOp _ _) λq v=> .inr (nb q v).2;rcases q4:Q (kd=4) with _|_<;>rcases bC:Q (kd=22) with _|_<;>simp only[qz 65,ky,E.bx,nM,ip,q4,bC,↓jA,↓jN,a5C,bt];exact av E;all_goals refine E.rd.rd hu ?_;refine a56 E C aw λr y j gr pr=>?_;have cr:eY r=V [r]:=(by obtain⟨m,_,g⟩:=gr;exact g.ce);simp only[qz 32,qy 34,eS,j.bx];refine A0 j.bx cr O λz F b=>?_;exact av<|j.set F b j.gd gr j.pd pr);have aV:aN J aNE.c=V (sl cA.c aNE.cells):=A;have bm:L aNE.cells=5:=A;rcases q5:Q (kd=5) with _|_<;>rcases q3:Q (kd=3) with _|_<;>rcases q4:Q (kd=4) with _|_<;>simp only[qz 53,ky,E.bx,E.b6,aV,nM,ip,q5,q3,q4,↓jA,↓jN,a5C,a7i,bt];exact h8 E;(all_goals try have h5:=ho (by simp only[awG,aPs] at q3 q4;omega);simp only[aCd,eQ,cA.c,aC6,nM,ip,k1A];refine⟨⟨h5.1,by rw[bm];exact h5.2⟩,λ_=>?_,λ_=>h8 E⟩);all_goals refine E.rd.rd hu ?_;refine a56 E C aw λr y j gr pr=>?_;have cr:eY r=V [r]:=(by obtain⟨m,_,g⟩:=gr;exact g.ce);simp only[qz 28,qy 30,eS,j.bx];refine A0 j.bx cr O λz F b=>?_;exact h8<|j.set F b gr j.gf pr j.pf);rcases q1:Q (kd=1) with _|_<;>rcases q2:Q (kd=2) with _|_<;>simp only[qz 29,qy 18,ky,E.bx,nM,ip,q1,q2,↓jA,↓jN,a5C,bt];exact h4 E;all_goals refine A0 E.bx A O λz F bz=>?_;exact h4<|E.set F bz E.gd E.gf E.pd E.pf
def bcM{Y e n z v a k r t}(g:J7 Y e z a r)(o:J7 Y n v k t)(h:e≠n):∀q∈aA k,q∉aA a:=λq i j=>by
 obtain⟨_,rfl⟩|⟨b,m,rfl,p⟩:=g
 ·simp[aA] at j
 obtain⟨_,rfl⟩|⟨w,m',rfl,c⟩:=o
 ·simp[aA] at i
 simp only[aA,cE] at j i
 subst j i
 rw[p] at c;exact h<|bss bY.elem<|Option.some.inj c
def J7.fn{Y Y':ae}{e c:TypeId}{z m:Nat}{a i:AV}{r k:List (dM)}(j:J7 Y c m i k)(F:Fx Y Y'<|aA a)(g:J7 Y e z a r)(h:e≠c:=by decide):J7 Y' c m i k:=j.fx F<|bcM g j h
section
variable{Y x y:ae}{s:aTo}{a1 a2 a3 a4 a5 a6:AV}{KS:ae->Prop}
theorem SnL.keep(S:SnL Y x s a1 a2 a3 a4 a5 a6){Lw}(F:Fx x y Lw)(h:∀q∈Lw,q.1≠6/\q.1≠32/\q.1≠10/\q.1≠14):SnL Y y s a1 a2 a3 a4 a5 a6:=⟨S.g1.fx F λq a e=>(h q e).1 (S.p1 q a).2,S.g2.fx F λq a e=>(h q e).1 (S.p2 q a).2,S.g3.fx F λq a e=>(h q e).1 (S.p3 q a).2,S.g4.fx F λq a e=>(h q e).2.1 (S.p4 q a).2,S.g5.fx F λq a e=>(h q e).2.2.1 (S.p5 q a).2,S.g6.fx F λq a e=>(h q e).2.2.2 (S.p6 q a).2,S.p1,S.p2,S.p3,S.p4,S.p5,S.p6⟩
theorem SnL.old{a Lw}(S:SnL Y x s a1 a2 a3 a4 a5 a6)(F:Fx a Y Lw):SnL a x s a1 a2 a3 a4 a5 a6:=⟨S.g1,S.g2,S.g3,S.g4,S.g5,S.g6,λq h=>⟨(S.p1 q h).1.old F,(S.p1 q h).2⟩,λq h=>⟨(S.p2 q h).1.old F,(S.p2 q h).2⟩,λq h=>⟨(S.p3 q h).1.old F,(S.p3 q h).2⟩,λq h=>⟨(S.p4 q h).1.old F,(S.p4 q h).2⟩,λq h=>⟨(S.p5 q h).1.old F,(S.p5 q h).2⟩,λq h=>⟨(S.p6 q h).1.old F,(S.p6 q h).2⟩⟩
theorem a7V{α}[Inhabited α]{c e}{z:Nat}{a}{l:List α}(g:J7 x e z a<|l.map c)(P:∀y,L (c y)=z){i:Int}(k:aF (L l) i){j:Nat}{v t}(M:j<z)(E:eY (nrm<|eR x v)=V [nrm<|eR x v])(G:eN (nrm<|eR x v)=U)(hI:aNN v=[]){o:AV->be}(N:(c<|gd l i.toNat).set j (nrm<|eR x v)=c t)(C:∀p h y,Fx x y (aA a)->J7 y e z a ((l.set i.toNat t).map c)->o p h y):rV (cz z x a<|iv i) λp=>rV (iQ j x p) λh=>sV (aK 1 x h v) (o p h):=ixG g (by simpa using k) λb m D w=>by have:i.toNat<L l:=(be7 k.1 k.2);simp only[rR,w,df,aY,aj];refine aQz (r:=c<|gd l i.toNat) w brU vB E G hI λy F q=>?_;have n:(l.map c++m).set i.toNat ((c<|gd l i.toNat).set j<|nrm<|eR x v)=(l.set i.toNat t).map c++m:=vB;rw[n] at q;exact C _ _ y bno (.inr ⟨b,m,by rw[D];simp,q⟩)
end
def sz5(s:aTo):Prop:=L s.eB.ak=3/\L s.eB.done=1/\L s.eB.ay=4/\L s.cells=5/\L s.bU=1/\L s.count=4/\(∀q∈s.eB.ak,L q.bk<=1)/\∀c∈s.count,0<=c/\c<=400
structure Bg(Y x:ae)(b:Id)(l:eu)(a0 v4 v8:Nat)(a1 a2 a3 a4 a5 a6:AV):Prop where
 ex:∃s:aTo,SnL Y x s a1 a2 a3 a4 a5 a6/\sz5 s/\box x (5,v8)=V ⟨42,7,U,U,[[a1,iv s.eB.tx,a2,a3,a4,a5,a6]]⟩
 b4:box x (4,v4)=V ⟨42,7,U,U,[bsF]⟩
 tp:∃a',Tp x b l a'/\a0<=a'
 kx:Kx [14,15,16] Y x
 pb:b.1=14\/b.1=15\/b.1=16
 no:(∀z,box Y (4,v4)≠V z)/\∀z,box Y (5,v8)≠V z
section
variable{Y x y:ae}{b:Id}{l:eu}{a0 v4 v8 d:Nat}{a1 a2 a3 a4 a5 a6:AV}{K:be}{KS:ae->Prop}
theorem Bg.le(B:Bg Y x b l a0 v4 v8 a1 a2 a3 a4 a5 a6)(h:L Y=4096):L x=4096:=B.kx.len.trans h
theorem aPS(B:Bg Y x b l a0 v4 v8 a1 a2 a3 a4 a5 a6)(t:L Y=4096){n:Int}(r:∀(u:Int) y,0<=u->(1<=n->u<n)->Bg Y y b l a0 v4 v8 a1 a2 a3 a4 a5 a6->K (iv u) y):cV 119 [.p b 0 0,iv n] x d K:=by obtain⟨s,S,v,j⟩:=B.ex;obtain⟨w,T,C⟩:=B.tp;refine aS3 (aA a6) (B.le t) B.pb T (λq g=>⟨.inl (S.p6 q g).2,?_⟩) λu e y k o i z _ a kp=>r u y k o ⟨⟨s,⟨a.gr S.g1 λq h=>by rw[(S.p1 q h).2];decide,a.gr S.g2 λq h=>by rw[(S.p2 q h).2];decide,a.gr S.g3 λq h=>by rw[(S.p3 q h).2];decide,a.gr S.g4 λq h=>by rw[(S.p4 q h).2];decide,a.gr S.g5 λq h=>by rw[(S.p5 q h).2];decide,?_,S.p1,S.p2,S.p3,S.p4,S.p5,S.p6⟩,v,a.kq j⟩,a.kq B.b4,⟨e,i,Z⟩,B.kx.kx a O,B.pb,B.no⟩;obtain⟨_,rfl⟩|⟨c,m,rfl,h⟩:=S.g6;simp[aA] at g;grind [aA];obtain h|⟨c,m,rfl,h⟩:=S.g6;exact .inl h;exact .inr ⟨c,m,A,kp c aBY _ h⟩
theorem a5S(B:Bg Y x b l a0 v4 v8 a1 a2 a3 a4 a5 a6)(n:L Y=4096){t:Int}(m:∀(u:Int) y,(u= -1\/aF 4 u)->Bg Y y b l a0 v4 v8 a1 a2 a3 a4 a5 a6->K (iv u) y):cB 120 [.p b 0 0, .a [a1,iv t,a2,a3,a4,a5,a6]] x d K:=by obtain⟨s,S,j,C⟩:=B.ex;obtain⟨w,T,E⟩:=B.tp;have o:=B.pb;have v:=j.2.2.2.2.2.1;refine jH A (bdc (B.le n) T S.g6 Z) ?_;rintro _ y ⟨u,h,rfl,i,k,D,F⟩;rw[v] at i;have c:∀{a:AV} {e:TypeId} {z:Nat} {r:List (dM)},J7 x e z a r->J7 y e z a r:=λg=>g.fx F<|aTE T g;have:∀{q:Id},q.1≠14->q.1≠15->q.1≠16->q∉[b]:=X;exact⟨F.len,m u y i ⟨⟨s,⟨c S.g1,c S.g2,c S.g3,c S.g4,c S.g5,c S.g6,S.p1,S.p2,S.p3,S.p4,S.p5,S.p6⟩,j,bsq⟩,(by grind [Fx.keep,Bg.b4]),⟨h,k,Z⟩,B.kx.fx F vB,o,B.no⟩⟩
theorem Bg.wr(B:Bg Y x b l a0 v4 v8 a1 a2 a3 a4 a5 a6){Lw}(F:Fx x y Lw)(h:∀q∈Lw,bK Y q/\(q.1=6\/q.1=32\/q.1=10\/q.1=14))(i:∀q∈Lw,∀z,box x q=V z->z.var=U->False){s}(S:SnL Y y s a1 a2 a3 a4 a5 a6)(k:sz5 s)(g:∃z,box x (5,v8)=V z/\z=⟨42,7,U,U,[[a1,iv s.eB.tx,a2,a3,a4,a5,a6]]⟩):Bg Y y b l a0 v4 v8 a1 a2 a3 a4 a5 a6:=by obtain⟨a,T,c⟩:=B.tp;obtain⟨z,j,rfl⟩:=g;exact⟨bsq,(by grind [Fx.keep,Bg.b4]),⟨a,T.fx F λe=>i b e _ T.bx A,c⟩,B.kx.fx F aUw,B.pb,B.no⟩
theorem baw(B:Bg Y x b l a0 v4 v8 a1 a2 a3 a4 a5 a6){i v}(o:aF 4 i)(n:0<=v/\v<=400){e:be}(k:∀p y,Bg Y y b l a0 v4 v8 a1 a2 a3 a4 a5 a6->e p y):rV (cz 1 x a6<|iv i) λp=>sV (aK 1 x p<|iv v) (e p):=by obtain⟨s,S,a,g⟩:=B.ex;have:=a.2.2.2.2.2.1;refine aR5 S.g6 vB λp y F j=>k p y (B.wr F (by grind [SnL.p6]) (aNO S.g6) (s:={s with count:=s.count.set i.toNat v}) ⟨S.g1.fn F S.g6,S.g2.fn F S.g6,S.g3.fn F S.g6,S.g4.fn F S.g6,S.g5.fn F S.g6,j,S.p1,S.p2,S.p3,S.p4,S.p5,S.p6⟩ ⟨a.1,a.2.1,a.2.2.1,a.2.2.2.1,a.2.2.2.2.1,X,a.2.2.2.2.2.2.1,λc m=>by obtain h|rfl:=CC m;exact a.2.2.2.2.2.2.2 c h;exact n⟩ ⟨_,g,A⟩)
theorem bav(B:Bg Y x b l a0 v4 v8 a1 a2 a3 a4 a5 a6){i v}(m:aF 5 i){a:be}(j:∀p y,Bg Y y b l a0 v4 v8 a1 a2 a3 a4 a5 a6->a p y):rV (cz 1 x a4<|iv i) λp=>sV (aK 1 x p<|iv v) (a p):=by obtain⟨s,S,k,c⟩:=B.ex;have:=k.2.2.2.1;refine aR5 S.g4 vB λp y F e=>j p y (B.wr F (by grind [SnL.p4]) (aNO S.g4) (s:={s with cells:=s.cells.set i.toNat v}) ⟨S.g1.fn F S.g4,S.g2.fn F S.g4,S.g3.fn F S.g4,e,S.g5.fx F (λq h g=>by have:=(S.p5 q h).2;have:=(S.p4 q g).2;omega),S.g6.fn F S.g4,S.p1,S.p2,S.p3,S.p4,S.p5,S.p6⟩ (by grind [sz5]) ⟨_,c,A⟩)
theorem bay(B:Bg Y x b l a0 v4 v8 a1 a2 a3 a4 a5 a6){i v}(m:aF 1 i){a:be}(j:∀p y,Bg Y y b l a0 v4 v8 a1 a2 a3 a4 a5 a6->a p y):rV (cz 1 x a5<|iv i) λp=>sV (aK 1 x p<|iv v) (a p):=by obtain⟨s,S,k,c⟩:=B.ex;have:=k.2.2.2.2.1;refine aR5 S.g5 vB λp y F e=>j p y (B.wr F (by grind [SnL.p5]) (aNO S.g5) (s:={s with bU:=s.bU.set i.toNat v}) ⟨S.g1.fn F S.g5,S.g2.fn F S.g5,S.g3.fn F S.g5,S.g4.fx F (λq h g=>by have:=(S.p4 q h).2;have:=(S.p5 q g).2;omega),e,S.g6.fn F S.g5,S.p1,S.p2,S.p3,S.p4,S.p5,S.p6⟩ (by grind [sz5]) ⟨_,c,A⟩)
theorem a5T(B:Bg Y x b l a0 v4 v8 a1 a2 a3 a4 a5 a6){i}(e:aF 3 i){j v}(G:(j=0/\∃u:Int,v=iv u)\/(j=1/\∃(u:Int) (t o:Bool),v= .l [[iv u]] t o))(w:∀y,Bg Y y b l a0 v4 v8 a1 a2 a3 a4 a5 a6->KS y):rV (cz 2 x a1<|iv i) λp=>rV (iQ j x p) λM=>sV (aK 1 x M v) KS:=by obtain⟨s,S,a,g⟩:=B.ex;have:=a.1;obtain⟨t,E,D,z,m,n,r⟩:∃t:cg,(cg.c<|gd s.eB.ak i.toNat).set j (nrm<|eR x v)=t.c/\L t.bk<=1/\j<2/\eY (nrm<|eR x v)=V [nrm<|eR x v]/\eN (nrm<|eR x v)=U/\aNN v=[]:=(by obtain⟨rfl,u,rfl⟩|⟨rfl,u,t,o,rfl⟩:=G;refine⟨⟨u,(gd s.eB.ak i.toNat).bk⟩,A,a.2.2.2.2.2.2.1 (gd s.eB.ak i.toNat)<|dB ?_,H,A,A,A⟩;have:=e.1;have:=e.2;omega;exact⟨⟨(gd s.eB.ak i.toNat).aPo,[u]⟩,A,O,H,A,A,A⟩);refine a7V S.g1 (λ_=>A) vB z m n r E λ_ _ y F k=>w y (B.wr F (by grind [SnL.p1]) (aNO S.g1) (s:={s with eB:={s.eB with ak:=s.eB.ak.set i.toNat t}}) ⟨k,S.g2.fn F S.g1,S.g3.fn F S.g1,S.g4.fn F S.g1,S.g5.fn F S.g1,S.g6.fn F S.g1,S.p1,S.p2,S.p3,S.p4,S.p5,S.p6⟩ ⟨X,a.2.1,a.2.2.1,a.2.2.2.1,a.2.2.2.2.1,a.2.2.2.2.2.1,λq C=>?_,a.2.2.2.2.2.2.2⟩ ⟨_,g,A⟩);obtain h|rfl:=CC C;exact a.2.2.2.2.2.2.1 q h;exact D
theorem bfp{e}{z:Nat}{bA r q}{i:Nat}{cs}(c:box x q=V ⟨e,z,U,I,bA⟩)(g:bA[i]?=V r)(m:L r=z)(n:L cs=z)(o:cs.all eN=U)(k:nrm (eR x<|.a cs)= .a cs)(hI:aNN (.a cs)=[])(j:∀Y',Fx x Y' [q]->box Y' q=V ⟨e,z,U,I,bA.set i cs⟩->KS Y'):sV (aK z x (.p q i 0)<|.a cs) KS:=by have h:aK z x (.p q i 0) (.a cs)=V (wr x q ⟨e,z,U,I,bA.set i cs⟩):=(by simp only[aK,aBG,c,eE,btd,hI,kills,aRl,k,pW,eY,g];grind);rw[h];exact j _ (wc c)<|lO c
theorem baC(B:Bg Y x b l a0 v4 v8 a1 a2 a3 a4 a5 a6){i st}(j:aF 4 i)(n:∀y,Bg Y y b l a0 v4 v8 a1 a2 a3 a4 a5 a6->KS y):rV (cz 3 x a3<|iv i) λp=>sV (aK 3 x p<|.a [iv st,iv 0,bv I]) KS:=by obtain⟨s,S,v,k⟩:=B.ex;have:=v.2.2.1;have:i.toNat<L s.eB.ay:=(be7 j.1 j.2);refine ixG S.g3 vB λq m o t=>?_;refine bfp t (r:=aoC.c<|gd s.eB.ay i.toNat) brU A rfl rfl rfl rfl λy F h=>?_;have e:Fx x y (aA a3):=bno;have g:(s.eB.ay.map aoC.c++m).set i.toNat [iv st,iv 0,bv I]=(s.eB.ay.set i.toNat ⟨st,0,I⟩).map aoC.c++m:=(by rw[List.set_append_left _ _ X,bsl];rfl);rw[g] at h;exact n y (B.wr e (by grind [SnL.p3]) (aNO S.g3) (s:={s with eB:={s.eB with ay:=s.eB.ay.set i.toNat ⟨st,0,I⟩}}) ⟨S.g1.fn e S.g3,S.g2.fn e S.g3, .inr ⟨q,m,by rw[o];simp,h⟩,S.g4.fn e S.g3,S.g5.fn e S.g3,S.g6.fn e S.g3,S.p1,S.p2,S.p3,S.p4,S.p5,S.p6⟩ (by grind [sz5]) ⟨_,k,A⟩)
end
section
variable{Y x y:ae}{b:Id}{l:eu}{a0 v4 v8 d:Nat}{a1 a2 a3 a4 a5 a6:AV}{K:be}{KS:ae->Prop}
theorem bat(B:Bg Y x b l a0 v4 v8 a1 a2 a3 a4 a5 a6){i f}(k:aF 4 i){c:AV->be}(h:∀p a y,Bg Y y b l a0 v4 v8 a1 a2 a3 a4 a5 a6->c p a y):rV (cz 3 x a3<|iv i) λp=>rV (iQ 2 x p) λa=>sV (aK 1 x a<|bv f) (c p a):=by obtain⟨s,S,j,e⟩:=B.ex;have:=j.2.2.1;refine a7V S.g3 (λ_=>A) vB H A rfl rfl (t:={gd s.eB.ay i.toNat with atomic:=f}) A λp a y F g=>h p a y (B.wr F (by grind [SnL.p3]) (aNO S.g3) (s:={s with eB:={s.eB with ay:=s.eB.ay.set i.toNat {gd s.eB.ay i.toNat with atomic:=f}}}) ⟨S.g1.fn F S.g3,S.g2.fn F S.g3,g,S.g4.fn F S.g3,S.g5.fn F S.g3,S.g6.fn F S.g3,S.p1,S.p2,S.p3,S.p4,S.p5,S.p6⟩ (by grind [sz5]) ⟨_,e,A⟩)
theorem bax(B:Bg Y x b l a0 v4 v8 a1 a2 a3 a4 a5 a6){i f}(g:aF 1 i)(j:∀y,Bg Y y b l a0 v4 v8 a1 a2 a3 a4 a5 a6->KS y):rV (cz 1 x a2<|iv i) λp=>sV (aK 1 x p<|bv f) KS:=by obtain⟨s,S,o,h⟩:=B.ex;have:=o.2.1;have:i.toNat<L s.eB.done:=(be7 g.1 g.2);refine ixG S.g2 vB λq m k n=>?_;refine aQz (x:=bv f) (r:=cb<|gd s.eB.done i.toNat) n brU (by simp[cb]) A rfl rfl λy F e=>?_;have a:Fx x y (aA a2):=bno;have c:(s.eB.done.map cb++m).set i.toNat ((cb<|gd s.eB.done i.toNat).set 0<|nrm<|eR x<|bv f)=(s.eB.done.set i.toNat f).map cb++m:=(by rw[List.set_append_left _ _ X,bsl];rfl);rw[c] at e;exact j y (B.wr a (by grind [SnL.p2]) (aNO S.g2) (s:={s with eB:={s.eB with done:=s.eB.done.set i.toNat f}}) ⟨S.g1.fn a S.g2, .inr ⟨q,m,by rw[k];simp,e⟩,S.g3.fn a S.g2,S.g4.fn a S.g2,S.g5.fn a S.g2,S.g6.fn a S.g2,S.p1,S.p2,S.p3,S.p4,S.p5,S.p6⟩ (by grind [sz5]) ⟨_,h,A⟩)
theorem baD(B:Bg Y x b l a0 v4 v8 a1 a2 a3 a4 a5 a6){t}(h:∀y,Bg Y y b l a0 v4 v8 a1 a2 a3 a4 a5 a6->KS y):sV (aK 1 x (.p (5,v8) 0 1)<|iv t) KS:=by obtain⟨s,S,k,e⟩:=B.ex;obtain⟨c,T,i⟩:=B.tp;have j:=B.pb;refine A0 e A O λy F g=>h y ⟨⟨{s with eB:={s.eB with tx:=t}},(by have a:=S.keep F O;exact⟨a.g1,a.g2,a.g3,a.g4,a.g5,a.g6,a.p1,a.p2,a.p3,a.p4,a.p5,a.p6⟩),k,g⟩,F.kq B.b4,⟨c,(by grind [Tp.fx]),i⟩,B.kx.fx F (by grind [Bg.no]),j,B.no⟩
theorem baB(B:Bg Y x b l a0 v4 v8 a1 a2 a3 a4 a5 a6):∃st:Nat->Int,∀{i K},aF 4 i->K (iv<|st i.toNat)->rV (cz 3 x a3<|iv i) λp=>rV (iQ 0 x p) λn=>rV (sA J x n) K:=by obtain⟨s,S,j,o⟩:=B.ex;have:=j.2.2.1;refine⟨λk=>(gd s.eB.ay k).cQ,λ{i K} a h=>?_⟩;have:i.toNat<L s.eB.ay:=(be7 a.1 a.2);refine ixG S.g3 vB λq m r e=>?_;have g:(s.eB.ay.map aoC.c++m)[i.toNat]?=V (aoC.c<|gd s.eB.ay i.toNat):=brU;simp only[rR,aC5,e,df,a6X,g,aY,aj,ip,aoC.c,k1A];exact h
theorem aN5(B:Bg Y x b l a0 v4 v8 a1 a2 a3 a4 a5 a6){j}:iQ j x (.p (5,v8) 0 0)=V (.p (5,v8) 0 j):=by grind [Bg.ex,rR]
theorem aRC(B:Bg Y x b l a0 v4 v8 a1 a2 a3 a4 a5 a6):sA J x (.p (5,v8) 0 0)=V a1:=by grind [Bg.ex,aC5,k1A]
theorem baz(B:Bg Y x b l a0 v4 v8 a1 a2 a3 a4 a5 a6):sA J x (.p (5,v8) 0 2)=V a2:=by grind [Bg.ex,aC5,k1A]
theorem aS0(B:Bg Y x b l a0 v4 v8 a1 a2 a3 a4 a5 a6):sA J x (.p (5,v8) 0 3)=V a3:=by obtain⟨s,S,c,a⟩:=B.ex;grind [aC5,k1A]
def a5U(B:Bg Y x b l a0 v4 v8 a1 a2 a3 a4 a5 a6):sA J x (.p (5,v8) 0 4)=V a4:=by obtain⟨s,S,c,a⟩:=B.ex;rw[aC5,a];simp[k1A]
def baA(B:Bg Y x b l a0 v4 v8 a1 a2 a3 a4 a5 a6):sA J x (.p (5,v8) 0 5)=V a5:=by obtain⟨s,S,c,a⟩:=B.ex;rw[aC5,a];simp[k1A]
def a5V(B:Bg Y x b l a0 v4 v8 a1 a2 a3 a4 a5 a6):sA J x (.p (5,v8) 0 6)=V a6:=by obtain⟨s,S,c,a⟩:=B.ex;rw[aC5,a];simp[k1A]
def a5W(B:Bg Y x b l a0 v4 v8 a1 a2 a3 a4 a5 a6):∃t:Int,sA (V 7) x (.p (5,v8) 0 0)=V (.a [a1,iv t,a2,a3,a4,a5,a6]):=by obtain⟨s,S,e,c⟩:=B.ex;exact⟨s.eB.tx,by rw[aC5,c];rfl⟩
def aV3(B:Bg Y x b l a0 v4 v8 a1 a2 a3 a4 a5 a6):fS x a1=V (iv (3:Nat))/\fS x a4=V (iv (5:Nat))/\fS x a6=V (iv (4:Nat)):=by obtain⟨s,S,a,c⟩:=B.ex;refine⟨?_,?_,?_⟩;rw[S.g1.ln,bJ,a.1];rw[S.g4.ln,bJ,a.2.2.2.1];rw[S.g6.ln,bJ,a.2.2.2.2.2.1]
end
def baP{Y}:aX bH 9 Y [(0,iv 2),(1,iv 2),(2,iv 2),(3,iv 2),(4,iv 0),(5,iv 1),(6,iv 3),(7,iv 4),(8,iv 5)]=V (.l ([2,2,2,2,0,1,3,4,5].map ci) U U,Y):=a7c
section
attribute[local irreducible] aX
def bdb{Y b l}{a:Nat}(m:L Y=4096)(hb:b.1=14\/b.1=15\/b.1=16)(T:Tp Y b l a):∃r Y1,(∃(s:aTo) (E:Nat),r= .a s.c/\sz5 s/\Tp Y1 b l E/\a<=E/\Kx [14,15,16] Y Y1)/\cZ aS GG 58 [.p b 0 0, .a aNE.c] Y r Y1:=by generalize hQ:(λ(r:AV) (y:ae)=>∃(s:aTo) (E:Nat),aOo y r= .a s.c/\sz5 s/\Tp (kills y<|aNW r) b l E/\a<=E/\Kx [14,15,16] Y (kills y<|aNW r))=Qq;refine aQR (R:=Qq) ?_ X;refine bhw m A λs2 v3 K2 bw nf b3=>?_;have F2:=K2.fx [];have aO:=F2.len.trans m;simp only[aSH];refine zm aO λv4 s4 F4 N4 b4=>?_;have N:=F2.trans F4;have am:=N.len.trans m;have c3:=F4.kq b3;have aU:aN (V 6) aNE.c=V (.a aNE.c):=A;simp only[qz 4,eQ,c3,aU,ip];refine jH A (aXI (w:=aNE) am H H H H) ?_;rintro _ s7 ⟨a1,a2,a3,a4,a5,a6,rfl,S,F7⟩;refine⟨F7.len,?_⟩;have aP:=F7.len.trans am;simp only[qz 6,qy 8];refine zm aP λv8 s9 F9 N8 b8=>?_;refine stW b8 A rfl λaV ab c8=>?_;have aC:Fx s4 s9 []:=F7.trans F9;have al:Fx Y s9 []:=N.trans aC;have n8:=(N8.old<|N.trans F7).no;have n4:=(N4.old F2).no;have B0:Bg Y aV b l a v4 v8 a1 a2 a3 a4 a5 a6:=⟨⟨aH6 aNE,((S.keep F9 O).keep ab O).old N,⟨A,A,A,A,A,A,H,H⟩,c8⟩,bsq,⟨a,(T.fx al O).fx ab X,dA _⟩,(al.kx O).fx ab vB,hb,n4,n8⟩;have:=B0.le m;have aG:∀{x:ae},Bg Y x b l a v4 v8 a1 a2 a3 a4 a5 a6->rV (sA (V 7) x<|.p (5,v8) 0 0) λaz=>sV (aK 7 x (.p (4,v4) 0 0) az) λag=>rV (sA (V 7) ag<|.p (4,v4) 0 0) λaA=>aRf Qq ag [aA]:=λ{x} B=>(by obtain⟨s,S,hz,b8⟩:=B.ex;obtain⟨E,T',ha⟩:=B.tp;have W:=@r7A;simp only[u1,b8,W,aY,ip];refine stW B.b4 A rfl λy F aE=>?_;simp only[u1,aE,W,aY];have S':=S.keep F O;show Qq (.a [a1,iv s.eB.tx,a2,a3,a4,a5,a6]) y;rw[<-hQ];refine⟨s,E,?_,hz,(T'.fx F X).fx (aOp _ _)<|λe=>(S'.ids b e).1.no _ T.bx,ha,(B.kx.fx F vB).fx (aOp _ _) λq hq=> .inr (S'.ids q hq).1.no⟩;show AV.a (List.map gK<|List.map (aTH y) _)=_;rw[vA];exact bss AV.a S'.lz);have i4:∀{k:Nat},k<4->aF 4 (k:Int):=λh=>⟨Z,Z⟩;simp only[qz 10,aN5 B0,a5V B0,(aV3 B0).2.2,aY];refine yV 4 (λ_ _ y=>Bg Y y b l a v4 v8 a1 a2 a3 a4 a5 a6) B0 ?_;rintro k _ x hk B;rcases t:Q ((k:Int)<((4:Nat):Int)) with _|_;simp only[qz 25,aI,au,av4,aY,t,↓iB,aN5 B,aRC B,(aV3 B).1];refine yV 3 (λ_ _ y=>Bg Y y b l a v4 v8 a1 a2 a3 a4 a5 a6) B ?_;rintro k _ x hk B;rcases t:Q ((k:Int)<((3:Nat):Int)) with _|_;simp only[qz 103,aI,au,av4,aY,t,↓iB];refine bpF (λg=>∀{x:ae},Bg Y x b l a v4 v8 a1 a2 a3 a4 a5 a6->g [] x) ?_ λg ac=>?_;intro x B;simp only[qz 159,aI];refine bpF (λg=>∀{x:ae},Bg Y x b l a v4 v8 a1 a2 a3 a4 a5 a6->g [] x) ?_ λg ad=>?_;intro x B;simp only[qz 171,aI,aN5 B,a5U B,(aV3 B).2.1,aY];refine yV 5 (λ_ _ y=>Bg Y y b l a v4 v8 a1 a2 a3 a4 a5 a6) B ?_;rintro k _ x hk B;rcases t:Q ((k:Int)<((5:Nat):Int)) with _|_;simp only[qz 199,qy 54,aI,au,av4,aY,t,↓iB];exact aG B;have o:k<5:=X;simp only[qz 199,qy 54,aI,au,av4,aY,t,↓iC,aN5 B,a5U B];refine aPS B m λu y P G i=>?_;simp only[qz 50,au];refine bav i ⟨Z,Z⟩ λp y2 j=>?_;simp only[qz 52];refine dT (by simp[eL,lb,lbV,aNG,dC,dK]) ?_;simp only[au,cS,aY];exact yU o j;simp only[qz 173];refine aPS B m λu y P G i=>?_;rcases n:Q (u=2) with _|_;simp only[qz 42,iM,aY,n,↓iB];exact ad i;simp only[qz 42,iM,aY,n,↓iC,aN5 i,baz i];refine bax i ⟨Z,Z⟩ λy2 j=>?_;simp only[qz 44,aN5 j,baA j,aY];refine aPS j m λu2 y3 h2 h3 D=>?_;simp only[qz 46];refine bay D ⟨Z,Z⟩ λp y4 B5=>?_;simp only[qz 48];refine dT (by simp[eL,lb,lbV,aNG,dC,dK]) ?_;exact ad B5;simp only[qz 161];refine aPS B m λu y P G i=>?_;rcases n:Q (u=2) with _|_;simp only[qz 36,iM,aY,n,↓iB];exact ac i;obtain⟨t7,W⟩:=a5W i;simp only[qz 36,iM,aY,n,↓iC,W];refine a5S i m λu2 y2 _ j=>?_;simp only[qz 38,qy 40,aN5 j,aY];exact baD j λy3 D=>ac D;have o:k<3:=X;simp only[qz 103,aI,au,av4,aY,t,↓iC];refine bpF (λg=>∀y,Bg Y y b l a v4 v8 a1 a2 a3 a4 a5 a6->g [] y) ?_ λg hJ=>?_;intro y B;simp only[qz 123,aI,au,cS,aY];exact yU o B;obtain⟨t7,W⟩:=a5W B;simp only[qz 125,W,aY];refine a5S B m λu y hu i=>?_;have i3:aF 3 (k:Int):=⟨Z,Z⟩;rcases qu:Q (u<0) with _|_;have ao:aF 4 u:=(by simp only[aPs] at qu;obtain h|h:=hu;omega;exact h);have own:∀{z:ae},Bg Y z b l a v4 v8 a1 a2 a3 a4 a5 a6->rV (cz 2 z a1<|iv k) λp=>rV (iQ 0 z p) λp'=>sV (aK 1 z p'<|iv u) λay=>g [] ay:=λ{z} Bz=>a5T Bz i3 O λy B=>hJ y B;rcases v:Q ((k:Int)=0) with _|_;rcases n:Q ((k:Int)=2) with _|_;simp only[qz 26,qy 34,au,jP,av4,iM,aOq,qu,v,n,↓jN,a7i,aN5 i,aRC i];exact own i;simp only[qz 26,qy 34,au,jP,av4,iM,aPh,qu,n,↓jA,a5C];refine aPS (d:=85) i m λu2 z P G j=>?_;rcases C:Q (u2=1) with _|_;simp only[jP,iM,C,v,↓jN,a7i,aN5 j,aRC j];exact own j;simp only[au,jP,iM,C,v,aS1,↓jN,a7i,aN5 j,aRC j,qz 30,qy 32];exact a5T j i3 O λy B=>hJ y B;have n:Q ((k:Int)=2)=I:=vB;obtain⟨st,an⟩:=baB i;simp only[qz 26,qy 34,au,jP,av4,iM,aOq,qu,v,n,↓jA,↓jN,a5C,a7i,aN5 i,aRC i,aS0 i];refine an ao ?_;rcases C:Q (st u.toNat=3) with _|_;simp only[u0,iM,C,↓jA,a7i,aN5 i,aS0 i];refine an ao ?_;rcases q4:Q (st u.toNat=4) with _|_;simp only[jP,iM,q4];exact own i;simp only[jP,iM,q4];exact hJ _ i;simp only[jP,iM,C,↓jN,a5C];exact hJ _ i;simp only[qz 26,qy 34,au,jP,av4,iM,qu];exact hJ _ i;have o:k<4:=X;simp only[qz 25,aI,au,av4,aY,t,↓iC];refine bpF (λg=>∀y,Bg Y y b l a v4 v8 a1 a2 a3 a4 a5 a6->g [] y) ?_ λg hJ=>?_;intro y B;simp only[qz 45,aI,au,cS,aY];exact yU o B;simp only[qz 47,baP,bQ,qz 12];refine aPS B m λu y P G i=>?_;have aJ:=G H;simp only[qz 14,tf,ci,qM,aY];refine⟨⟨P,by simpa using aJ⟩,?_⟩;refine bvP (λg=>∀st:Int,g [iv st]) (λst=>?_) λg M=>?_;skip;have aL:bM bwO aM7 [(0,iv st)]=V (.a [iv st,iv 0,bv I]):=A;simp only[qz 63,aI,au,aN5 i,aS0 i,aL,aY];refine baC i (i4 o) λy i=>?_;rcases v:Q (st≠0) with _|_;simp only[qz 16,au,jP,av6,v,↓jN,a7i];exact hJ _ i;rcases t:Q (st≠1) with _|_;simp only[qz 16,au,jP,av6,v,t,↓jA];exact hJ _ i;simp only[qz 16,au,jP,av6,v,t,aN5 i,a5V i,↓jA];refine aPS i m λu y2 P G j=>?_;simp only[qz 18,au,cS,aY];have:=G H;refine baw j (i4 o) brE λp y3 D=>?_;simp only[qz 20];refine dT (by simp[eL,lb,lbV,aNG,dC,dK]) ?_;simp only[aN5 D,aS0 D,aY];refine aPS D m λu2 y4 h2 h3 B5=>?_;simp only[qz 22,au,iM,aY];refine bat B5 (i4 o) λp p' y5 B6=>?_;simp only[qz 24];refine dT (by simp[eL,lb,lbV,aNG,dC,dK]) ?_;exact hJ _ B6;simp only[qz 65,au];generalize gd ([2,2,2,2,0,1,3,4,5]:eu) u.toNat=st;rcases n:Q ((k:Int)=0) with _|_;simp only[jP,iM,n,↓jN,a7i];exact M _;rcases C:Q (st=0) with _|_;simp only[jP,iM,n,C,↓jA,a5C];exact M _;simp only[jP,iM,n,C,↓jA,a5C];exact M _
end
section
attribute[local irreducible] aX
def a91:=I9 23 [(5,([23],[0,3,4,6,7,11,12,22])),(8,([],[0,3,4,6,7,11,12,22,23])),(12,([11],[0,3,6,7,12])),(19,([],[0,3,6,7,11,12,14,15]))]
def bhB{d b c e f}:=yB2 42 7 6 34 6 7 a7m func59 a91 b c [d, .a b, .a c,e,f]
end
def aNI{Y b e z j o v r}(h:box Y b=V ⟨e,z,o,v,r⟩):iQ j Y (.p b 0 0)=V (.p b 0 j):=by rw[rR,h];simp
def aXM{ds}{s:aTo}(h:Lk ds s.c):∃x0 a x2 d t4 o4 j g m i,ds=[x0,a,x2,d, .l (s.cells.map ci) t4 o4, .l (s.bU.map ci) j g, .l (s.count.map ci) m i]:=by have e:=oC h;obtain⟨h,_⟩:=h;obtain _|⟨x0,_|⟨a,_|⟨x2,_|⟨d,_|⟨n,_|⟨x5,_|⟨o,_|⟨p,ds⟩⟩⟩⟩⟩⟩⟩⟩:=ds<;>simp at e;simp only[ji,mU,aTo.c,kO] at h;grind [aRH]
theorem Rds.mono{Y B f m n}(a:Rds Y B f m)(h:m<=n):Rds Y B f n:=⟨a.bx,(by grind [Rds.gr]),a.dj,a.pl⟩
def a62{Y B f}{m d:Nat}{i v:Int}{t o}{K:AV->be}(r:Rds Y B f m)(hi:0<=i/\i<4)(hd:d=47\/d=103)(hl:L Y=4096)(hm:m<=1000)(hB:B.1=20)(R:∀a Y' C,Rds Y' B C (m+1)->Fx Y Y' (B::aA (f i.toNat))->(∀j,j<4->∀q∈aA (C j),q∈aA (f j)\/bK Y q)->K a (.p B i.toNat 0) Y'):eV (apA 3 fB 8 Y d (f i.toNat)<|.l [[iv v]] t o) λa c=>rV (cz 1 c (.m B 4)<|iv i) λp=>sV (aK 1 c p a) (K a p):=by have s:i.toNat<4:=Z;obtain⟨ns,W,g⟩:=r.gr _ s;refine qs g A H Z pU O O NA λa c G n P1=>?_;have D:∀j,j<4->B∉aA (f j):=(by grind [Rds.pl]);have M:=n.keep _ _ (D _ s) r.bx;have E:cz 1 c (.m B 4) (iv i)=V (.p B i.toNat 0):=(by grind [cz]);rw[E];have:B∉aA a:=X;refine Bp M (uU s) (ms G) A O λw u N=>?_;have z:box w B=V ⟨25,1,U,U,boY 4 λj=>[if j=i.toNat then a else f j]⟩:=(by rw[N,Bl];grind);have:∀j,j<4->∀q∈aA (f j),q∉aA a:=(by grind [Rds.gr,aTi,bK.no]);refine R a w _ ⟨z,λj e=>?_,λj k e hk T q F=>?_,λj e q F=>?_⟩ ((n.trans u).mono X) λj e q F=>?_;by_cases h:j=i.toNat;subst h;simp only[a6F];refine⟨ns++[v],NA,?_⟩;grind [lI.p,lI.fx];simp only[za h];obtain⟨S,h1,P⟩:=r.gr j e;exact⟨S,Z,(P.fx n<|by grind [Rds.dj]).fx u X⟩;grind [Rds.dj];grind [Rds.pl];grind
def bc6{n}:aNG (iv n)=[]:=rfl
structure PlS(Y x:ae)(b:Id)(l:eu)(v6 v7:Nat)(B:Id)(f:Nat->AV)(k:Nat):Prop where
 b6:∃ds s,box x (6,v6)=V ⟨42,7,U,U,[ds]⟩/\Lk ds s.c/\vH k s/\L s.cells=5/\L s.bU=1/\L s.count=4
 b7:box x (7,v7)=V ⟨34,6,U,U,[aNE.c]⟩
 tp:∃a',Tp x b l a'
 kx:Kx [14,15,16] Y x
 rd:Rds x B f (k+1)
 nw:∀i,i<4->∀q∈aA (f i),∀z,box Y q≠V z
 no:(∀z,box Y (6,v6)≠V z)/\∀z,box Y B≠V z
 pb:b.1=16/\B.1=20
section
variable{Y x y:ae}{b B:Id}{l:eu}{v6 v7 k:Nat}{f:Nat->AV}
theorem PlS.fx(P:PlS Y x b l v6 v7 B f k){Lw}(F:Fx x y Lw)(h:∀q∈Lw,q.1≠6/\q.1≠7/\q.1≠16/\q.1≠20/\q.1≠47/\q.1≠103)(g:∀q∈Lw,q.1=14\/q.1=15\/∀z,box Y q≠V z):PlS Y y b l v6 v7 B f k:=by obtain⟨ds,s,d,e⟩:=P.b6;obtain⟨a,T⟩:=P.tp;have c:=P.pb;exact⟨bsq,(by grind [Fx.keep,PlS.b7]),⟨a,by grind [Tp.fx]⟩,P.kx.fx F X,P.rd.fx F X,P.nw,P.no,c⟩
theorem PlS.kxx(P:PlS Y x b l v6 v7 B f k)(K:Kx [14,15,16] x y){a}(T:Tp y b l a):PlS Y y b l v6 v7 B f k:=by obtain⟨ds,s,c,d⟩:=P.b6;exact⟨(by grind [Kx.keep]),K.kq P.b7,⟨a,T⟩,P.kx.kx K O,P.rd.kx K (by grind [PlS.pb]),P.nw,P.no,P.pb⟩
theorem PlS.tape(P:PlS Y x b l v6 v7 B f k)(F:Fx x y [b]){a}(T:Tp y b l a):PlS Y y b l v6 v7 B f k:=(by grind [PlS.kxx,Fx.kx,PlS.pb])
theorem PlS.reads(P:PlS Y x b l v6 v7 B f k){a}{i:Nat}(p:i<4)(R:Rds y B a<|k+2)(F:Fx x y (B::aA (f i)))(o:∀j,j<4->∀q∈aA (a j),q∈aA (f j)\/bK x q){d:Nat}(C:k+1<=d)
  (n:∃ds s,box x (6,v6)=V ⟨42,7,U,U,[ds]⟩/\Lk ds s.c/\vH d s/\L s.cells=5/\L s.bU=1/\L s.count=4):PlS Y y b l v6 v7 B a d:=by
 obtain⟨ds,s,v,w⟩:=n
 obtain⟨m,T⟩:=P.tp
 have r:=P.pb
 have:=P.rd.pl i p
 have:∀{q:Id},q.1≠20->q.1≠47->q.1≠103->q∉B::aA (f i):=X
 exact⟨bsq,(by grind [Fx.keep,PlS.b7]),⟨m,by grind [Tp.fx]⟩,P.kx.fx F (by grind [PlS.no,PlS.nw]),R.mono Z,λj g q t=>by
   obtain h|h:=o j g q t
   ·exact P.nw j g q h
   ·intro z u
    by_cases e:q.1∈[14,15,16]
    ·grind [Rds.pl]
    ·exact h.no _ (P.kx.keep _ _ e u),P.no,r⟩
end
def tpM(b:Id)(y:ae):Nat:=((box y b).map λx=>match x.bA with|[[.l bA _ _, .s (.int _ n)]]=>L bA-n.toNat|_=>0).getD 0
theorem aTD{Y b l}{a:Nat}(T:Tp Y b l a):tpM b Y=L l-a:=by simp only[tpM,T.bx];show L (l.map cu)-(a:Int).toNat=_;simp
def bfl{k:Nat}{s e}(h:vH k s)(i:k<1000)(a:bjf aNE s e=U)(g:L s.cells=5)(c:L s.bU=1)(d:L s.count=4):vH (k+1) (nD aNE s e)/\L (nD aNE s e).cells=5/\L (nD aNE s e).bU=1/\L (nD aNE s e).count=4:=by refine⟨h.step Z,?_⟩;grind [nD,oc]
section
attribute[local irreducible] aX
def LeN(n:Int)(k:Nat):Prop:=k<=16/\((k:Int)<=n\/k=0)
def bdm{Y b l}{a:Nat}{ds s}{n:Int}(M:L Y=4096)(hb:b.1=16)(T:Tp Y b l a)(hL:Lk ds s.c)(hS:vH 0 s)(h5:L s.cells=5)(h1:L s.bU=1)(h4:L s.count=4)(hn:n<=16):∃r Y1,(∃t:List aP,r= .l (t.map aP.c) I I/\LeN n (L t)/\(∀e∈t,EvL e)/\Kx [14,15,16] Y Y1)/\cZ aS GG 59 [.p b 0 0, .a ds, .a aNE.c,iv n,bv U] Y r Y1:=by generalize hQ:(λ(r:AV) (y:ae)=>∃t:List aP,aOo y r= .l (t.map aP.c) I I/\LeN n (L t)/\(∀e∈t,EvL e)/\Kx [14,15,16] Y (kills y<|aNW r))=Qq;refine aQR (R:=Qq) ?_ X;refine bhB M (oC hL) A λs4 v6 v7 K4 c3 b5 c4 b6 b7=>?_;have F4:=K4.fx [];have:=F4.len.trans M;have cp:aN J (List.drop 4 aNE.c)=V (sl cs aNE.ay):=A;have b0:∀{Y:ae},fS Y (sl cs aNE.ay)=V (iv (4:Nat)):=A;simp only[eS,b7,cp,b0];refine AP H H Z H λB s9 hB NB F9 bB=>?_;have aU:=F4.trans F9;have P0:PlS Y s9 b l v6 v7 B (λ_=> .l [] U U) 0:=⟨bsq,F9.kq b7,⟨a,T.fx aU O⟩,aU.kx O,⟨by rw[bB];rfl,λi hi=>⟨[],O, .inl ⟨A,A⟩⟩,aBY,aBY⟩,aBY,⟨b5,(NB.old F4).no⟩,hb,hB⟩;have bm:∀{x:ae} {f:Nat->AV} {k:Nat},PlS Y x b l v6 v7 B f k->fS x (.m B 4)=V (iv (4:Nat)):=λ{x f k} P=>(by simp[fS,P.rd.bx]);simp only[qz 6,bm P0,aY];have ba:∀{e:aP},aN (V 7) e.c=V (.a e.c):=A;have bb:aN (V 6) aNE.c=V (.a aNE.c):=A;refine yV 4 (λk _ y=>∃f,PlS Y y b l v6 v7 B f k) ⟨_,P0⟩ ?_;rintro k _ x hk ⟨f,P⟩;rcases q1:Q ((k:Int)<((4:Nat):Int)) with _|_;(focus simp only[qz 31,aI,au,av4,aY,q1,↓iB];obtain rfl:k=4:=X;let o:aG:=λvs y=>∃(out:AV) (t:List aP) (f:Nat->AV),vs=[out]/\LeN n (L t)/\(∀e∈t,EvL e)/\J7 y 71 7 out (t.map aP.c)/\(∀q∈aA out,q.1=108/\∀z,box Y q≠V z)/\PlS Y y b l v6 v7 B f (4+L t);refine⟨o,λ_ y=>tpM b y,⟨_,[],f,A,⟨O, .inr A⟩,O, .inl ⟨A,A⟩,aBY,P⟩,?_⟩;rintro _ x ⟨out,t,f,rfl,a7,aF,g,po,P⟩;generalize hI:o=I';obtain⟨a',N⟩:=P.tp;have aK:=P.kx.len.trans M;have aJ:fS x out=V (iv<|L t):=(by rw[g.ln,bJ]);have aL:aRf Qq x [out]:=(by show Qq out x;rw[<-hQ];have ei:aNW out=aA out:=(by have:=aQX g;obtain⟨_,rfl⟩|⟨c,m,rfl,_⟩:=g<;>rfl);have ef:aOo x out= .l (t.map aP.c) I I:=(by rw[<-g.ar];obtain⟨_,rfl⟩|⟨c,m,rfl,_⟩:=g<;>rfl);refine⟨t,ef,a7,aF,?_⟩;rw[ei];exact P.kx.fx (aOp _ _) vB);rcases q1:Q ((L t:Int)<n) with _|_;simp only[qz 73,au,aJ,ir,q1,ip,↓jN,a7i];exact aL;rcases q2:Q ((a':Int)<(L l:Int)) with _|_;simp only[qz 73,au,aJ,ky,nlP N.bx,N.bx,q1,q2,nM,ip,↓jA,bt];exact aL;have:L t<16:=X;have:a'<L l:=vB;obtain⟨az,s',ax,ah,a5,a4,bF,bK⟩:=P.b6;obtain⟨x0,x1,x2,x3,t4,o4,t5,o5,t6,o6,bT⟩:=aXM ah;have cm:aN (V 7) az=V (.a az):=(by rw[bT];rfl);simp only[qz 73,au,aJ,ky,nlP N.bx,N.bx,q1,q2,ax,P.b7,cm,bb,nM,ip,↓jA,bt];refine jH A (bdf aK (.inr<|.inr hb) hB N ah (aYF a5.sy.th) a4 Z<|P.rd.mono Z) ?_;rintro _ y ⟨e,a2,rfl,he,ak,T2,_,cK,K2⟩;refine⟨K2.len,?_⟩;have G:=P.kxx K2 T2;have b2:=G.kx.len.trans M;have g2:J7 y 71 7 out (t.map aP.c):=(by grind [Kx.gr]);simp only[qz 16,qy 18];refine zm b2 λE y1 G1 c0 bA=>?_;refine stW bA A rfl λy2 G2 aZ=>?_;have P3:=(G.fx G1 O O).fx G2 O O;have g3:=(g2.fx G1 O).fx G2 X;have T3:=(T2.fx G1 O).fx G2 X;obtain⟨a1,s3,aW,S,a6,bL,bG,a3⟩:=P3.b6;obtain⟨z0,z1,z2,z3,c8,c5,c9,c7,cr,b8,aE⟩:=aXM S;have bp:aN (V 7) a1=V (.a a1):=(by rw[aE];rfl);have bz:=λ{Y}=>S.arg Y;obtain⟨cb,cc,cf,cg,ch,cj,ck⟩:=a6.snB Z;simp only[qz 20,qy 22,hZ,aW,P3.b7,aZ,bp,bb,ba,ip,aTd,bz];refine⟨⟨H,cb,cc,cf,cg,ch,cj,ck,by have:=he.1;omega,by have:=he.2;omega⟩,?_⟩;rintro _ ⟨cs,rfl,aD⟩;refine⟨by rw[lo,nA];exact .inl (by simp[x9 S];simp[aNN,iR,aP.c,aOw.c,sl]),?_⟩;simp only[oJ,pG,aY];have bn:=P3.kx.len.trans M;refine zm bn λct y3 G3 c1 bC=>?_;refine stW bC A (oC aD) λW G4 a0=>?_;have C:=(P3.fx G3 O O).fx G4 O O;have g4:=(g3.fx G3 O).fx G4 X;have T4:=(T3.fx G3 O).fx G4 X;have K:=G4.kq<|G3.kq aZ;have ag:=G4.kq<|G3.kq aW;rcases b3:bjf aNE s3 e with _|_;simp only[qz 24,aIN,u0,↓iC];rw[<-hI];exact⟨⟨out,t,f,A,a7,aF,g4,po,C⟩,by grind [aTD]⟩;have a8:=bfl a6 Z b3 bL bG a3;have cl:aN (V 7) cs=V (.a cs):=(by grind [oC,aN]);have up:∀{y:ae} {f:Nat->AV},PlS Y y b l v6 v7 B f (4+L t)->PlS Y y b l v6 v7 B f (4+(L t+1)):=λ{y f} P=>(by obtain⟨ds,s,h1,h2,D,h4⟩:=P.b6;exact⟨⟨ds,s,h1,h2,⟨D.sy.mono Z,D.ce,D.fu,D.co,λc hc=>by have:=D.cn c hc;omega⟩,h4⟩,P.b7,P.tp,P.kx,P.rd.mono Z,P.nw,P.no,P.pb⟩);simp only[qz 24,aIN,u0,↓iB];refine bpF (λj=>∀{z:ae} {f':Nat->AV},PlS Y z b l v6 v7 B f' (4+(L t+1))->(∃d,box z (6,v6)=V ⟨42,7,U,U,[d]⟩/\L d=7)->box z (14,E)=V ⟨71,7,U,U,[e.c]⟩->box z (15,ct)=V ⟨42,7,U,U,[cs]⟩->J7 z 71 7 out (t.map aP.c)->Tp z b l a2->j [] z) (λ{z f'} P h6 bH bI g T=>?_) λj a9=>?_;obtain⟨d6,h6,bS⟩:=h6;have bR:aX EI 1 z [(0, .a e.c)]=V (.l ([e].map aP.c) U U,z):=ua A rfl rfl H (by simp[aP.c,eN,sl]) H;have al:∀{l:List aP},∀r∈l.map aP.c,L r=7:=qW (λ_=>by rfl);simp only[qz 117,qy 32,au,eQ,bH,ba,bR,ip];refine apQ g (P.kx.len.trans M) al al O NA λout' z1 g1 F1 p1=>?_;have ad:∀{q:Id},q.1≠108->q∉aA out:=X;have bg:=F1.keep _ _ (ad O) bI;have bM:=F1.keep _ _ (ad O) h6;have P1:=P.fx F1 (λq v=>by rw[(po q v).1];decide) X;simp only[qz 34,qy 36,eQ,bg,cl,ip];refine stW bM bS (oC aD) λz2 F2 c6=>?_;have aV:=(T.fx F1<|ad Z).fx F2 X;have ca:∀q∈aA out',q.1=108/\∀w,box Y q≠V w:=λq v=>⟨(p1 q v).2,λw hw=>(p1 q v).1.no w<|P.kx.keep _ _ (by rw[(p1 q v).2];decide) hw⟩;rw[<-hI];refine⟨⟨out',t++[e],f',A,⟨NA, .inl (by have:=aNQ q1;simp;omega)⟩,λy hy=>?_,?_,ca,?_⟩,by rw[aTD aV,aTD N];omega⟩;obtain h|h:=dF.1 hy;exact aF y h;grind;rw[dg];exact g1.p.fx F2 X;rw[a6G];exact⟨⟨cs,_,c6,aD,(show 4+L t+1=4+(L t+[e].length) from A)▸a8.1,a8.2⟩,F2.kq P1.b7,⟨a2,aV⟩,P1.kx.fx F2 X,P1.rd.fx F2 (λq v=>by simp at v;subst v;grind),P1.nw,P1.no,P1.pb⟩;have hu:e.aq.toNat<4:=Z;have f1:iQ 1 W (.p (14,E) 0 0)=V (.p (14,E) 0 1):=(by grind [rR]);have l1:sA J W (.p (14,E) 0 1)=V (iv e.kind):=(by rw[aC5,K];rfl);rcases q3:Q (e.kind=3) with _|_<;>rcases cd:Q (e.kind=23) with _|_<;>simp only[qz 119,qy 26,jP,f1,l1,iM,q3,cd,↓jA,↓jN,a5C,a7i];exact a9 (up C) ⟨_,ag,oC S⟩ K a0 g4 T4;all_goals have f0:iQ 0 W (.p (14,E) 0 0)=V (.p (14,E) 0 0):=(by grind [rR]);have l0:sA J W (.p (14,E) 0 0)=V (iv e.aq):=(by rw[aC5,K];rfl);have f6:iQ 6 W (.p (6,v6) 0 0)=V (.p (6,v6) 0 6):=(by rw[rR,ag];rfl);have l6:sA J W (.p (6,v6) 0 6)=V (.l (s3.count.map ci) cr b8):=(by rw[aC5,ag,aE];rfl);have bW:cz 1 W (.m B 4) (iv e.aq)=V (.p B e.aq.toNat 0):=(by simp[cz,ak.1,C.rd.bx,hu]);have bY:sA J W (.p B e.aq.toNat 0)=V (f e.aq.toNat):=(by simp[sA,iE,C.rd.bx,uU hu,aN]);simp only[f0,l0,f6,l6,bW,bY,aY,tf,ci,qM,aS1,bQ];refine⟨⟨ak.1,by rw[a3];exact ak.2⟩,?_⟩;obtain⟨ns,c2,bE⟩:=C.rd.gr _ hu;have hk:=(SlR.of bE).keys (P:=λp=>p=47\/p=103) (λq v=>C.rd.pl _ hu q v);refine a62 C.rd ak (.inr A) (C.kx.len.trans M) Z hB λa' z f' R F hf=>?_;simp only[qz 30];refine dT ?_ ?_;obtain e1|⟨p,e1,rfl|rfl⟩:=hk<;>simp[eL,lb,e1,aTn,a6H,bc6];have h1:=C.rd.pl _ hu;have ne:∀{q:Id},q.1≠20->q.1≠47->q.1≠103->q∉B::aA (f e.aq.toNat):=λ{q} n1 n2 n3 v=>(by obtain rfl|h:=eW.1 v;exact n1 hB;obtain e|e:=h1 _ h<;>omega);exact a9 (C.reads hu R F hf Z (up C).b6) ⟨_,F.keep _ _ X ag,oC S⟩ (F.keep _ _ X K) (F.keep _ _ X a0) (g4.fx F λq v=>ne X X X)<|T4.fx F<|ne Z Z Z);have b1:k<4:=X;have up:∀{y:ae} {f:Nat->AV},PlS Y y b l v6 v7 B f k->PlS Y y b l v6 v7 B f (k+1):=λ{y f} P=>(by obtain⟨ds,s,h1,h2,D,h4⟩:=P.b6;exact⟨⟨ds,s,h1,h2,⟨D.sy.mono Z,D.ce,D.fu,D.co,λc hc=>by have:=D.cn c hc;omega⟩,h4⟩,P.b7,P.tp,P.kx,P.rd.mono Z,P.nw,P.no,P.pb⟩);obtain⟨az,s',ax,ah,a5,a4,bF,bK⟩:=P.b6;obtain⟨x0,x1,x2,x3,t4,o4,t5,o5,t6,o6,rfl⟩:=aXM ah;have aK:=P.kx.len.trans M;simp only[qz 31,aI,au,av4,aY,q1,↓iC];refine bpF (λj=>∀{y:ae} {f:Nat->AV},PlS Y y b l v6 v7 B f (k+1)->j [] y) (λ{y f} P=>?_) λj nx=>?_;simp only[qz 51,aI,au,cS,aY];exact yU b1 ⟨_,P⟩;simp only[qz 53,qy 10,ky,ax,nM,ip,tf,ci,qM,↓jA,a5C];refine⟨⟨Z,Z⟩,?_⟩;rcases q2:Q (1<gd s'.count ((k:Int)).toNat) with _|_;simp only[jP,aOq,↓jN,a7i];exact nx<|up P;simp only[u0,aPh,↓jA,a5C];obtain⟨a',N⟩:=P.tp;refine aPu (d:=37) aK N λu a2 y _ _ T2 _ F2=>?_;have G:=P.tape F2 T2;rcases q3:Q (u=2) with _|_;simp only[ir,q3];exact nx<|up G;simp only[jP,iM,q3];refine G.rd.rd Z ?_;simp only[aS1,bQ];refine a62 G.rd Z (.inl A) (G.kx.len.trans M) Z hB λa' z f' R F hf=>?_;exact nx<|G.reads Z R F hf (dA _) (up G).b6
end
def vq(w:aOw)(l:List aP):Nat->aTo|0=>aH6 w|k+1=>nD w (vq w l k)<|gd l k
structure aN4(w:aOw)(l:List aP):Prop where
 wv:mQ w=U
 ln:L l<=400
 st:∀k,k<L l->bjf w (vq w l k) (gd l k)=U
 dp:∀k,k<L l->∀n∈(gd l k).dI,aOE l k (gd l k).aq n
 fr:∀k,k<L l->∀n∈(gd l k).ep,aOE l k (gd l k).aq n
def a6b{l t i m}:bqS l t (i+m)=bqS l t i+bqS (l.drop i) t m:=by simp only[bqS,List.take_add,List.filter_append,a6G]
def a6Y(t:Int):∀(l) (j i:Nat),j<L l->(gd l j).aq=t->pS t l (bqS l t j) i=((i+j:Nat):Int)
 |[],j,i,h,_=>by simp at h
 |e::l,0,i,_,h=>by
  have b:e.aq=t:=h
  simp[pS,bqS,b]
 |e::l,j+1,i,h,c=>by
  have a:(gd l j).aq=t:=by grind [gd]
  have:=a6Y t l j (i+1) (by simpa using h) a
  grind [pS,bqS]
theorem aTg{α}[Inhabited α]{n j}{x:α}(h:j<n):gd (er n x) j=x:=brU
def bcG{n j}(h:j<n):gd (qZ n) j=⟨if j=0 then 1 else 0,0,I⟩:=by grind [aNV,qZ]
def a7j:∀n,(er n (0:Int)).sum=0
 |0=>rfl
 |n+1=>O
theorem SI.start{w}(h:mQ w=U):SI w (aH6 w) 0:=by have:=axy h;refine⟨?_,?_,?_,?_,?_,?_,?_⟩;simp only[fN,lh,aH6,bN,awG];grind [qZ,ou,uh,aNV];intro c k;rw[a68 k];omega;exact a7j _;intro j g;have a:j<L w.ay:=(by grind [aH6,qZ]);have e:gd (aH6 w).eB.ay j=⟨if j=0 then 1 else 0,0,I⟩:=bcG a;have:gd (aH6 w).count j=0:=aTg a;by_cases b:j=0;subst b;simp only[a6F] at e;exact⟨by rw[e];simp,vB,by rw[e];simp,by rw[e];simp,by rw[e];simp,by rw[e];simp⟩;rw[za b] at e;exact⟨by rw[e];simp,vB,λd=>aYx d b,by rw[e];simp,by rw[e];simp,by rw[e];simp⟩;intro j g;have a:j<L w.ak:=(by grind [aH6]);have e:gd (aH6 w).eB.ak j=⟨-1,[]⟩:=aTg a;exact⟨vB,vB,vB,by rw[e];intro i f;simp at f⟩;intro h;exact aYx A h;grind [aH6,aTg]
section
variable{w:aOw}{l:List aP}
theorem aN4.si(h:aN4 w l):∀k,k<=L l->SI w (vq w l k) k
 |0,_=>SI.start h.wv
 |k+1,a=>by
  have:=h.si k Z
  have:=h.st k a
  have:vq w l (k+1)=oc w (vq w l k) (gd l k):=by grind [vq,nD]
  grind [SI.step,axy,aN4.wv,aN4.ln]
theorem aN4.thr(h:aN4 w l){k:Nat}(a:k<L l):aF (L w.ay) (gd l k).aq:=by have:=h.st k a;grind [bjf,aOL,dX]
theorem aN4.cnt(h:aN4 w l){t:Nat}(c:t<L w.ay):∀k,k<=L l->gd (vq w l k).count t=bqS l t k
 |0,_=>by
  grind [aH6,aTg,vq,bqS]
 |k+1,a=>by
  have:=h.cnt c k Z
  have:=h.st k a
  have b:=h.thr a
  have hs:=h.si k Z
  have:L (vq w l k).count=L w.ay:=by
   have:=hs.fit
   grind [fN]
  have e:vq w l (k+1)=oc w (vq w l k) (gd l k):=by grind [vq,nD]
  rw[e,aV8 Z]
  simp only[oc]
  rw[gdS]
  have:=aWu hs.c0
  have:=h.ln
  by_cases d:(gd l k).aq=(t:Int)
  ·grind [a6c,eM]
  ·have:¬(gd l k).aq.toNat=t:=by have:=b.1;omega
   simp_all
theorem a7P(h:aN4 w l){i m st}:∀k,k<=m->cY ⟨w,st,vq w l i,(l.drop i).take m⟩ k=vq w l (i+k)
 |0,_=>rfl
 |k+1,a=>by
  have:=a7P h (i:=i) (m:=m) (st:=st) k Z
  grind [cY,gd,vq]
theorem aWv{i m k}(a:k<m):gd ((l.drop i).take m) k=gd l (i+k):=by grind [gd]
theorem a63(h:aN4 w l){i m k:Nat}{st:Int}(q:i<=L l)(z:k<m)(s:i+k<L l){t n:Int}(e:aF (L w.ay) t)(r:aOE l (i+k) t n):qU ⟨w,st,vq w l i,(l.drop i).take m⟩ t n=U:=by obtain⟨j,u,v,x,y⟩:=r;obtain⟨a,rfl⟩:∃a:Nat,t=a:=⟨t.toNat,by have:=e.1;omega⟩;have f:a<L w.ay:=(aYF e.2);have:=h.cnt f i q;unfold qU;simp only[bh];obtain c|c:=Decidable.em<|n<gd (vq w l i).count a;simp[c];have:i<=j:=(by obtain b|b:=jj j i;exfalso;have:bqS l a (j+1)<=bqS l a i:=(by obtain⟨d,rfl⟩:∃d,i=j+1+d:=⟨i-(j+1),Z⟩;simp_all [a6b]);grind [aV8];exact b);obtain⟨d,rfl⟩:∃d,j=i+d:=⟨j-i,Z⟩;have p:d<m:=Z;have g:bqS ((l.drop i).take m) a d=bqS (l.drop i) a d:=(by grind [bqS]);have:=@a6b l a i d;have o:=a6Y a ((l.drop i).take m) d 0 (by simp only[gC,oz];omega) (by rwa [aWv p]);have:oV ⟨w,st,vq w l i,(l.drop i).take m⟩ a (n-gd (vq w l i).count a)=(d:Int):=(by unfold oV;simp only;rw[show n-gd (vq w l i).count a=((bqS ((l.drop i).take m) a d:Nat):Int) by rw[g];omega,o];simp);grind [aWv]
theorem bau{a t}:bg a.init t->nO a t=U:=λh=>by
 simp only[nO,bN,awG]
 exact⟨dX.2 h.1,h.2⟩
theorem bhG(h:aN4 w l){i m:Nat}(u:i<=L l)(x:m<=16):bcV ⟨w,i,vq w l i,(l.drop i).take m⟩=U:=by have hs:=h.si i u;have:=h.ln;have:L ((l.drop i).take m)<=L l-i:=X;have:L ((l.drop i).take m)<=m:=X;generalize e:(⟨w,i,vq w l i,(l.drop i).take m⟩:am)=W;have d:W.aQ=w:=(by rw[<-e]);have b:W.init=vq w l i:=(by rw[<-e]);have v:W.start=i:=(by rw[<-e]);have p:W.ac=(l.drop i).take m:=(by rw[<-e]);have n:∀t,bg (vq w l i) t->nO W t=U:=(by grind [bau]);simp only[bcV,oh,bN,eH,cP,fK,awG,aPs];refine⟨⟨⟨⟨⟨⟨?_,?_⟩,?_⟩,?_⟩,?_⟩,?_⟩,?_,?_⟩;rw[d];exact h.wv;grind [SI.fit];grind;simp only[rM,bN,awG];rw[b,v,p,hs.sum];refine⟨λc o=>⟨hs.c0 c o,?_⟩,A,Z⟩;obtain⟨j,a,rfl⟩:=ou o;have:=(aWu hs.c0 j).1;grind [SI.sum,aNV];simp only[uZ,awG];rw[b];intro j a;have S:=hs.st j a;obtain⟨y,B⟩:=S.r;simp only[aOK,Eu,zX,d,b,bN,eH,cP,aPs,bik,fK,beq_iff_eq];grind [StI.fr,StI.z,dX,StI.wt,StI.nw];simp only[ny,bN,awG,eH];refine⟨λj a=>?_,?_,λj a=>?_⟩;rw[b] at a;have Lw:=hs.lk j a;refine⟨?_,λk g=>?_⟩;simp only[AM,d,b,cP,bik,aPs,fK,aNS];grind [LcI.ow,LcI.rd];rw[b] at g⊢;refine⟨n _<|Lw.rb _<|dB g,λf=>?_⟩;have:=Lw.inc (k-1) Z;grind;simp only[yS,b,bik,aPs,aNS,fK];grind [SI.tx];rw[b] at a;have S:=hs.st j a;simp only[pX,d,b,bN,eH,bik,fK,cP,aPs];refine⟨?_,?_⟩;grind [StI.at'];obtain f|f:=Decidable.em<|(gd (vq w l i).eB.ay j).cQ=3\/(gd (vq w l i).eB.ay j).cQ=4;exact .inr (S.wt f).2;omega;rw[b];intro j a;have:=hs.fu j a;grind [Ae];rw[p];intro k g;have:k<m:=Z;have:i+k<L l:=Z;have q:gd W.ac k=gd l (i+k):=(by grind [aWv]);have s:cY W k=vq w l (i+k):=(by grind [a7P]);simp only[xH,q,s,d,cP,fK,awG];grind [aN4.st,a63,aN4.thr,aN4.dp,aN4.fr]
end
def aXL(s:aTo):Lk s.c s.c:=⟨A,A⟩
def bfm{s}(h:sz5 s):vH 0 s:=⟨⟨by rw[h.1];decide,by rw[h.2.1];decide,by rw[h.2.2.1];decide,λl b=>by have:=h.2.2.2.2.2.2.1 l b;omega⟩,by rw[h.2.2.2.1];decide,by rw[h.2.2.2.2.1];decide,by rw[h.2.2.2.2.2.1];decide,λc a=>by have:=h.2.2.2.2.2.2.2 c a;omega⟩
def w00:am:=⟨aNE,0,aH6 aNE,[]⟩
def bfG:bcV w00=U:=a7c
def bfF:hU w00:=⟨H,H,by grind [w00],H⟩
def aWb(w:am):iX (.a w.c)=U:=by simp[iX,eN,am.c,sl]
def aXE(l)(n:Int)(hp:(∀x∈l,0<=x/\x<256)/\L l<4611686018427387904):Ct 20 [sl cu l,iv n] (λr=>∃w:am,r= .a w.c/\bcV w=U/\hU w/\((L w.ac:Int)<=n\/L w.ac=0)):=by obtain⟨hb,ba⟩:=hp;generalize hQ:(λ(r:AV)=>∃w:am,r= .a w.c/\bcV w=U/\hU w/\((L w.ac:Int)<=n\/L w.ac=0))=Qq;refine aDq (bhv λs0 hl h0=>?_);simp only[qy 2];refine zm hl λv1 s2 F2 N2 b1=>?_;have a8:=F2.len.trans hl;refine bvP (λb=>∀l':eu,(∀x∈l',0<=x/\x<256)->L l'<4611686018427387904->b [sl cu l']) ?_ λb hj=>(by rcases q:Q ((400:Int)<(L l:Int)) with _|_;simp only[qz 11,ir,q];exact hj l hb ba;simp only[qz 11,ir,q];rw[aIk (z:=1) (f:=cu) λ_=>A];have:=aNQ q;refine⟨Z,hj _ X X⟩);intro l' aV az;have aX:bM bwR bqW [(0,sl cu l')]=V (.a [sl cu l',iv 0]):=A;simp only[qz 9,qy 6,aI,au,aX,aY];refine bxL A H Z λv5 s6 F6 N5 F=>?_;have T6:Tp s6 (16,v5) l' 0:=⟨F,Z,aV,az⟩;have af:=F6.len.trans a8;have aO:=F6.kq b1;have aW:bM bvC aQ4 [(0, .a aNE.c)]=V (.a<|aNE.c++(iv 0::(bsF++[.l [] U U]))):=A;simp only[aWo,ar,u0,aW];refine⟨by simp[lo,nA],?_⟩;refine zm af λd bD aB N9 b9=>?_;refine stW b9 A rfl λbg aC c9=>?_;have g:Fx s6 bg []:=(aB.trans aC).mono aUw;have aJ:=T6.fx g O;have N:=g.len.trans af;have ap:=g.kq aO;have be:∀{xs:dM},aN (V 6) (aNE.c++xs)=V (.a aNE.c):=λ{xs}=>A;simp only[qz 8,eS,c9,be,ip];refine jH A (bdb N (.inr<|.inr A) aJ) ?_;rintro _ bE ⟨s,a',rfl,m,aK,_,o⟩;refine⟨o.len,?_⟩;have ax:=o.len.trans N;have aa:=o.kq c9;have aM:=o.kq ap;have fb:∀{y:ae} {j:Nat} {r:dM},box y (6,d)=V ⟨45,15,U,U,[r]⟩->iQ j y (.p (6,d) 0 7)=V (.p (6,d) 0<|7+j):=(by grind [rR]);simp only[qz 10,aNI aa,aY];refine stI (y:=7) (cs:=s.c) aa A rfl H λan u aR=>?_;have aL:=aK.fx u O;have ay:=u.len.trans ax;have aP:=u.kq aM;have G:box an (6,d)=V ⟨45,15,U,U,[aNE.c++(iv 0::(s.c++[.l [] U U]))]⟩:=aR;have bc:∀{y:ae} {st:Int} {e:AV},box y (6,d)=V ⟨45,15,U,U,[aNE.c++(iv st::(s.c++[e]))]⟩->sA J y (.p (6,d) 0 13)=V (sl ci s.count):=λ{y st e} h=>(by rw[aC5,h];rfl);have l6:∀{y:ae} {st:Int} {e:AV},box y (6,d)=V ⟨45,15,U,U,[aNE.c++(iv st::(s.c++[e]))]⟩->sA J y (.p (6,d) 0 6)=V (iv st):=λ{y st e} h=>(by rw[aC5,h];rfl);have l7:∀{y:ae} {st:Int} {e:AV},box y (6,d)=V ⟨45,15,U,U,[aNE.c++(iv st::(s.c++[e]))]⟩->sA (V 7) y (.p (6,d) 0 7)=V (.a s.c):=λ{y st e} h=>(by rw[aC5,h];rfl);have l0:∀{y:ae} {r:dM},box y (6,d)=V ⟨45,15,U,U,[aNE.c++r]⟩->sA (V 6) y (.p (6,d) 0 0)=V (.a aNE.c):=λ{y r} h=>(by rw[aC5,h];rfl);have T:∀{Y:ae} {l:eu},fS Y (sl ci l)=V (iv<|L l):=cT;have:L s.count<1000:=(by rw[m.2.2.2.2.2.1];decide);simp only[qz 12,aNI G,fb G,bc G,T,aY,dc];refine yV (L s.count) (λ_ _ y=>(∃st:Int,box y (6,d)=V ⟨45,15,U,U,[aNE.c++(iv st::(s.c++[.l [] U U]))]⟩)/\Fx an y [(6,d)]) (by grind [Fx.refl]) ?_;rintro k _ y hk ⟨⟨st,i⟩,P⟩;rcases q1:Q ((k:Int)<(L s.count:Int)) with _|_;simp only[qz 49,aI,au,av4,aY,q1,↓iB,aNI i,l7 i,l0 i,aRW,aXT];generalize ak:(if(16:Int)<(if(0:Int)>n then 0 else n) then(16:Int) else(if(0:Int)>n then 0 else n))=n';have aA:n'<=16:=Z;have:n'<=n\/n'<=0:=(by by_cases h0:(0:Int)>n;right;rw[<-ak,zg h0];simp;left;rw[<-ak,za h0];split<;>omega);have ah:=P.len.trans ay;have Ty:=aL.fx P O;refine jH A (bdm ah A Ty (aXL s) (bfm m) m.2.2.2.1 m.2.2.2.2.1 m.2.2.2.2.2.1 aA) ?_;rintro _ y2 ⟨K,rfl,aw,ad,R⟩;refine⟨R.len,?_⟩;have ab:=R.kq i;have aQ:=R.kq<|P.kq aP;simp only[qz 16,aNI ab,aY];refine A0 ab A (by simp[aOw.c,aTo.c]) λy3 F3 b3=>?_;have W:=F3.kq aQ;have a9:=F3.len.trans<|R.len.trans ah;have d3:box y3 (6,d)=V ⟨45,15,U,U,[am.c ⟨aNE,st,s,K⟩]⟩:=b3;have al:∀{w:am},aN (V 15) w.c=V (.a w.c):=λ{w}=>A;have M:hU ⟨aNE,st,s,K⟩:=⟨by show L aNE.bC<_;decide,λq hq=>by have:=m.2.2.2.2.2.2.1 q hq;omega,λe he=>⟨by have:=(ad e he).1;omega,by have:=(ad e he).2;omega⟩,by show L s.bU<_;rw[m.2.2.2.2.1];decide⟩;simp only[qz 18,qy 24,hZ,d3,al,ip,aWo,rr];refine⟨M,λbB=>?_,λbb=>?_⟩;refine⟨by simp[lo,nA],by simp[lo,nA],?_⟩;refine jH A (aXI (w:=aNE) a9 H H H H) ?_;rintro _ y4 ⟨a1,v,B,C,D,E,rfl,S,F4⟩;refine⟨F4.len,?_⟩;have av:bM bvC aQ4 [(0, .a aNE.c),(2, .a [a1,iv<|-1,v,B,C,D,E])]=V (.a<|aNE.c++(iv 0::([a1,iv<|-1,v,B,C,D,E]++[.l [] U U]))):=A;have bf:aN (V 15) (aNE.c++(iv 0::([a1,iv<|-1,v,B,C,D,E]++[.l [] U U])))=V (.a<|aNE.c++(iv 0::([a1,iv<|-1,v,B,C,D,E]++[.l [] U U]))):=A;simp only[qz 20,qy 22,av,aY];refine stW (F4.kq W) A rfl λy5 F5 F=>?_;have t:=S.keep F5 O;simp only[eQ,F,bf,ip];have hf:(aNE.c++(iv 0::([a1,iv<|-1,v,B,C,D,E]++[.l [] U U]))).map (fz y5)=w00.c:=(by simp only[dg,ji,mU,aBr t.g1,aBr t.g2,aBr t.g3,aBr t.g4,aBr t.g5,aBr t.g6];rfl);refine aOv (v':= .a w00.c) (bss AV.a hf) (aWb _) ?_;rw[<-hQ];exact⟨w00,A,bfG,bfF, .inr A⟩;refine stW W A rfl λy5 F5 F=>?_;simp only[eQ,F,al];refine aOv (v':= .a<|am.c ⟨aNE,st,s,K⟩) A (aWb _) ?_;rw[<-hQ];exact⟨_,A,by simpa using bb,M,by have:=aw.2;show(L K:Int)<=n\/L K=0;omega⟩;have ag:k<L s.count:=vB;simp only[qz 49,aI,au,av4,aY,q1,↓iC,amX,ci,qM,aNI i,l6 i,cS];refine⟨dJ ag,?_⟩;refine A0 i A (by simp[aOw.c,aTo.c]) λy2 F2 b2=>?_;simp only[qz 14,au,cS,aY];exact yU ag ⟨⟨_,b2⟩,(P.trans F2).mono O⟩
def aSj:FT:=pn aXE
def bcl:=f211 aSj aXE (j:=bxi)
def a7J:dO:=(20,aSj)::a7I
def aX7:eJ a7J:=asq (aN0 aXE)<|a7s
def aQW:=ai @bcl<|@aWo
section
attribute[local irreducible] aX
def a9Q:=I9 20 [(10,([5],[1,4]))]
def aSG a b R:=(.mk _:NR a7J a9Q Tryz.f63 [.u] [a] b R).p
def bhp{c0:dM}{R:J3}(l0:L c0=7)(h:H1 77 7 1 c0 λia b=>aSG ia b R):Ct 63 [.a c0] R:=z1 a9Q aX7 func63 l0 h
def aVy a a1 b R:=(.mk _:NR a7J aua Tryz.f64 [.u,a1] [a] b R).p
def bhs{c0:dM}{a1:AV}{R:J3}(l0:L c0=7)(h:H1 77 7 2 c0 λia b=>aVy ia a1 b R):Ct 64 [.a c0,a1] R:=z1 aua aX7 func64 l0 h
end
def a6N{Y w}(h:L Y=4096)(d:L w.cells<=1000)(e:L w.ak<=100)(f:L w.bU<=100)(g:L w.ay<=100):∃r b,(r= .a (aH6 w).c/\Fx Y b [])/\cZ aS GG 15 [.a w.c] Y r b:=aQR (aXI h d e f g)<|by rintro _ b ⟨a1,j,k,l,m,n,rfl,S,F⟩;refine⟨?_,(F.trans<|aOp _ _).mono λq i=> .inr (S.ids q i).1.no⟩;show AV.a (List.map gK<|List.map (aTH b) _)=_;rw[vA];exact bss AV.a S.lz
def bvG{p:Prop}(h:p:=by simp[Go.Ab.aH6];omega):p:=h
def bfk{w}(h:mQ w=U):vH 0 (aH6 w):=by obtain⟨d,e,f,g,i,j⟩:=aP4 h;refine⟨⟨bvG,bvG,by simp[aH6,qZ];omega,λl b=>?_⟩,bvG,bvG,bvG,λc a=>?_⟩;rw[a68 b];simp;rw[a68 a];simp
def aTz{w l}(h:mQ w=U):∀k,k<=90000->vH k (vq w l k)|0,_=>bfk h|k+1,a=>(aTz h k Z).step Z
theorem bcA{ds}{s:aTo}(h:Lk ds s.c)(Y):fzT Y (.a ds)= .a s.c:=by have b:=h.fd Y;have d:ds.map (fz Y)=(ds.map<|dQ Y).map gK:=(by rw[vA];rfl);show AV.a (ds.map<|fz Y)=_;rw[d,b,h.1]
theorem aR0{ds}{s:aTo}(h:Lk ds s.c):aN (V 7) ds=V (.a ds):=Bi<|oC h
theorem ba9(s:aTo):iX (.a s.c)=U:=by simp[iX,eN,aTo.c,sl]
def aYr(w:aOw)(l:List aP)(k:Nat):Prop:=∀j,j<k->bjf w (vq w l j) (gd l j)=U/\(∀n∈(gd l j).dI,aOE l j (gd l j).aq n)/\∀n∈(gd l j).ep,aOE l j (gd l j).aq n
def aXx(t:brp)(hp:L t.ac<1000000/\∀e∈t.ac,EvL e):Ct 63 [.a t.c] (λr=>∃i e:Int,r= .t [iv i,iv e]/\(e=0->aN4 t.aQ t.ac)):=by obtain⟨R,ap⟩:=hp;generalize hQ:(λ(r:AV)=>∃i e:Int,r= .t [iv i,iv e]/\(e=0->aN4 t.aQ t.ac))=Qq;refine aDq (bhp A λs2 hl b h0=>?_);show aSG (.p (1,1) 0 0) s2 λr=>Qq<|bqE r;have a1:∀{i e:Int},(e=0->aN4 t.aQ t.ac)->Qq (bqE<|.t [iv i,iv e]):=λ{i e} h=>(by rw[<-hQ];exact⟨i,e,A,h⟩);have aA:∀{y:ae} {i e:Int},(e=0->aN4 t.aQ t.ac)->aE (λr=>Qq<|bqE r) y [iv i,iv e]:=λ{y i e} h=>aOH (vs':=[iv i,iv e]) A rfl (by rw[<-hQ];exact⟨i,e,A,h⟩);have lE:∀{y:ae},box y (1,1)=V ⟨77,7,U,U,[t.c]⟩->sA J y (.p (1,1) 0 6)=V (sl aP.c t.ac):=λ{y} h=>(by rw[aC5,h];rfl);have lW:∀{y:ae},box y (1,1)=V ⟨77,7,U,U,[t.c]⟩->sA (V 6) y (.p (1,1) 0 0)=V (.a t.aQ.c):=λ{y} h=>(by rw[aC5,h];rfl);have g:∀{y:ae},fS y (sl aP.c t.ac)=V (iv<|L t.ac):=cT;rcases q0:Q ((400:Int)<(L t.ac:Int)) with _|_;rotate_left;simp only[aSG,aNI b,lE b,g,av1,aY,q0,↓iC];simp_all;have aw:L t.ac<=400:=X;simp only[aSG,aNI b,lE b,lW b,g,av1,aY,q0,↓iB,aQW,ar,rr,aIN];rcases hv:mQ t.aQ with _|_;simp only[kN,iC];simp_all;obtain⟨z1,z2,z3,z4,z5,z6⟩:=aP4 hv;simp only[fh,iB];refine jH A (a6N hl Z Z Z Z) ?_;rintro _ a8 ⟨rfl,m⟩;refine⟨m.len,?_⟩;have w:=m.len.trans hl;have aa:=m.kq b;simp only[qz 4,qy 6,qy 8];refine zm w λv4 a9 K N4 b4=>?_;refine stW b4 A rfl λba M c4=>?_;have ab:=M.kq<|K.kq aa;have af:=M.len.trans<|K.len.trans w;refine yV (L t.ac) (λk _ y=>box y (1,1)=V ⟨77,7,U,U,[t.c]⟩/\(∃ds,box y (4,v4)=V ⟨42,7,U,U,[ds]⟩/\Lk ds (vq t.aQ t.ac k).c)/\L y=4096/\aYr t.aQ t.ac k) ⟨ab,⟨_,c4,aXL _⟩,af,λj d=>aYx d<|Nat.not_lt_zero _⟩ ?_;rintro k _ y hk ⟨q,⟨ds,d4,F⟩,S,E⟩;rcases q1:Q ((k:Int)<(L t.ac:Int)) with _|_;simp only[qz 61,qy 10,aI,au,aNI q,lE q,g,av4,aY,q1,↓iB];obtain rfl:k=L t.ac:=X;exact aA λ_=>⟨hv,aw,λj d=>(E j d).1,λj d=>(E j d).2.1,λj d=>(E j d).2.2⟩;have x:k<L t.ac:=vB;have T:∀{e:aP},aN (V 7) e.c=V (.a e.c):=A;simp only[qz 61,qy 10,aI,au,aNI q,lE q,g,av4,aY,q1,↓iC,aCh,aC6,T,bh];refine⟨dJ x,?_⟩;have u:=ap _<|dB x;generalize he:gd t.ac k=e at u;refine zm S λB y1 W N6 c6=>?_;refine stW c6 A rfl λy2 G2 N=>?_;have s:=G2.kq<|W.kq q;have P:=G2.kq<|W.kq d4;have z:=G2.len.trans<|W.len.trans S;have al:=λ{Y}=>F.arg Y;obtain⟨p2,p3,p4,p5,p6,p7,p8⟩:=(aTz (l:=t.ac) hv k Z).snB Z;simp only[qz 12,qy 14,aNI s,lW s,hZ,P,N,aR0 F,T,ip,aQW,al];refine⟨⟨Z,p2,p3,p4,p5,p6,p7,p8,by have:=u.1;omega,by have:=u.2;omega⟩,?_⟩;rintro _ ⟨cs,rfl,v⟩;refine⟨.inl (by simp[nA,x9 F];simp[aNN,iR,aP.c,aOw.c,sl]),?_⟩;simp only[oJ,pG,aY];refine zm z λv7 y3 C N7 c7=>?_;refine stW c7 A (oC v) λG D am=>?_;have f:=D.kq<|C.kq s;have an:=D.kq<|C.kq P;have o:=D.kq<|C.kq N;have ag:=D.len.trans<|C.len.trans z;have g0:∀{j:Nat},iQ j G (.p (6,B) 0 0)=V (.p (6,B) 0 j):=(by grind [rR]);have g1:sA J G (.p (6,B) 0 0)=V (iv e.aq):=(by rw[aC5,o];rfl);have g5:sA J G (.p (6,B) 0 5)=V (sl ci e.dI):=(by rw[aC5,o];rfl);have g6:sA J G (.p (6,B) 0 6)=V (sl ci e.ep):=(by rw[aC5,o];rfl);rcases a5:bjf t.aQ (vq t.aQ t.ac k) e with _|_;simp only[qz 16,au,aIN,jP,↓jN,a5C];simp_all;simp only[qz 16,au,aIN,u0,↓jA,a7i,aNI f,lE f,g0,g1,g5,aQW,ar,rr];have a4:∀(b b2:Bool),(b=U->∀n∈e.dI,aOE t.ac k e.aq n)->(b2=U->∀n∈e.ep,aOE t.ac k e.aq n)->b=U->b2=U->aYr t.aQ t.ac (k+1):=λb b2 h1 h2 h3 h4 j d=>(by obtain h|rfl:=Nat.lt_succ_iff_lt_or_eq.1 d;exact E j h;simp_all);refine⟨⟨Z,R,by have:=u.1;omega⟩,?_⟩;rintro _ ⟨r1,rfl,a6⟩;refine⟨.inl (by simp[nA,aNN,iR,sl]),?_⟩;cases r1 with|false=>simp only[aIN,aY,aMZ,kN,fh,aBA,jN,a5C,iC];simp_all|true=>simp only[aIN,aY,aMZ,kN,fh,aBA,jA,lE f,g1,g6,aQW,ar];refine⟨⟨Z,R,by have:=u.2;omega⟩,?_⟩;rintro _ ⟨r2,rfl,a7⟩;refine⟨.inl (by simp[nA,aNN,iR,sl]),?_⟩;cases r2 with|false=>simp only[aIN,aY,kN,a7i,iC];simp_all|true=>simp only[aIN,aY,fh,a7i,iB,u1,am,aR0 v,ip];refine stW an (oC F) (oC v) λy5 G5 c5=>?_;simp only[qz 18,au,cS,aY];refine yU x ⟨G5.kq f,⟨cs,c5,?_⟩,G5.len.trans ag,vB⟩;grind [vq]
def aUo:FT:=om aXx
def bcf:=aUy aUo aXx (j:=bsg)
def aXA(t:brp)(n:Nat)(hp:aN4 t.aQ t.ac/\n<=L t.ac/\∀e∈t.ac,EvL e):Ct 64 [.a t.c,iv n] (·= .a (vq t.aQ t.ac n).c):=by obtain⟨C,hn,D⟩:=hp;have M:=C.wv;have:=C.ln;obtain⟨z1,z2,z3,z4,z5,z6⟩:=aP4 M;refine aDq (bhs A λs2 E W h0=>?_);show aVy (.p (2,1) 0 0) (iv n) s2 λr=>bqE r= .a (vq t.aQ t.ac n).c;have lE:∀{y:ae},box y (2,1)=V ⟨77,7,U,U,[t.c]⟩->sA J y (.p (2,1) 0 6)=V (sl aP.c t.ac):=λ{y} h=>(by rw[aC5,h];rfl);have N:∀{y:ae},box y (2,1)=V ⟨77,7,U,U,[t.c]⟩->sA (V 6) y (.p (2,1) 0 0)=V (.a t.aQ.c):=λ{y} h=>(by rw[aC5,h];rfl);simp only[aVy];refine zm E λv4 T v N4 b4=>?_;have i:=v.len.trans E;have d:=v.kq W;simp only[qz 4,aNI d,N d,aY];refine jH A (a6N i Z Z Z Z) ?_;rintro _ s8 ⟨rfl,j⟩;refine⟨j.len,?_⟩;have G:=j.len.trans i;simp only[qz 6,qy 8,qy 10];refine zm G λg ay q N9 b9=>?_;refine stW b9 A rfl λS s c9=>?_;have w:Fx T S [(5,g)]:=(j.trans q).trans s;refine yV n (λk _ y=>Fx T y [(5,g)]/\∃ds,box y (5,g)=V ⟨42,7,U,U,[ds]⟩/\Lk ds (vq t.aQ t.ac k).c) ⟨w,_,c9,aXL _⟩ ?_;rintro k _ y hk ⟨F,ds,z,b⟩;have m:=F.kq d;have d4:=F.kq b4;have R:∀{e:aP},aN (V 7) e.c=V (.a e.c):=A;rcases P:Q ((k:Int)<(n:Int)) with _|_;obtain rfl:k=n:=X;simp only[qz 25,qy 14,au,av4,aY,P,↓iB,u1,z,aR0 b,aj,ip];refine stW d4 A (oC b) λy2 u b2=>?_;simp only[eQ,b2,aR0 b];grind [aQ7,bcA,ba9];have K:k<n:=vB;have f:k<L t.ac:=Z;have x:=λ{Y}=>b.arg Y;obtain⟨p2,p3,p4,p5,p6,p7,p8⟩:=(aTz (l:=t.ac) M k Z).snB Z;have o:=D _<|dB f;have l9:sA (V 7) y (.p (5,g) 0 0)=V (.a ds):=(by grind [aC5,aR0]);simp only[qz 25,qy 14,aI,au,av4,aY,P,↓iC,aNI m,N m,lE m,l9,aCh,aC6,R,bh];refine⟨dJ f,?_⟩;generalize he:gd t.ac k=e at o;simp only[aQW,ar,x];refine⟨⟨Z,p2,p3,p4,p5,p6,p7,p8,by have:=o.1;omega,by have:=o.2;omega⟩,?_⟩;rintro _ ⟨cs,rfl,B⟩;refine⟨.inl (by simp[nA,x9 b];simp[aNN,iR,aP.c,aOw.c,sl]),?_⟩;simp only[oJ,pG,aY];refine stW z (oC b) (oC B) λy2 u c2=>?_;simp only[qz 12];refine dT (by simp[eL,lb,Qh,aNG,dC,dK]) ?_;simp only[au,cS,aY];refine yU K ⟨(F.trans u).mono O,cs,c2,?_⟩;grind [vq]
def aUq:FT:=aIc aXA
def bci:=gX aUq aXA (j:=by simp+contextual only[lT,Int.natCast_inj])
def a7K:dO:=(63,aUo)::(64,aUq)::a7J
def a7t:eJ a7K:=asq (rj aXx)<|asq (aCb aXA)<|aX7
def aWp:=ai @bcf<|ai @bci<|@aQW
section
attribute[local irreducible] aX
def a9T:=I9 16 [(11,([8,9],[1,2]))]
def aVw a a1 b R:=(.mk _:NR a7K a9T Tryz.f22 [.u,a1] [a] b R).p
def bhr{c0:dM}{a1:AV}{R:J3}(l0:L c0=7)(h:H1 77 7 2 c0 λia b=>aVw ia a1 b R):Ct 22 [.a c0,a1] R:=z1 a9T a7t func22 l0 h
end
def aV1(n:Int)(l:List am):Prop:=∀w∈l,(bcV w=U/\hU w)/\(L w.ac:Int)<=n
def bhH{t:brp}(a:aN4 t.aQ t.ac)(d:∀e∈t.ac,EvL e){i j:Nat}(g:i<=L t.ac)(k:j<=i+16):bcV ⟨t.aQ,i,vq t.aQ t.ac i,(t.ac.take j).drop i⟩=U/\hU ⟨t.aQ,i,vq t.aQ t.ac i,(t.ac.take j).drop i⟩:=by obtain⟨z1,z2,z3,m,n,o⟩:=aP4 a.wv;have c:=aTz (l:=t.ac) a.wv i<|aYF a.ln;rw[List.drop_take];refine⟨bhG a g Z,X,λl h=>?_,λe f=>?_,?_⟩;have:=c.sy.rd l h;have:=a.ln;omega;have b:=d e<|List.mem_of_mem_drop<|List.mem_of_mem_take f;exact⟨by have:=b.1;omega,by have:=b.2;omega⟩;have:=c.fu;show L (vq t.aQ t.ac i).bU<_;omega
def spM(vs:dM)(y:ae):Nat:=(1000-(match gt vs 1 with| .s (.int _ n)=>n|_=>0)).toNat
def aXz(t:brp)(n:Int)(hp:L t.ac<1000000/\∀e∈t.ac,EvL e):Ct 22 [.a t.c,iv n] (λr=>∃(l:List am) (e:Int),r= .t [sl am.c l,iv e]/\aV1 n l):=by obtain⟨M,u⟩:=hp;generalize E:(λ(r:AV)=>∃(l:List am) (e:Int),r= .t [sl am.c l,iv e]/\aV1 n l)=Qq;refine aDq (bhr A λs2 hl C h0=>?_);show aVw (.p (2,1) 0 0) (iv n) s2 λr=>Qq<|bqE r;have T:∀{y:ae},box y (2,1)=V ⟨77,7,U,U,[t.c]⟩->sA (V 7) y (.p (2,1) 0 0)=V (.a t.c):=λ{y} h=>(by rw[aC5,h];rfl);have lE:∀{y:ae},box y (2,1)=V ⟨77,7,U,U,[t.c]⟩->sA J y (.p (2,1) 0 6)=V (sl aP.c t.ac):=λ{y} h=>(by rw[aC5,h];rfl);have lW:∀{y:ae},box y (2,1)=V ⟨77,7,U,U,[t.c]⟩->sA (V 6) y (.p (2,1) 0 0)=V (.a t.aQ.c):=λ{y} h=>(by rw[aC5,h];rfl);have z:∀{y:ae},fS y (sl aP.c t.ac)=V (iv<|L t.ac):=cT;have d:∀{y:ae} {e:Int},aE (λr=>Qq<|bqE r) y [.l [] U U,iv e]:=λ{y e}=>aOH (vs':=[sl am.c [],iv e]) A rfl (by rw[<-E];exact⟨[],e,A,by intro w o;simp at o⟩);simp only[aVw,T C,aY,aWp,o0];refine⟨⟨M,u⟩,?_⟩;rintro _ ⟨i0,e0,rfl,s⟩;refine⟨.inl (by simp[nA,aNN,iR,brp.c,aOw.c,sl]),?_⟩;simp only[oJ,pG,aY,av6];rcases q0:Q (e0≠0) with _|_;rotate_left;simp only[iC];exact d;have s:=s X;have:=s.ln;simp only[iB];rcases B:Q (n<1) with _|_;rotate_left;simp only[ir,B,↓jN,a5C];exact d;rcases q2:Q (16<n) with _|_;rotate_left;simp only[ir,B,q2,↓jA];exact d;have:1<=n:=vB;have:n<=16:=vB;simp only[ir,B,q2,↓jA];let b:aG:=λvs y=>∃(out:AV) (f:List am) (i:Nat),vs=[out,iv i]/\i<=500/\L f<=i/\aV1 n f/\J7 y 45 15 out (f.map am.c)/\(∀q∈aA out,q.1=51)/\box y (2,1)=V ⟨77,7,U,U,[t.c]⟩/\L y=4096;refine⟨b,spM,⟨_,[],0,A,Z,O,by intro w o;simp at o, .inl ⟨A,A⟩,aBY,C,hl⟩,?_⟩;rintro _ y ⟨out,f,i,rfl,hi,aq,F,g,po,k,v⟩;generalize hI:b=I';rcases q3:Q ((i:Int)<(L t.ac:Int)) with _|_;simp only[qz 67,qy 4,aI,au,gt1,aNI k,lE k,z,av4,aY,q3,↓iB];refine aOH (vs':=[sl am.c f,iv 0]) (by simp only[ji,mU,aWs g];rfl) (by simp[iX,eN,sl]) ?_;rw[<-E];exact⟨f,0,A,F⟩;have R:i<L t.ac:=vB;have D:dq.wrap ((i:Int)+n)=(i:Int)+n:=brE;obtain⟨m,rfl⟩:∃m:Nat,n=m:=⟨n.toNat,Z⟩;obtain⟨j,N,P,ap⟩:∃j:Nat,(if(L t.ac:Int)<(i:Int)+m then(L t.ac:Int) else(i:Int)+m)=j/\j<=i+16/\i<=j/\j<=L t.ac:=(by split;grind;exact⟨i+m,Z,Z,Z,Z⟩);have o:=bhH s u (Nat.le_of_lt R) P;have G:bM bvC aQ4 [(0, .a t.aQ.c),(1,iv i),(2, .a (vq t.aQ t.ac i).c),(3,sl aP.c<|(t.ac.take j).drop i)]=V (.a<|am.c ⟨t.aQ,i,vq t.aQ t.ac i,(t.ac.take j).drop i⟩):=A;simp only[qz 67,qy 4,aI,au,gt1,aNI k,lE k,lW k,T k,z,av4,cS,aY,q3,↓iC,aWp,o0,D,aXT,N,slE];refine⟨X, .inl (by simp[nA,aNN,iR,brp.c,aOw.c,sl]),Z,?_⟩;simp only[bh,G,aY];have x:(L (am.mk t.aQ i (vq t.aQ t.ac i)<|(t.ac.take j).drop i).ac:Int)<=m:=(by have:j<=i+m:=Z;show(L ((t.ac.take j).drop i):Int)<=m;rw[oz,gC];omega);generalize ao:(am.mk t.aQ i (vq t.aQ t.ac i)<|(t.ac.take j).drop i)=W at o x;have K:aX byq 1 y [(0, .a W.c)]=V (.l ([W].map am.c) U U,y):=ua A rfl rfl H (by simp[am.c,eN,sl]) H;have aEx:∀{l:List am},∀r∈l.map am.c,L r=15:=qW (λ_=>by rfl);simp only[K,bQ];refine apQ g v aEx aEx O NA λout' y2 g2 F2 p2=>?_;simp only[qz 6];refine dT (by simp[eL,lb]) ?_;simp only[gt1,cS,aY,D];rw[<-hI];refine⟨⟨out',f++[W],i+m,O,Z,NA,λw S=>?_,bvb,λq hq=>(p2 q hq).2,bsq,F2.len.trans v⟩,?_⟩;obtain h|h:=dF.1 S;exact F w h;simp at h;subst h;exact⟨o,x⟩;show(1000-((i:Int)+m)).toNat<(1000-(i:Int)).toNat;omega
def aUp:FT:=pn aXz
def bch:=f211 aUp aXz (j:=bsg)
def a7L:dO:=(22,aUp)::a7K
def a7u:eJ a7L:=asq (aN0 aXz)<|a7t
def aWq:=ai @bch<|@aWp
section
attribute[local irreducible] aX
def bgh{a a1}:=y0 a7u func21 aur [a,a1]
end
def aWK(p)(s)(z:(∀x∈p,0<=x/\x<256)/\L p<4611686018427387904/\L s<=100):Ct 21 [sl cu p,sl cu s] (λr=>∃t:brp,r= .a t.c/\L t.ac<=100/\∀e∈t.ac,EvL e):=by obtain⟨v,w,h3⟩:=z;generalize hQ:(λ(r:AV)=>∃t:brp,r= .a t.c/\L t.ac<=100/\∀e∈t.ac,EvL e)=Qq;refine aDq (bgh λs0 k W=>?_);refine zm k λv1 s2 l S m=>?_;have g:=l.len.trans k;simp only[qz 2,qy 4,aWq,ar];refine⟨⟨v,w⟩,?_⟩;rintro _ ⟨c,rfl,y⟩;refine⟨.inl (by simp[nA,aNN,iR,sl]),?_⟩;simp only[Fa];refine⟨Z,?_⟩;rintro _ ⟨cs,rfl,E⟩;refine⟨.inl (by simp[nA,aNN,iR,sl]),?_⟩;simp only[aWq,ar];refine⟨⟨y,Z⟩,?_⟩;rintro _ ⟨t,st,rfl,F,G⟩;refine⟨.inl (by simp[nA,aNN,iR,sl,bit.c,aOw.c]),?_⟩;simp only[oJ,pG,aY];refine zm g λv8 s9 h T n=>?_;refine zm (h.len.trans g) λR K b C i=>?_;simp only[qz 6,qy 8];refine stW (b.kq n) A rfl λM d o=>?_;refine stW (d.kq i) A rfl λN f D=>?_;have j:=f.kq o;have q:=f.kq<|d.kq<|b.kq<|h.kq m;have rt:aN (V 7) t.c=V (.a t.c):=A;simp only[qz 10,qy 12,eQ,j,rt,ip];refine stW q A rfl λP B u=>?_;simp only[eQ,u,rt];refine aOv (v':= .a t.c) A (by simp[iX,eN,brp.c,aOw.c,sl]) ?_;grind
def aTW:FT:=pn aWK
def bbs:=f211 aTW aWK (j:=bxi)
def a7M:dO:=(21,aTW)::a7L
def a7v:eJ a7M:=asq (aN0 aWK)<|a7u
def aRP:=ai @bbs<|@aWq
section
attribute[local irreducible] aX
def a9W:=I9 10 []
def aVB a a1 b R:=(.mk _:NR a7M a9W Tryz.f6 [.u,a1] [a] b R).p
def bhu{c0:dM}{a1:AV}{R:J3}(l0:L c0=5)(h:H1 24 5 2 c0 λia b=>aVB ia a1 b R):Ct 6 [.a c0,a1] R:=z1 a9W a7v func6 l0 h
end
structure aOA where
 p:eu
 s:eu
 c:eu
 z:Int
 w:Int
 deriving Inhabited
def aOA.cs(v:aOA):dM:=[sl cu v.p,sl cu v.s,sl cu v.c, .s<|.int .u8 v.z, .s<|.int .u8 v.w]
def ByL(l:eu):Prop:=(∀x∈l,0<=x/\x<256)/\L l<4611686018427387904
structure aSr(v:aOA):Prop where
 p:ByL v.p
 s:ByL v.s
 c:ByL v.c
 z:0<=v.z/\v.z<256
 w:0<=v.w/\v.w<256
def bcQ{v v':aOA}:(v.cs=v'.cs)=(v=v'):=by(cases v;cases v');simp only[aOA.cs,kO,aQZ,AV.s.injEq,Value.int.injEq,aOA.mk.injEq,nJ]
def aYl{w:am}:aN (V 15) w.c=V (.a w.c):=rfl
def aXD(v)(n:Int)(hp:aSr v/\1<=n/\n<=16):Ct 6 [.a v.cs,iv n] (λr=>∃w:am,r= .a w.c/\bcV w=U/\hU w/\(L w.ac:Int)<=n):=by obtain⟨C,aN,aC⟩:=hp;generalize hQ:(λ(r:AV)=>∃w:am,r= .a w.c/\bcV w=U/\hU w/\(L w.ac:Int)<=n)=Qq;refine aDq (bhu A λs2 hl b1 h0=>?_);show aVB (.p (2,1) 0 0) (iv n) s2 λr=>Qq<|bqE r;simp only[aVB];refine zm hl λP s4 R N4 W=>?_;have ak:=R.len.trans hl;have d:=R.kq b1;have l0:∀{y:ae},box y (2,1)=V ⟨24,5,U,U,[v.cs]⟩->sA J y (.p (2,1) 0 0)=V (sl cu v.p):=λ{y} h=>(by rw[aC5,h];rfl);have l1:∀{y:ae},box y (2,1)=V ⟨24,5,U,U,[v.cs]⟩->sA J y (.p (2,1) 0 1)=V (sl cu v.s):=λ{y} h=>(by rw[aC5,h];rfl);have l2:∀{y:ae},box y (2,1)=V ⟨24,5,U,U,[v.cs]⟩->sA J y (.p (2,1) 0 2)=V (sl cu v.c):=λ{y} h=>(by rw[aC5,h];rfl);have N:∀{y:ae},box y (2,1)=V ⟨24,5,U,U,[v.cs]⟩->sA J y (.p (2,1) 0 3)=V (.s<|.int .u8 v.z):=λ{y} h=>(by rw[aC5,h];rfl);have l4:∀{y:ae},box y (2,1)=V ⟨24,5,U,U,[v.cs]⟩->sA J y (.p (2,1) 0 4)=V (.s<|.int .u8 v.w):=λ{y} h=>(by rw[aC5,h];rfl);have hz:=C.z;have hw:=C.w;have ez:dq.wrap v.z=v.z:=brE;have ad:dq.wrap v.w=v.w:=brE;have:=Int.tmod_nonneg n hz.1;have:=Int.tmod_lt_of_pos v.z (show 0<n by omega);have em:dq.wrap (1+v.z.tmod n)=1+v.z.tmod n:=brE;have S:∀{Y:ae},dG Y (.l [] U U)=sl cu []:=A;have o:∀{y:ae} {w:am},bcV w=U->hU w->(L w.ac:Int)<=n->box y (4,P)=V ⟨45,15,U,U,[bvC]⟩->sV (aK 15 y (.p (4,P) 0 0)<|.a w.c) λG=>rV (sA (V 15) G<|.p (4,P) 0 0) λaw=>aE (λr=>Qq<|bqE r) G [aw]:=λ{y w} u B M hb=>(stW hb A rfl λz F b=>by simp only[eQ,b,aYl,ip];refine aOv (v':= .a w.c) A (aWb _) ?_;rw[<-hQ];exact⟨w,A,u,B,M⟩);rcases q0:Q ((0:Int)<(L v.c:Int)) with _|_;rotate_left;simp only[qz 4,qy 6,qy 8,aNI d,l2 d,N d,a6S,av1,aY,q0,↓iC,aS6,ez,jr,cS,em,aRP,ar];refine⟨Z,C.c,?_⟩;rintro _ ⟨w,rfl,u,B,M⟩;exact⟨.inl (by simp[nA,aNN,iR,sl]),o u B Z W⟩;simp only[qz 4,qy 6,qy 8,aNI d,l0 d,l1 d,l2 d,N d,a6S,av1,aY,q0,↓iB,aXT];rw[aIk (z:=1) (f:=cu) λ_=>A];refine⟨Z,?_⟩;generalize hk:(if(80:Int)<(L v.s:Int) then(80:Int) else(L v.s:Int))=k;have:k<=80:=Z;simp only[aRP,ar];refine⟨⟨C.p.1,C.p.2,X⟩,?_⟩;rintro _ ⟨t,rfl,aO,ao⟩;refine⟨.inl (by simp[nA,aNN,iR,sl]),?_⟩;refine zm ak λax aP D aM T=>?_;refine stW T A rfl λav E aa=>?_;have i:=E.kq<|D.kq d;have m:=E.kq<|D.kq W;have lt:sA (V 7) av (.p (5,ax) 0 0)=V (.a t.c):=(by rw[aC5,aa];rfl);simp only[qz 10,qy 12,qy 14];refine dT (by simp[eL,lb,Qh,aNG,dC,dK,sl]) ?_;simp only[aNI i,N i,l4 i,lt,aY,aS6,ez,ad,jr,cS,em,aRP,o0];refine⟨Z,⟨Z,ao⟩,?_⟩;rintro _ ⟨g,e,rfl,hW⟩;refine⟨.inl (by simp[nA,aNN,iR,brp.c,aOw.c,sl]),?_⟩;have aq:∀{y:ae},fS y (sl am.c g)=V (iv<|L g):=cT;simp only[oJ,pG,aY,aq,iM];rcases q1:Q ((L g:Int)=0) with _|_;rotate_left;simp only[iC,aRP,S];refine⟨⟨O,O⟩,?_⟩;rintro _ ⟨w,rfl,u,B,M⟩;exact⟨.inl (by simp[nA,aNN,iR]),o u B Z m⟩;have:0<L g:=X;have al:=Int.tmod_nonneg (L g:Int) hw.1;have an:=Int.tmod_lt_of_pos v.w (show(0:Int)<L g by omega);have ag:∀{x:ae} {j:Int} {K:J3},rV (cz 15 x (sl am.c g)<|iv j) K=(aF (L g) j/\K (.q<|am.c<|gd g j.toNat)):=aBz λ_=>A;simp only[iB,jr,ag,aC6,aYl,aY];have h:=hW _ (dB<|show(v.w.tmod (L g:Int)).toNat<L g by omega);exact⟨Z,⟨al,an⟩,o h.1.1 h.1.2 (aYF h.2) m⟩
def aUs:FT:=pn aXD
def bck:=f211 aUs aXD (j:=by simp+contextual only[ij,bcQ])
def a7N:dO:=(6,aUs)::a7M
def aX8:eJ a7N:=asq (aN0 aXD)<|a7v
def a6u:=ai @bck<|@aRP
def bnW:=I9 10 [(4,([3,11],[9,10]))]
def bp6{a}:=y0 aX8 func183 bnW [a]
def bnU:=I9 10 [(4,([18],[2,3,16,17]))]
def bp4{c0}:=y1 39 4 1 aX8 func182 bnU c0 [.a c0]
def bp5{c0 b}:=y2 45 15 2 85 9 3 aX8 func185 at1 c0 b [.a c0, .a b]
def bnR:=I9 14 [(6,([22],[2,4,20,21]))]
def bp0{c0 b c}:=y2 45 15 3 85 9 4 aX8 func103 bnR c0 b [.a c0, .a b,c]
def bn0:=I9 10 [(3,([7],[2,3,4]))]
def bqa{c0 b c}:=y2 45 15 3 85 9 4 aX8 func74 bn0 c0 b [.a c0, .a b,c]
def bnZ:=I9 16 [(6,([9],[2,3,4,5])),(9,([],[2,3,4,5,9]))]
def bp9{c0 b c d}:=y2 45 15 4 85 9 5 aX8 func129 bnZ c0 b [.a c0, .a b,c,d]
def bqg{c0 a1}:=y1 85 9 2 aX8 func75 a9l c0 [.a c0,a1]
def bnQ:=I9 30 [(11,([10,45],[2,3,5,9,43,44])),(14,([10],[2,3,5,9,43,44,45])),(19,([61],[5,9,10,59,60])),(22,([],[5,9,10,59,60,61]))]
def bpZ{c0 b c d}:=y2 45 15 4 85 9 5 aX8 func189 bnQ c0 b [.a c0, .a b,c,d]
structure aB9 where
 value:Int
 known:Bool
 deriving Inhabited,DecidableEq
structure bdT where
 eB:aW
 cells:List aB9
 bU:List aB9
 order:eu
 fixed:List Bool
 woke:eu
 deriving Inhabited,DecidableEq
def aB9.c(x:aB9):dM:=[iv x.value,bv x.known]
def bdT.c(x:bdT):dM:=[sl cg.c x.eB.ak,iv x.eB.tx,sl cb x.eB.done,sl aoC.c x.eB.ay,sl aB9.c x.cells,sl aB9.c x.bU,sl ci x.order,sl cb x.fixed,sl ci x.woke]
def boR{x y:aB9}:(aB9.c x=aB9.c y)=(x=y):=by cases x;cases y;simp[aB9.c]
def boS{l l'}:=bsn @boR l l'
def aNX{x y:bdT}:(bdT.c x=bdT.c y)=(x=y):=by cases x;cases y;simp[bdT.c,amV,boS,aW.ext_iff',and_assoc]
def ijm:=ai @boS<|@aNX
def bpy{x}:=brK (aB9.c x) A
def bpz{x}:=aQ6 1 (aB9.c x) A
def bpA{x}:=brx 2 (aB9.c x) A
def bpq{x}:=aQ6 3 (bdT.c x) A
def bpr{x}:=aQ6 4 (bdT.c x) A
def bps{x}:=aQ6 5 (bdT.c x) A
def bpt{x}:=aQ6 6 (bdT.c x) A
def bpu{x}:=aQ6 7 (bdT.c x) A
def bpv{x}:=aQ6 8 (bdT.c x) A
def bpw{x}:aN (V 4) (bdT.c x)=V (.a<|x.eB.c):=rfl
def bpx{x}:=brx 9 (bdT.c x) A
def oe:=ai @bpy<|ai @bpz<|ai @bpA<|ai @bpq<|ai @bpr<|ai @bps<|ai @bpt<|ai @bpu<|ai @bpv<|ai @bpw<|@bpx
def iq:=ai @eT @oe
def je:=ai @fQ @oe
def l8:=ai @fD @oe
def nc:=ai @ie @oe
def boc{Y x}:dG Y (.a<|bdT.c x)= .a (bdT.c x):=rfl
def arm:=@boc
section
variable{K:J3}{Y:ae}{i:Int}
def boX{l}:rV (cz 2 Y (sl aB9.c l)<|iv i) K=(aF (L l) i/\K (.q<|aB9.c<|gd l i.toNat)):=aBz λ_=>A
end
def aNY(w:am):bdT:=⟨w.init.eB,w.init.cells.map λv=>⟨v,U⟩,w.init.bU.map λv=>⟨v,U⟩,[],er (L w.ac) I,er (L w.ac) 0⟩
def a6w(w:am)(c:bdT)(t:Int)(i:Nat):Bool:=Q ((gd w.ac i).aq=t)&&!Q ((i:Int)∈c.order)
def aH7(w:am)(c:bdT)(t:Int):Int:=uo (a6w w c t)<|L w.ac
def aPQ(w:am)(c:bdT)(t n:Int):Bool:=Q (n<gd w.init.count t.toNat)||(dh (oV w t<|n-gd w.init.count t.toNat) (L c.fixed)&&gd c.fixed (oV w t<|n-gd w.init.count t.toNat).toNat)
def aTF(w:am)(c:bdT)(t:Int)(l:eu):Bool:=l.all<|aPQ w c t
def evN(w:am)(c:bdT)(t:Int):aP:=gd w.ac (aH7 w c t).toNat
def aID(w:am)(c:bdT)(t:Int):Bool:=!Q (aH7 w c t<0)&&(jm w.aQ c.eB t (evN w c t).kind (evN w c t).eI&&aTF w c t (evN w c t).dI)
def aRD(w:am)(c:bdT)(t:Int)(e:aP):aB9:=bif aTF w c t e.ep then⟨e.value,U⟩ else⟨0,I⟩
def aN2(w:am)(c:bdT)(ch:ot):bdT:=
 let k:=aH7 w c ch.aq
 let e:=gd w.ac k.toNat
 let a:=cU w.aQ c.eB ch.aq e.kind e.eI ch.lD
 {eB:=a.1,order:=c.order++[k],
  cells:=if e.kind=4 then c.cells.set e.eI.toNat (aRD w c ch.aq e) else c.cells,
  bU:=if e.kind=22 then c.bU.set e.eI.toNat (aRD w c ch.aq e) else c.bU,
  fixed:=if e.kind=3 then c.fixed.set k.toNat (Q<|gd c.cells e.eI.toNat=⟨e.value,U⟩) else if e.kind=23 then c.fixed.set k.toNat (Q<|gd c.bU e.eI.toNat=⟨e.value,U⟩) else c.fixed,
  woke:=if e.kind=18 then(if 0<=a.2 then c.woke.set k.toNat 1 else c.woke) else if e.kind=19 then c.woke.set k.toNat a.2 else c.woke}
def aNT(w:am):bdT->List ot->Option bdT|c,[]=>V c|c,ch::l=>if aID w c ch.aq=U then aNT w (aN2 w c ch) l else J
structure CfI(w:am)(c:bdT):Prop where
 sy:kQ (L w.aQ.ay) c.eB
 ft:lh w.aQ c.eB=U
 ce:L c.cells=L w.aQ.cells
 fu:L c.bU=L w.aQ.bU
 fx:L c.fixed=L w.ac
 wk:L c.woke=L w.ac
 od:∀x∈c.order,aF (L w.ac) x
 nd:c.order.Nodup
def bka:∀(n:Nat) {l:eu},l.Nodup->(∀x∈l,aF n x)->L l<=n
 |0,l,_,h=>by
  cases l with
  |nil=>simp
  |cons x l=>obtain⟨f,b⟩:=h x O;omega
 |n+1,l,d,h=>by
  by_cases i:(n:Int)∈l
  ·have f:=bka n (d.erase (n:Int)) λx a=>by
    have b:=(d.mem_erase_iff).1 a
    obtain⟨c,g⟩:=h x b.2
    have j:=b.1
    exact⟨c,Z⟩
   simp_all
  ·have f:=bka n d λx a=>by
    obtain⟨c,g⟩:=h x a
    have:x≠n:=λe=>i<|e▸a
    exact⟨c,Z⟩
   omega
def CfI.ol{w c}(h:CfI w c):L c.order<=L w.ac:=bka _ h.nd h.od
theorem bmY{p n}(h:0<=uo p n):∃k,uo p n=(k:Nat)/\k<n/\p k=U:=by grind [uo]
def bpd{l:eu}:∀{s},(l.foldl uE s).ak=s.ak/\(l.foldl uE s).done=s.done/\L (l.foldl uE s).ay=L s.ay:=by induction l with|nil=>simp|cons u l a=>grind [uE,aNU]
def bis(s:aW)(x:aW×Int):Prop:=L x.1.ak=L s.ak/\L x.1.done=L s.done/\L x.1.ay=L s.ay
def bis.ite{s c}[Decidable c]{a b}(d:bis s a)(e:bis s b):bis s (if c then a else b):=X
def bob{w s t kind eI lD}:bis s (cU w s t kind eI lD):=by obtain⟨m1,b,c⟩:=bpd (l:=fO s eI) (s:=s);have a:(λ(s:aW) u=>aNU s u {fA s u with cQ:=4})=uE:=A;unfold cU;rw[a];(repeat' apply bis.ite)<;>simp only[bis,aNU,lC,List.length_set,m1,b,c,aNR]
def boJ{w s}(h:lh w s=U)(t kind eI lD):lh w (cU w s t kind eI lD).1=U:=by have a:=bob (w:=w) (s:=s) (t:=t) (kind:=kind) (eI:=eI) (lD:=lD);simp only[lh,bN,awG,a.1,a.2.1,a.2.2] at h⊢;exact h
theorem bjy{w c}{t:Int}(h:aID w c t=U):∃k,aH7 w c t=(k:Nat)/\k<L w.ac/\(gd w.ac k).aq=t/\(k:Int)∉c.order/\jm w.aQ c.eB t (gd w.ac k).kind (gd w.ac k).eI=U/\aTF w c t (gd w.ac k).dI=U:=by simp only[aID,evN,bN,eH,aPs,aqC] at h;grind [bmY,a6w,aH7]
theorem CfI.step{w c}(h:CfI w c){ch}(d:aID w c ch.aq=U):CfI w (aN2 w c ch):=by obtain⟨k,b,e,f,g,a,i⟩:=bjy d;simp only[jm,bN] at a;refine⟨h.sy.apply _ _ _ _ _<|dX.1 a.2.1,boJ h.ft _ _ _ _,?_,?_,?_,?_,?_,?_⟩<;>simp only[aN2,b];have:=h.ce;grind;have:=h.fu;grind;have:=h.fx;grind;have:=h.wk;grind;grind [CfI.od,dJ];grind [CfI.nd]
def bhV{w}(b:bcV w=U):CfI w (aNY w):=by obtain⟨c,hs⟩:=aQA b;obtain⟨g,f,d,e,a⟩:=tC c;simp only[fN,bN,awG] at a;exact⟨Bq b 0<|mh _,a.1,by grind [aNY],by grind [aNY],by simp[aNY],by simp[aNY],by simp[aNY],by simp[aNY]⟩
def CfI.run{w}:∀{l c b},CfI w c->aNT w c l=V b->CfI w b
 |[],c,b,h,a=>by grind [aNT]
 |ch::l,c,b,h,a=>by
  simp only[aNT] at a
  split at a
  ·exact CfI.run (h.step ‹_›) a
  ·cases a
def bhP(w:am)(c:bdT)(e:Int):Bool:=Q (aH7 w c (gd w.ac e.toNat).aq=e)&&aID w c (gd w.ac e.toNat).aq
def aTr(w:am)(c:bdT)(e:Int):Bool:=Q (aH7 w c (gd w.ac e.toNat).aq=e)&&!(Q ((gd w.ac e.toNat).kind=17)&&Q ((gd c.eB.ay (gd w.ac e.toNat).aq.toNat).cQ≠4))
def atC(c:bdT)(e:Int):Int:=uo (λi=>Q<|gd c.order i=e)<|L c.order
def aOM(w:am)(c:bdT)(g:cJ):Bool:=
 bif Q (g.kind=1) then bhP w c g.ea&&bhP w c g.eb
 else bif Q (g.kind=2) then g.cW.all<|aTr w c
 else bif Q (g.kind=3) then !Q (L c.order=0)&&(Q (gd c.order (L c.order-1)=g.eb)&&(Q (g.ea∈c.order)&&Q (gd c.woke g.ea.toNat=0)))
 else !Q (atC c g.ea<0)&&(Q (atC c g.ea<atC c g.ec)&&(Q (g.ed∈c.order)&&bhP w c g.eb))
def biu(w:am)(g:cJ)(l:List ot):Bool:=match aNT w (aNY w) l with|some c=>aOM w c g|none=>I
def bj8{t:Int}:∀{l} {i m:Nat},L (kJ t l i)<=m->pS t l m i= -1
 |[],i,m,h=>rfl
 |e::l,i,m,h=>by
  simp only[kJ,a6G] at h
  simp only[pS]
  by_cases a:e.aq=t
  ·simp only[a,a6F,List.length_singleton] at h⊢
   obtain⟨m,rfl⟩:∃m',m=m'+1:=⟨m-1,Z⟩
   rw[za Z,show((m+1:Nat):Int)-1=(m:Int) by omega]
   exact bj8 Z
  ·simp only[a,btd,bhZ] at h⊢
   exact bj8 Z
def bpk{w:am}{t:Int}:kJ t w.ac 0=fj w.ac t (L w.ac):=by grind [anU,gV]
def bpf{w}{t:Int}{m:Nat}(h:L (fj w.ac t<|L w.ac)<=m):oV w t m= -1:=bj8 (by rwa [bpk])
def boK{w c}{t n:Int}(b:L c.fixed=L w.ac)(d:gd w.init.count t.toNat<=n):aPQ w c t n=(Q ((n-gd w.init.count t.toNat)<(L (fj w.ac t<|L w.ac):Int))&&gd c.fixed (gd (fj w.ac t<|L w.ac) (n-gd w.init.count t.toNat).toNat)):=by obtain⟨m,a⟩:∃m:Nat,n-gd w.init.count t.toNat=m:=⟨(n-gd w.init.count t.toNat).toNat,Z⟩;simp only[aPQ,a,bh];rw[bqN Z,lG];by_cases h:m<L (fj w.ac t<|L w.ac);have:gd (fj w.ac t<|L w.ac) m<L w.ac:=(by grind [dB,fj]);grind [aEv,dX,dJ];rw[bpf Z,bqN Z];rfl
def bod(n c)(w)(R)(a:R (.returned<|.slice J 0 0) w):Calls aS 187 #[.slice J n c] w R:=by have:=λ(W:World)=>run_eql_slice_nil (P:=aS) W 83 222 J n c a7c;go_enter func187,Tryz.ntmps187;go_wp2;exact a
def boe(a)(n c)(w)(R)(d:(nU Tryz.f187).wp aS (bodyPost aS Tryz.f187 R) {tmps:=#[.slice (V a) n c,undef, .slice J 0 0, .slice (V a) n c, .bool I,undef,undef,undef],defers:=[]} w):Calls aS 187 #[.slice (V a) n c] w R:=by have:=λ(W:World)=>run_eql_slice_nil (P:=aS) W 83 222 (V a) n c a7c;go_enter func187,Tryz.ntmps187;generalize b:(Code.region 3 _ I).seq Code.ret=T;go_wp2;subst b;exact d
def bnc{bA}(k:∀r∈bA,L r=2)(u:L bA<1000000):∃r a,lI a 222 2 r bA/\cZ aS GG 187 [.l bA I I] eK r a/\(bA=[]->r= .l [] U U):=by have h:=DX (fn:=187) (f:=Tryz.f187) (an:=[J,J]) func187 A rfl (λn c w R h=>bod n c w R h) (λg n c w R h=>boe g n c w R h) a7c a7c (bA:=bA) (R:=λr a=>lI a 222 2 r bA/\(bA=[]->r= .l [] U U/\a=eK)) (Eq.mpr (show Zq aS GG [] [J,J] (nU Tryz.f187) 0 (tO aS Tryz.f187 λr a=>lI a 222 2 r bA/\(bA=[]->r= .l [] U U/\a=eK)) (gt<|xE<|.l bA I I) eK=(eV (aX buY 0 eK []) λp m=>eV (apA 222 buY 16 m 7 p<|.l bA I I) λt4 o=>aRf (λr a=>lI a 222 2 r bA/\(bA=[]->r= .l [] U U/\a=eK)) o [t4]) by kernel_rfl) ?_) (λr a h=>h.2);obtain⟨r,a,d,j⟩:=h;exact⟨r,a,d.1,j,λe=>(d.2 e).1⟩;simp only[nS,bQ];by_cases b:bA=[];subst b;simp only[apA,gL,bhZ,a6F,eV,aRf,aoz];exact⟨lI.nil,λ_=>⟨trivial,trivial⟩⟩;refine gD (e:=222) (new:=bA) lI.nil A H (by rw[show L eK=4096 from List.length_replicate ..];decide) O k (by simp only[bhZ];omega) λs Y' i q t _=>?_;simp only[aRf,aoz];exact⟨i,λh=>aYx h b⟩
def bmT{Y}{d:Nat}{K bA x}(q:dG Y x= .l bA I I)(p:∀r∈bA,L r=2)(o:L bA<1000000)(i:bA.all (λr=>r.all gY)=U)(c:d<L Y)(e:∀a Y',lI Y' 222 2 a bA->Fx Y Y' []->(∀k∈aA a,bK Y k/\k.1=d)->K a Y'):cN 187 [x] Y d K:=by obtain⟨r,j,g,h,_⟩:=bnc p o;have f:[x].map (dG Y)=[.l bA I I]:=(by simp[q]);refine .inl ⟨by rw[f];rfl,by simp[vg,c],r,j,by rwa [f],?_⟩;obtain⟨m,rfl⟩|⟨b,rfl,n⟩:=g;exact .inl ⟨A,e _ _ (.inl ⟨m,A⟩) (Fx.refl _ _) aBY⟩;refine .inr ⟨b,_,_,A,n,?_,e _ _ (.inr ⟨lA Y d,A,iy c⟩) (kH c) bvf⟩;simpa[qA] using i
def a8d{l:List aB9}:∀r∈l.map aB9.c,L r=2:=λr a=>by obtain⟨y,_,rfl⟩:=dN.1 a;rfl
def bjR(l)(F:L l<1000):Ct 183 [sl ci l] (·=sl aB9.c (l.map λv=>⟨v,U⟩)):=by refine aDq (bp6 λs0 j C=>?_);have n:∀{K:be},(∀b Y',b.1=8->bK s0 b->Fx s0 Y' []->box Y' b=V ⟨222,2,U,I,[]⟩->K (.m b 0) Y')->eV (qO 222 buY 16 s0 8 (iv 0)<|iv<|L l) K:=λ{K} u=>(by have t:qO 222 buY 16 s0 8 (iv 0) (iv<|L l)=V (.m (lA s0 8) 0,put s0 8 ⟨222,2,U,I,[]⟩):=(by simp only[qO];rw[zg ⟨Z,Z,H,A,by simp[vg,j],by show(L l:Int)*(16+1)<=1099511627776;omega⟩];simp;rfl);rw[t];exact u _ _ A (qQ s0 8) (by grind [kH])<|by grind [iy]);simp only[cT,aY,↓uL];refine n λb G D w o r=>?_;simp only[qz 2,cT,aY,↓uL];refine yW (L l) (λk a x=>L x=4096/\J7 x 222 2 a (((l.take k).map λv=>aB9.mk v U).map aB9.c)) (s0:= .m b 0) ⟨o.len.trans j, .inr ⟨b,[],O,by simpa using r⟩⟩ ?_;rintro k a x E ⟨e,g⟩;have i:∀{y:Int},aX buY 1 x [(0, .a [iv y,bv U])]=V (.l [aB9.c ⟨y,U⟩] U U,x):=λ{y}=>ua A rfl rfl H A H;have f:∀{y:Int},bM buY bqW [(0,iv y),(1,bv U)]=V (.a [iv y,bv U]):=λ{y}=>A;simp only[qz 25,qy 4,au,gt1,gJ,bh,f,i,↓uL];refine⟨λh=>⟨vp h,?_⟩,λh=>?_⟩;have d:=aL h;refine apQ g e a8d (by simp[aB9.c]) O NA λB M s q z=>?_;simp only[qz 6,au,gt1,eQ,↓uL];refine yX d ⟨q.len.trans e,?_⟩;rw[iJ d,<-aNV d,dg,dg];exact s.p;obtain rfl:k=L l:=X;rw[gV] at g;exact aQ7 (aWs g) A
def biD:FT:=mT bjR
def bui{p:Prop}(h:p:=by simp only[Go.Ab.ij,Go.Ab.aNX]):p:=h
def bov:=oK biD bjR (j:=bui)
def bjQ(w:am)(c:bdT):Ct 185 [.a w.c, .a c.c] (·=bv (Q (L c.cells=L w.aQ.cells)&&(Q (L c.bU=L w.aQ.bU)&&(Q (L c.fixed=L w.ac)&&Q (L c.woke=L w.ac))))):=bp5 A rfl λg f b d e=>by simp+contextual only[iq,b,d,Int.natCast_inj,↓uL]
def bi6:FT:=bsk bjQ
def bou:=f200 bi6 bjQ (j:=bui)
def bjL(w)(c)(t)(s:vL w/\CfI w c):Ct 103 [.a w.c, .a c.c,iv t] (·=iv (aH7 w c t)):=by obtain⟨g,p⟩:=s;have y:=g.wo.ev;have z:=p.ol;refine bp0 A rfl λu r i d C=>?_;simp+contextual only[iq,i,d,↓uL];constructor<;>intro h;have:aH7 w c t= -1:=KX λj q=>(by have:=(g.wo.named q).2;simp only[fH,awG] at h;simp only[a6w,bik,aPs];obtain⟨D,E⟩:=this;omega);rw[this];refine yV (L w.ac) (λk _ x=>Fx u x []/\∀j,j<k->a6w w c t j=I) ⟨Fx.refl _ _,O⟩ ?_;rintro k _ x G ⟨F,hI⟩;have m:=F.kq d;have f:=F.len.trans r;simp only[qz 37,qy 6,au,gJ,bh,↓uL];refine⟨λh=>⟨vp h,?_⟩,λh=>?_⟩;have e:=aL h;refine anu f λv x2 b B l=>?_;have n:=b.kq m;simp+contextual only[qz 8,au,je,l,n,a6u,↓uL];refine⟨λ_=>Z,λo=>?_,λo=>?_⟩;grind [aH7,KW,a6w];exact yU e ⟨F.trans b,by grind [a6w]⟩;grind [aH7,KX]
def bh9:FT:=qe bjL
def boo:=sT bh9 bjL (j:=bui)
def bjU(w)(c)(t)(g:vL w/\CfI w c):Ct 74 [.a w.c, .a c.c,iv t] (·=iv (aH7 w c t)):=by obtain⟨i,f⟩:=g;have l:=i.wo.ev;have m:=f.ol;refine bqa A rfl λq p b d n=>?_;refine bid (L w.ac) (λk=>∀j,j<k->a6w w c t j=I) O λk o hI=>?_;simp+contextual only[qz 19,au,gj,b,d,oe,a6u,bh,↓uL];refine⟨λh=>⟨vp h,λ_=>Z,λe=>?_,λe=>?_⟩,λh=>?_⟩;grind [aH7,KW,a6w];grind [bkg,a6w];grind [aH7,KX]
def bdU:FT:=qe bjU
def boz:=sT bdU bjU (j:=bui)
def bj0(c)(e:Int)(l:L c.order<1000):Ct 75 [.a c.c,iv e] (·=iv (atC c e)):=bqg A λm i b f=>bid (L c.order) (λk=>∀j,j<k->Q (gd c.order j=e)=I) O λk g hI=>by simp only[qz 19,au,l8,b,bh,↓uL];refine⟨λh=>⟨vp h,λd=>?_,λd=>?_⟩,λh=>?_⟩;grind [atC,KW];grind [bkg];grind [atC,KX]
def bdW:FT:=aIc bj0
def boF:=gX bdW bj0 (j:=bui)
structure aC2(w:am):Prop where
 wo:vL w
 ev:∀e∈w.ac,vo e
 sn:∀k,k<L w.ac->L (cY w k).cells<1000/\L (cY w k).bU<1000
 ct:L w.init.count=L w.aQ.ay/\∀c∈w.init.count,0<=c/\c<=400
 rd:∀k,k<L w.ac->∀x,x∈(gd w.ac k).dI\/x∈(gd w.ac k).ep-> -1000<=x/\x<=1000
def bnz{w}(p:hU w)(h:bcV w=U):aC2 w:=by obtain⟨a,hs⟩:=aQA h;obtain⟨t,C,z,B,d⟩:=tC a;have o:L w.init.count=L w.aQ.ay:=(by simp only[fN,bN,awG] at d;exact d.2.2.2);refine⟨vd p h,p.2.2.1,λk s=>?_,⟨o,λc u=>by have:=t.cn c u;omega⟩,λk s x g=>?_⟩;have:=(wK a k Z).ce;have:=(wK a k Z).fu;omega;have e:=hs k s;simp only[bjf,eH,cP] at e;have f:=e.1;have i:=e.2.2.2.2;simp only[aOL,cP,fK] at f;simp only[bip,cP,fK,awG] at i;obtain⟨⟨v,y⟩,F⟩:=i;have hI:=wK a k Z;have q:aF (L (cY w k).count) (gd w.ac k).aq:=(by have D:=dX.1 f.1.1.1.2;have m:=f.1.1.1.1;simp only[fN,bN,awG] at m;rwa [m.2.2.2]);have E:=hI.cn _<|ii q;have b:∀l:eu,lZ l (gd (cY w k).count (gd w.ac k).aq.toNat)->x∈l-> -1000<=x/\x<=1000:=λl n g=>(by obtain⟨j,r,rfl⟩:=ou g;have:=n j r;rw[uJ,aNV r] at this;omega);exact g.elim (b _ v)<|b _ y
def bcF(w:am)(t:Int)(l:eu):Prop:=L l<4611686018427387904/\(∀x∈l,-1000<=x/\x<=1000)/\aF (L w.init.count) t
theorem aC2.dI{w}(h:aC2 w){k:Nat}(a:k<L w.ac):bcF w (gd w.ac k).aq (gd w.ac k).dI/\bcF w (gd w.ac k).aq (gd w.ac k).ep:=by have c:=h.ev _<|dB a;have:=(h.wo.wo.named a).2;have:=h.ct.1;refine⟨⟨c.1,λx b=>?_,vB⟩,⟨c.2,λx b=>?_,vB⟩⟩;exact h.rd k a x<|.inl b;exact h.rd k a x<|.inr b
def bjP(s:aW)(hp:L s.ak<1000/\L s.done<1000/\L s.ay<1000/\∀l∈s.ak,L l.bk<1000):Ct 182 [.a s.c] (·= .a s.c):=by refine aDq (bp4 A λs2 hl b1 h0=>?_);refine zm hl λv2 s3 F3 N3 b3=>?_;have c1:=F3.kq b1;have aJ:=F3.len.trans hl;simp only[qz 4,eT,c1,↓uL];refine aw2 (bA:=s.done.map cb) A X NA bv9 Z λC s4 W T P2=>?_;have F:=T.kq c1;have aK:=T.len.trans aJ;simp only[qz 6,eT,F,↓uL];refine aw1 (bA:=s.ay.map aoC.c) A (by grind [aoC.c]) NA (by simp[gY,aoC.c]) Z λD s5 g3 w P3=>?_;have ar:=w.kq F;have ao:=w.kq<|T.kq b3;have K:=w.len.trans aK;have ax:=W.fx w O;have aE:bM btW bst [(1,iv s.tx),(2,C),(3,D)]=V (.a [.l [] U U,iv s.tx,C,D]):=(by simp[bM,aly,ms W,ms g3,zU]);have p2:=λq d=>(P2 q d).2;have p3:=λq d=>(P3 q d).2;simp only[qz 8,qy 10,aE,aY,↓uL];refine anu K λv3 s6 t N6 b6=>?_;have av:=t.kq ar;have ap:=t.kq ao;have aM:=t.len.trans K;have az:=ax.fx t O;have aB:=g3.fx t O;simp only[qz 12,↓uL];refine dT ?_ ?_;obtain⟨_,r2⟩|⟨⟨k2,u2⟩,r2,_⟩:=W<;>obtain⟨_,r3⟩|⟨⟨k3,u3⟩,r3,_⟩:=g3<;>(try(have h2:=p2 (k2,u2) bno;simp only at h2;subst h2))<;>(try(have h3:=p3 (k3,u3) bno;simp only at h3;subst h3))<;>rw[r2,r3]<;>rfl;have k1:∀{x:dM} {y:AV},aN J (y::x)=V y:=λ{x y}=>(by cases y<;>rfl);simp only[eT,av,↓uL];refine yV (L s.ak) (λk _ x=>∃a1,L x=4096/\box x (2,v2)=V ⟨39,4,U,U,[btW]⟩/\box x (3,v3)=V ⟨39,4,U,U,[[a1,iv s.tx,C,D]]⟩/\J7 x 191 2 a1 ((s.ak.take k).map cg.c)/\lI x 4 1 C (s.done.map cb)/\lI x 69 3 D (s.ay.map aoC.c)/\∀q∈aA a1,q.1=31) ⟨_,aM,ap,b6, .inl ⟨O,A⟩,az,aB,aBY⟩ ?_;rintro k _ x hk ⟨a1,N,m2,m3,B,G2,G3,p1⟩;simp only[qz 25,qy 14,qy 26,au,fD,bh,m3,uS,↓uL];refine⟨λh=>⟨vp h,?_⟩,λh=>?_⟩;have u:=aL h;refine anu N λv5 y e N5 d5=>?_;have aw:box y (5,v5)=V ⟨191,2,U,U,[cg.c<|gd s.ak k]⟩:=d5;have P:=e.kq m3;have aO:=e.len.trans N;simp only[qz 16,eT,aw,P,k1,↓uL];refine Kr (bA:=(gd s.ak k).bk.map ci) A fF bv8 bv9 Z λi y2 E j N7=>?_;have ac:bM bu0 bqW [(0,iv (gd s.ak k).aPo),(1,i)]=V (.a [iv (gd s.ak k).aPo,i]):=(by simp[bM,aly,ms E,zU]);have aF:aX bwL 1 y2 [(0, .a [iv (gd s.ak k).aPo,i])]=V (.l [cg.c<|gd s.ak k] U U,kills y2<|aNN<|.a [iv (gd s.ak k).aPo,i]):=aQm (by simp only[ji,mU,aQ5,aOb E.p];rfl) A H (by simp[cg.c,eN,sl]) H;have ad:aNN (.a [iv (gd s.ak k).aPo,i])=aA i:=(by obtain⟨_,rfl⟩|⟨b,rfl,_⟩:=E<;>rfl);simp only[qz 18,qy 20,ac,aF,aY,bQ,ad,↓uL];have n:=aOp (aA i) y2;have n7:=λq d=>(N7 q d).2;have no:∀{q:Id},q.1≠28->q∉aA i:=λh h'=>h<|n7 _ h';have af:=((B.fx e O).fx j O).fx n X;have aU:=n.keep _ _ (no O)<|j.kq P;have aQ:=n.keep _ _ (no O)<|j.kq<|e.kq m2;have ag:=((G2.fx e O).fx j O).fx n X;have al:=((G3.fx e O).fx j O).fx n X;have M:=n.len.trans<|j.len.trans aO;have rl:∀{l:List cg},∀r∈l.map cg.c,L r=2:=(by grind [cg.c]);refine apQ af M rl (by simp[cg.c]) O NA λam z G f Pz=>?_;have S:∀{q:Id},q.1≠31->q∉aA a1:=λh h'=>h<|p1 _ h';have R:=f.keep _ _ (S O) aU;have aR:=f.keep _ _ (S O) aQ;simp only[qz 22,eS,R,↓uL];refine A0 R G.p.ce O λz2 g an=>?_;simp only[qz 24,↓uL];refine dT ?_ ?_;have o:aNG a1=[]\/aNG a1=[31]:=(by obtain⟨_,rfl⟩|⟨⟨q1,q2⟩,m,rfl,_⟩:=B;exact .inl A;have:=p1 (q1,q2) aBY;simp only at this;subst this;exact .inr A);obtain⟨_,rfl⟩|⟨⟨k7,u7⟩,rfl,_⟩:=E;obtain o|o:=o<;>simp[eL,lb,aNG,dC,dK,sl];have:=n7 (k7,u7) aBY;simp only at this;subst this;obtain o|o:=o<;>simp[eL,lb,aNG,dC,dK,sl];simp only[au,eQ,↓uL];have bv:∀{q:Id},q.1≠3->q∉[((3,v3):Id)]:=X;refine yU u ⟨am,g.len.trans<|f.len.trans M,g.kq aR,an,?_,(ag.fx f X).fx g X,(al.fx f X).fx g X,λq d=>(Pz q d).2⟩;rw[iJ u,<-aNV u,dg];exact G.p.fx g X;obtain rfl:k=L s.ak:=X;rw[gV] at B;refine stW m2 A rfl λz f bz=>?_;have v:∀{q:Id},q.1≠2->q∉[((2,v2):Id)]:=X;simp only[bz,a6X,qh,df,uS,aY,eS,ip,↓uL];refine aQ7 ?_ (by simp[iX,aW.c,eN,sl]);simp only[fzT,ji,mU,aBr<|B.fx f λq d=>v bkb,aBr (G2.fx f λq d=>v bkb).p,aBr (G3.fx f λq d=>v bkb).p,aWt];rfl
def bi5:FT:=mT bjP
def bot:=oK bi5 bjP (j:=bui)
def boP{l}{t:Int}{k m:Nat}(h:m<L (fj l t k)):gd (be8 l t k) m=(gd (fj l t k) m:Nat):=by grind [aNV,be8]
theorem bmZ{w c}{t:Int}{l}(h:∀j,j<L l->aPQ w c t (gd l j)=U):aTF w c t l=U:=by grind [aTF,RU,aNV]
theorem bjA{w c}{t:Int}{l}{k:Nat}(a:k<L l)(h:aPQ w c t (gd l k)=I):aTF w c t l=I:=by grind [aTF,dB]
def bjT(w)(c)(t)(l)(q:aC2 w/\CfI w c/\bcF w t l):Ct 129 [.a w.c, .a c.c,iv t,sl ci l] (·=bv (aTF w c t l)):=by obtain⟨n,u,r,m,d⟩:=q;have:=n.wo.wo.ev;have:=n.ct.2 _<|ii d;refine bp9 A rfl λz y g o s=>?_;have z1:¬t<0:=(aYF d.1);have z2:¬(L w.init.count:Int)<=t:=(aYF d.2);simp+contextual only[eT,g,dc,z1,z2,bqF,kz,lG,eE,im,↓jN,↓jA,↓uL];refine bid (L l) (λk=>∀j,j<k->aPQ w c t (gd l j)=U) O λk x hI=>?_;simp only[qz 37,au,eQ,↓uL];constructor<;>intro h;have e:=aL h;have:=m _<|dB e;have p:dq.wrap (gd l k-gd w.init.count t.toNat)=gd l k-gd w.init.count t.toNat:=brE;refine bs6 (λb=>aPQ w c t (gd l k)=U->b []) ?_ λb nx=>?_;intro v;simp only[qz 57,au,eQ,↓uL];grind [bkg];simp+contextual only[qz 59,au,gj,g,o,oe,a6u,dc,bh,p,dJ e,d,↓uL];refine⟨λi=>nx (by grind [aPQ]),λi=>?_⟩;have:aPQ w c t (gd l k)=!(Q (oV w t (gd l k-gd w.init.count t.toNat)<0)||Q (↑(L c.fixed)<=oV w t (gd l k-gd w.init.count t.toNat))||!gd c.fixed (oV w t<|gd l k-gd w.init.count t.toNat).toNat):=(by simp only[aPQ,i,lG,dh,Bool.not_or,<-decide_not,aqC,Int.not_le,Bool.not_not,BI,Bool.decide_and]);refine⟨Z,λf=>?_,λf=>?_,λf=>nx vB⟩;simp only[eH,cP,aPs] at f;exact⟨Z,Z⟩;grind [bjA];grind [bmZ]
def biE:FT:=bix bjT
def boy:=bmX biE bjT (j:=bui)
def bjK(w)(c)(t)(l)(hp:aC2 w/\CfI w c/\bcF w t l):Ct 189 [.a w.c, .a c.c,iv t,sl ci l] (·=bv (aTF w c t l)):=by obtain⟨S,E,ax,P,p⟩:=hp;have ar:=S.wo.wo.ev;have av:=E.fx;have aq:=S.ct.2 _<|ii p;have R:aF (L w.aQ.ay) t:=(by grind [aC2.ct]);refine bpZ A rfl λT hl b1 B h0=>?_;have z1:¬t<0:=(aYF p.1);have z2:¬(L w.init.count:Int)<=t:=(aYF p.2);have z3:¬(L w.aQ.ay:Int)<=t:=(aYF R.2);simp only[l8,b1,B,dc,z1,z2,z3,bqF,kz,lG,eE,im,↓jN,↓jA,↓uL];refine⟨λh=>?_,λh=>⟨p,?_⟩⟩;obtain rfl:l=[]:=vB;rfl;refine yW (L w.ac) (λk a x=>Fx T x []/\lI x 3 1 a ((be8 w.ac t k).map ci)/\∀q∈aA a,bK T q/\q.1=57) (s0:= .l [] U U) ⟨Fx.refl _ _, .inl ⟨by simp[be8,fj],A⟩,aBY⟩ ?_;rintro k a x hk ⟨F,g,pa⟩;have c2:=F.kq B;have s:=F.len.trans hl;simp only[qz 67,au,gt1,eQ,↓uL];constructor<;>intro h;have e:=aL h;simp only[di,qz 89,qy 6,au,gt1,gJ,bh,↓uL];refine⟨dJ e,?_⟩;refine anu s λv y m N2 b3=>?_;have aw:=m.len.trans s;have g2:=g.fx m O;have D:aX bH 1 y [(0,iv k)]=V (.l ([(k:Int)].map ci) U U,y):=iz;simp only[qz 8,qy 10,qy 12,au,gt1,eT,b3,D,↓uL];constructor<;>intro he;refine gD g2 A H Z fF fF (by grind [be8,wF]) λa' z G F3 i1 i2=>?_;simp only[qz 87,au,gt1,eQ,↓uL];refine yX e ⟨((F.trans m).trans F3).mono aUw,?_,λq hq=>?_⟩;grind [Ba];grind [bK.old];simp only[qz 87,au,gt1,eQ,↓uL];refine yX e ⟨(F.trans m).mono O,?_,pa⟩;grind [Ba];obtain rfl:k=L w.ac:=X;refine bid (L l) (λk=>∀j,j<k->aPQ w c t (gd l j)=U) O λk hk hI=>?_;simp only[qz 115,au,eQ,↓uL];constructor<;>intro h;have e:=aL h;have hx:=P _<|dB e;have C:dq.wrap (gd l k-gd w.init.count t.toNat)=gd l k-gd w.init.count t.toNat:=brE;have ho:L (be8 w.ac t<|L w.ac)=L (fj w.ac t<|L w.ac):=wE;refine bs6 (λd=>aPQ w c t (gd l k)=U->d []) ?_ λd nx=>?_;intro hf;simp only[qz 135,au,eQ,↓uL];grind [bkg];simp only[qz 137,au,gJ,bh,↓uL];refine⟨dJ e,λu=>nx (by grind [aPQ]),λu=>?_⟩;have u:=bsX u;have W:¬gd l k-gd w.init.count t.toNat<0:=Z;have i:=boK (w:=w) (c:=c) (t:=t) (n:=gd l k) E.fx Z;have r:fS x a=V (iv<|L<|be8 w.ac t<|L w.ac):=(by rw[lnI g,bJ]);generalize hz:gd l k-gd w.init.count t.toNat=z at*;rcases o:Q ((L (be8 w.ac t<|L w.ac):Int)<=z) with _|_;have ap:=bsX o;have M:aF (L<|be8 w.ac t<|L w.ac) z:=⟨Z,Z⟩;have hm:z.toNat<L (fj w.ac t<|L w.ac):=Z;have K:=boP (l:=w.ac) (t:=t) hm;have ak:gd (fj w.ac t<|L w.ac) z.toNat<L w.ac:=(by grind [dB,fj]);have z5:¬(L c.fixed:Int)<=(gd (fj w.ac t<|L w.ac) z.toNat:Nat):=Z;rw[bsi Z,iw] at i;obtain⟨g0,_⟩|⟨b,rfl,f⟩:=g;have:L (be8 w.ac t<|L w.ac)=0:=vB;omega;have N:=ml f (k:=z.toNat) Z;simp only[C,W,bqF,au,l8,r,o,mx f (n:=L<|(be8 w.ac t<|L w.ac).map ci) (by simpa using M),N,K,c2,z5,bh,jA,jN,kz,lG,bkh,wY,↓uL];refine⟨bt2,λf=>?_,λf=>nx vB⟩;rw[bjA e<|by rw[i];simpa using f];simp only[C,W,bqF,au,pt,r,o,jA,jN,aRa,bih,kz,lG,bkh,wY,↓uL];rw[bjA e<|by rw[i,bqN<|aYF<|aNQ o];rfl];exact⟨λ_=>A,λh=>by cases h⟩;grind [bmZ]
def biC:FT:=bix bjK
def bon:=bmX biC bjK (j:=bui)
def bkd:dO:=(183,biD)::(185,bi6)::(103,bh9)::(74,bdU)::(75,bdW)::(182,bi5)::(129,biE)::(189,biC)::a7N
def bh2:eJ bkd:=asq (pg bjR)<|asq (nI bjQ)<|asq (tE bjL)<|asq (tE bjU)<|asq (aCb bj0)<|asq (pg bjP)<|asq (bnA bjT)<|asq (bnA bjK)<|aX8
def bfc:=ai @bov<|ai @bou<|ai @boo<|ai @boz<|ai @boF<|ai @bot<|ai @boy<|ai @bon<|@a6u
def bp2{c0}:=y1 45 15 1 bh2 func102 at1 c0 [.a c0]
def bpY{c0 b c}:=y2 45 15 3 85 9 4 bh2 func186 asY c0 b [.a c0, .a b,c]
def bp8{c0 b c}:=y2 45 15 3 85 9 4 bh2 func66 asY c0 b [.a c0, .a b,c]
def bpU{c0 b c}:=y2 45 15 3 85 9 4 bh2 func198 at1 c0 b [.a c0, .a b,c]
def biI a b R:=(.mk _:NF<|zF GGV bkd at1 Tryz.f131 [.u] [a] b<|QDb Tryz.f131 R).p
def bp7{c0:dM}{s0:ae}{R:be}(hs:L s0=4096)(l0:L c0=9)(h:HB1 85 9 1 c0 s0 λc b=>biI c b R):EB 131 [.a c0] s0 R:=aTc<|zB1 at1 (aQ9 bh2) func131 hs l0 h
def CfI.sz{w c}(h:CfI w c)(d:vL w):L c.eB.ak<1000/\L c.eB.done<1000/\L c.eB.ay<1000/\(∀l∈c.eB.ak,L l.bk<12)/\∀l∈c.eB.ak,jC l.bk:=by have a:=h.sy;have:=d.th;have:=a.lo;have:=a.dn;have:=a.th;exact⟨Z,Z,Z,λl b=>by have:=AC (a.rd l b).1 (a.rd l b).2;omega,λl b=>(a.rd l b).1⟩
def bm9{n}:aNG (bv n)=[]:=rfl
def bnb{l}:aNG (.q l)=[]:=rfl
def bo5{l}:aNG (.t l)=[]:=rfl
def bna{b n}:aNG (.m b n)=[b.1]:=rfl
def bjD{n:Nat}:aNG (.f n [] [])=[]:=rfl
def bo3{c:bdT}:aNG (.a c.c)=[]:=rfl
def bo6{c:am}:aNG (.a c.c)=[]:=rfl
def bxl{c:ot}:aNG (.a c.c)=[]:=rfl
def bil{Y e z n a bA}(g:J7 Y e z a bA)(p:∀q∈aA a,q.1=n):∀x∈aNG a,x=n:=λx c=>by
 obtain⟨_,rfl⟩|⟨b,m,rfl,_⟩:=g
 ·simp[aNG,dC,dK] at c
 ·have:=p b aBY;simp[aNG,dC,dK] at c;omega
def r15{w:am}:aN (V 15) w.c=V (.a w.c):=rfl
def bjN(w)(hp:aC2 w/\bcV w=U):Ct 102 [.a w.c] (·= .a (aNY w).c):=by obtain⟨M,K⟩:=hp;have:=M.wo.wo.ev;have hc:=bhV K;obtain⟨q1,q2,q3,q4,q5⟩:=hc.sz M.wo;have q6:L w.init.cells<1000/\L w.init.bU<1000:=(by grind [tC,aQA,vH.ce,vH.fu]);have hS:L w.init.eB.ak<1000/\L w.init.eB.done<1000/\L w.init.eB.ay<1000/\∀l∈w.init.eB.ak,L l.bk<1000:=⟨q1,q2,q3,λl e=>by have:=q4 l e;omega⟩;refine aDq (bp2 A λs2 e P h0=>?_);refine zm e λv2 s3 k N3 R=>?_;have C:=k.kq P;have F:=k.len.trans e;simp+contextual only[qz 4,hH,C,bfc,dc,hS,q6,FA,↓uL];refine⟨.inl A, .inl A, .inl A,?_⟩;refine AP H H Z Z λb s4 f N4 i S=>?_;have D:=i.kq C;have q:=i.kq R;have G:=i.len.trans F;simp only[qz 6,eT,D,↓uL];refine AP H H Z Z λd s5 g N5 j T=>?_;have r:=j.kq q;have s:=j.kq S;have:=j.len.trans G;have E:∀{x y z:AV} {n:Nat},bM aQ2 aOs [(0, .a w.init.eB.c),(1,sl aB9.c<|w.init.cells.map λv=>⟨v,U⟩),(2,sl aB9.c<|w.init.bU.map λv=>⟨v,U⟩),(4, .m b n),(5, .m d n)]=V (.a<|w.init.eB.c++[sl aB9.c<|w.init.cells.map λv=>⟨v,U⟩,sl aB9.c<|w.init.bU.map λv=>⟨v,U⟩, .l [] U U, .m b n, .m d n]):=λ{x y z n}=>A;simp only[qz 8,E (x:= .u) (y:= .u) (z:= .u),aY,↓uL];refine stW r A rfl λN o W=>?_;have t:=o.keep _ _ (λh=>by have h:=bss Se<|cE.1 h;simp only at h;omega) s;have B:=o.keep _ _ (λh=>by have h:=bss Se<|cE.1 h;simp only at h;omega) T;simp only[qz 10,↓uL];refine dT (by obtain⟨x1,x2⟩:=b;obtain⟨y1,y2⟩:=d;simp only at f g;subst f g;rfl) ?_;have r9:∀{n:Nat},aN (V 9) (w.init.eB.c++[sl aB9.c<|w.init.cells.map λv=>⟨v,U⟩,sl aB9.c<|w.init.bU.map λv=>⟨v,U⟩, .l [] U U, .m b n, .m d n])=V (.a<|w.init.eB.c++[sl aB9.c<|w.init.cells.map λv=>⟨v,U⟩,sl aB9.c<|w.init.bU.map λv=>⟨v,U⟩, .l [] U U, .m b n, .m d n]):=λ{n}=>A;simp only[eS,W,r9,↓uL];have gF:lI N 4 1 (.m b<|L w.ac) ((er (L w.ac) I).map cb):= .inr ⟨b,O,by rw[t,List.map_replicate];rfl⟩;have gW:lI N 3 1 (.m d<|L w.ac) ((er (L w.ac) (0:Int)).map ci):= .inr ⟨d,O,by rw[B,List.map_replicate];rfl⟩;refine aQ7 ?_ (by simp[iX,bdT.c,aW.c,eN,sl]);simp only[fzT,dg,ji,mU,aBr gF.p,aBr gW.p,aW.c,aWt];rfl
def bi3:FT:=mT bjN
def bxj{p:Prop}(h:p:=by simp+contextual only[Go.Ab.ij,Go.Ab.aNX]):p:=h
def bor:=oK bi3 bjN (j:=bxj)
theorem bmW{w c t}(h:aH7 w c t<0):aID w c t=I:=by simp[aID,h]
theorem bj6{w c}{t:Int}(h:¬aH7 w c t<0):∃k,aH7 w c t=(k:Nat)/\k<L w.ac/\(gd w.ac k).aq=t:=by grind [bmY,a6w,aH7]
def bjJ(w)(c)(t)(s:aC2 w/\CfI w c):Ct 186 [.a w.c, .a c.c,iv t] (·=bv (aID w c t)):=by obtain⟨d,b⟩:=s;obtain⟨z,B,C,D,E⟩:=b.sz d.wo;refine bpY A rfl λG r e f u=>?_;simp+contextual only[qy 6,nc,e,f,r15,arm,bfc,d.wo,b,↓uL];constructor<;>intro h;grind [bmW];obtain⟨k,n,o,y⟩:=bj6<|bsX h;have g:aID w c t=(jm w.aQ c.eB t (gd w.ac k).kind (gd w.ac k).eI&&aTF w c t (gd w.ac k).dI):=(by grind [aID,evN]);rw[n];refine⟨dJ o,?_⟩;refine anu r λv x F N i=>?_;have j:=F.kq e;have m:=F.kq f;have p:lh w.aQ c.eB=U/\L w.aQ.bC<=2/\(∀l∈c.eB.ak,L l.bk<100000):=(by grind [CfI.ft,kB.co,vL.wo,aC2.wo]);have q:bcF w t (gd w.ac k).dI:=(by grind [aC2.dI]);simp+contextual only[qz 8,nc,bh,i,j,m,r15,arm,bfc,d,b,p,q,g,FA,↓uL]
def biB:FT:=qe bjJ
def bom:=sT biB bjJ (j:=bxj)
def bjS(w)(c)(t)(s:aC2 w/\CfI w c):Ct 66 [.a w.c, .a c.c,iv t] (·=bv (aID w c t)):=by obtain⟨b,d⟩:=s;obtain⟨B,C,D,E,G⟩:=d.sz b.wo;have u:=b.wo.wo.co;refine bp8 A rfl λK r e f y=>?_;simp+contextual only[qy 6,nc,e,f,r15,arm,bfc,b.wo,d,↓uL];constructor<;>intro h;grind [bmW];obtain⟨k,n,o,z⟩:=bj6<|bsX h;have g:aID w c t=(jm w.aQ c.eB t (gd w.ac k).kind (gd w.ac k).eI&&aTF w c t (gd w.ac k).dI):=(by grind [aID,evN]);rw[n];refine⟨dJ o,?_⟩;refine anu r λv x F N i=>?_;have j:=F.kq e;have m:=F.kq f;have p:L w.aQ.bC<4611686018427387904/\(∀l∈c.eB.ak,L l.bk<4611686018427387904):=X;have q:bcF w t (gd w.ac k).dI:=(by grind [aC2.dI]);simp+contextual only[qz 8,nc,bh,i,j,m,r15,arm,bfc,b,d,p,q,g,FA,↓uL]
def bia:FT:=qe bjS
def bow:=sT bia bjS (j:=bxj)
def bjF(w)(c)(e:Int)(i:vL w/\CfI w c):Ct 198 [.a w.c, .a c.c,iv e] (·=bv (dh e (L w.ac)&&Q (aH7 w c (gd w.ac e.toNat).aq=e))):=by obtain⟨j,h⟩:=i;refine bpU A rfl λm l b d k=>?_;simp+contextual only[nc,b,d,r15,arm,bfc,j,h,FA,dh,↓uL];exact⟨λf g=>⟨aNQ f,aNQ g⟩,trivial⟩
def biz:FT:=qe bjF
def boi:=sT biz bjF (j:=bxj)
structure biy(Y:ae)(c:bdT)(a1 a2 a3 a4 a5 a6 a7 a8:AV)(Y1:ae):Prop where
 hl:L Y1=L Y
 g1:J7 Y1 191 2 a1 (c.eB.ak.map cg.c)
 g2:J7 Y1 4 1 a2 (c.eB.done.map cb)
 g3:J7 Y1 69 3 a3 (c.eB.ay.map aoC.c)
 g4:lI Y1 222 2 a4 (c.cells.map aB9.c)
 g5:lI Y1 222 2 a5 (c.bU.map aB9.c)
 g6:lI Y1 3 1 a6 (c.order.map ci)
 g7:lI Y1 4 1 a7 (c.fixed.map cb)
 g8:lI Y1 3 1 a8 (c.woke.map ci)
 p1:∀q∈aA a1,q.1=41
 p2:∀q∈aA a2,q.1=10
 p3:∀q∈aA a3,q.1=14
 p4:∀q∈aA a4,q.1=9
 p5:∀q∈aA a5,q.1=13
 p6:∀q∈aA a6,q.1=17
 p7:∀q∈aA a7,q.1=21
 p8:∀q∈aA a8,q.1=25
 kx:Kx [10,14,41] Y Y1
 nw:∀q∈aA a4++aA a5++aA a6++aA a7++aA a8,∀x,box Y q≠V x
def bo8{w c Y}(hl:L Y=4096)(hw:aC2 w)(M:CfI w c)(bd:L c.cells<1000)(bf:L c.bU<1000):∃r Y1,(∃a1 k m n o p s t,r= .a [a1,iv c.eB.tx,k,m,n,o,p,s,t]/\biy Y c a1 k m n o p s t Y1)/\cZ aS GG 131 [.a c.c] Y r Y1:=by obtain⟨q1,q2,q3,q4,q5⟩:=M.sz hw.wo;have:=hw.wo.wo.ev;refine bp7 hl A λs2 v1 K2 bg nf b1=>?_;have F2:=K2.fx [];have T:=F2.len.trans hl;simp only[biI,↓uL];refine zm T λv2 s3 F3 N3 b3=>?_;have c1:=F3.kq b1;have W:=F3.len.trans T;simp only[qz 4,qy 6,iq,c1,↓uL];refine bjx W X λa1 k m s4 E g1 g2 g3 p1 p2 p3=>?_;have az:=E.len.trans W;have N:=E.kq c1;have am:=E.kq b3;simp only[nS,bQ,qz 8,qy 10,iq,N,↓uL];have ap:∀{α:Type} {f:α->dM} {l:List α} {e z d by':Nat} {zs:dM} {Y:ae} {K:be},(∀x,L (f x)=z)->L zs=z->0<z->d<L Y->L l*(by'+1)<=1099511627776->(∀G Y',lI Y' e z G (l.map f)->Fx Y Y' []->(∀q∈aA G,bK Y q/\q.1=d)->K G Y')->eV (apA e zs by' Y d (.l [] U U)<|sl f l) K:=λ{α f l e z d by' zs Y K} hf hz h0 hd hb hK=>(gD (bA:=[]) (e:=e) (z:=z) (new:=l.map f) (.inl ⟨A,A⟩) hz h0 hd O (qW hf) X λG Y' g F i1 i2=>by grind [aA]);refine ap (z:=2) (e:=222) (λ_=>A) A H Z Z λn s5 g4 B P4=>?_;have P:=B.kq N;have aB:=B.len.trans az;simp only[nS,bQ,qz 12,iq,P,↓uL];refine ap (z:=2) (e:=222) (λ_=>A) A H Z Z λo s6 g5 C P5=>?_;have R:=C.kq P;have aC:=C.len.trans aB;simp only[qz 14,nS,bQ,qz 16,iq,R,↓uL];refine ap (z:=1) (e:=3) (λ_=>A) A H Z (aYF M.ol) λp s7 g6 D P6=>?_;have S:=D.kq R;have aD:=D.len.trans aC;simp only[qz 18,nS,bQ,qz 20,iq,S,↓uL];refine ap (z:=1) (e:=4) (λ_=>A) A H Z (aYF M.fx) λs s8 g7 v P7=>?_;have aq:=v.kq S;have aE:=v.len.trans aD;simp only[qz 22,nS,bQ,qz 24,iq,aq,↓uL];refine ap (z:=1) (e:=3) (λ_=>A) A H Z (aYF M.wk) λt s9 g8 y P8=>?_;have:=y.len.trans aE;have j:Fx s4 s9 []:=(B.trans<|C.trans<|D.trans<|v.trans y).mono O;have an:=j.kq am;have ax:bM aQ2 aOs [(0, .a [a1,iv c.eB.tx,k,m]),(1,n),(2,o),(3,p),(4,s),(5,t)]=V (.a [a1,iv c.eB.tx,k,m,n,o,p,s,t]):=(by simp[bM,aly,ms g4,ms g5,ms g6,ms g7,ms g8,show∀x,eY (.a x)=V x fromλ_=>A]);simp only[qz 26,ax,aY,↓uL];refine stW an A rfl λbi i al=>?_;simp only[qz 28,↓uL];refine dT (by simp[eL,lb,Cz,bjD,aTn,bc7,a6H]) ?_;have r9:aN (V 9) [a1,iv c.eB.tx,k,m,n,o,p,s,t]=V (.a [a1,iv c.eB.tx,k,m,n,o,p,s,t]):=A;simp only[eS,al,r9,aRf,aoz,↓uL];have:∀{q:Id},q.1≠2->q∉[((2,v2):Id)]:=X;have X3:Kx [10,14,41] Y s3:=((F2.trans F3).kx O);have ag:=X3.kx E O;have:=ag.fx j O;have:=(F2.kx (ks:=[]) O).no O N3.no;refine⟨a1,k,m,n,o,p,s,t,A,bvh,(g1.fx j O).fx i X,(g2.fx j O).fx i X,(g3.fx j O).fx i X,((((g4.fx C O).fx D O).fx v O).fx y O).fx i X,(((g5.fx D O).fx v O).fx y O).fx i X,((g6.fx v O).fx y O).fx i X,(g7.fx y O).fx i X,(by grind [lI.fx]),p1,p2,p3,λq b=>(P4 q b).2,λq b=>(P5 q b).2,λq b=>(P6 q b).2,λq b=>(P7 q b).2,λq b=>(P8 q b).2,(by grind [Kx.fx]),λq b=>?_⟩;have ah:Kx [10,14,41] Y s4:=Z;have u:∀{q:Id},bK s4 q->q.1≠10/\q.1≠14/\q.1≠41->∀x,box Y q≠V x:=λh h'=>ah.no NA h.no;simp only[dF] at b;obtain(((b|b)|b)|b)|b:=b;grind;exact u ((P5 q b).1.old B) X;exact u ((P6 q b).1.old<|B.trans C) X;exact u bse X;exact u bse X
def boL{P κ w Y β v cs}(n)(s:zw P κ w Y β)(h:ba κ w Y β v<|.a cs):ba κ w (kills Y<|(cs.take n).flatMap iR) β v (.a<|(cs.take n).map (lz Y)++cs.drop n):=by obtain⟨e,s',q⟩:=D1 ((cs.take n).flatMap iR) s;cases h with|a m k o=>refine .a X k (λi v c p d=>?_);obtain l|l:=jj i<|L<|cs.take n;rw[xe X,ve] at d;(cases f:(cs.take n)[i]? with|none=>simp_all|some y=>rw[f] at d;simp only[df,Option.some.injEq] at d;subst d;have g:cs[i]?=V y:=X;exact Qx<|Di s (o i v y p g) λb j=>List.mem_flatMap.2 ⟨y,List.mem_of_getElem? f,j⟩);grind [ba.ext]
def cZ.frzP{P G fn xs Y b cs}(n)(h:cZ P G fn xs Y (.a cs) b):cZ P G fn xs Y (.a<|(cs.take n).map (lz b)++cs.drop n) (kills b<|(cs.take n).flatMap iR):=by refine⟨h.1,λκ w β d s g i=>(h.2 κ w β d s g i).mono ?_⟩;rintro e l ⟨v,f,rfl,j,c,k⟩;exact⟨v,f,A,boL n c j,(D1 _ c).2.1,k.trans (D1 _ c).1⟩
structure bki(Y:ae)(c:bdT)(a4 a5 a6 a7 a8:AV)(Y1:ae):Prop where
 hl:L Y1=L Y
 g4:lI Y1 222 2 a4 (c.cells.map aB9.c)
 g5:lI Y1 222 2 a5 (c.bU.map aB9.c)
 g6:lI Y1 3 1 a6 (c.order.map ci)
 g7:lI Y1 4 1 a7 (c.fixed.map cb)
 g8:lI Y1 3 1 a8 (c.woke.map ci)
 p4:∀q∈aA a4,q.1=9
 p5:∀q∈aA a5,q.1=13
 p6:∀q∈aA a6,q.1=17
 p7:∀q∈aA a7,q.1=21
 p8:∀q∈aA a8,q.1=25
 kx:Kx [10,14,41] Y Y1
 nw:∀q∈aA a4++aA a5++aA a6++aA a7++aA a8,∀x,box Y q≠V x
def bo9{w c Y}(u:L Y=4096)(x:aC2 w)(v:CfI w c)(p:L c.cells<1000)(s:L c.bU<1000):∃r k,(∃d f g i j,r= .a (c.eB.c++[d,f,g,i,j])/\bki Y c d f g i j k)/\cZ aS GG 131 [.a c.c] Y r k:=by obtain⟨_,k,⟨a1,l,m,d,f,g,i,j,rfl,C⟩,h⟩:=bo8 u x v p s;have o:=h.frzP 4;have e:([a1,iv c.eB.tx,l,m,d,f,g,i,j].take 4).map (lz k)++[a1,iv c.eB.tx,l,m,d,f,g,i,j].drop 4=c.eB.c++[d,f,g,i,j]:=(by show[lz k a1,lz k<|iv c.eB.tx,lz k l,lz k m]++_=_;rw[aOb C.g1,aOb C.g2,aOb C.g3,aQ5];rfl);rw[e] at o;have F:=aOp (([a1,iv c.eB.tx,l,m,d,f,g,i,j].take 4).flatMap iR) k;have t:∀q∈([a1,iv c.eB.tx,l,m,d,f,g,i,j].take 4).flatMap iR,q.1=41\/q.1=10\/q.1=14:=λq b=>(by have:q∈iR a1++(iR l++iR m):=(by grind [iR]);simp only[dF] at this;rw[aQX C.g1,aQX C.g2,aQX C.g3] at this;grind [biy.p1,biy.p2,biy.p3]);have n:∀{q:Id},q.1≠41/\q.1≠10/\q.1≠14->q∉([a1,iv c.eB.tx,l,m,d,f,g,i,j].take 4).flatMap iR:=X;exact⟨_,_,⟨d,f,g,i,j,A,F.len.trans C.hl,C.g4.fx F λq b=>n (by rw[C.p4 q b];decide),C.g5.fx F λq b=>n (by rw[C.p5 q b];decide),C.g6.fx F λq b=>n (by rw[C.p6 q b];decide),C.g7.fx F λq b=>n (by rw[C.p7 q b];decide),C.g8.fx F λq b=>n (by rw[C.p8 q b];decide),C.p4,C.p5,C.p6,C.p7,C.p8,C.kx.fx F λq b=> .inl (by have:=t q b;simp;omega),C.nw⟩,o⟩
def biP:dO:=(102,bi3)::(186,biB)::(66,bia)::(198,biz)::bkd
def bh3:eJ biP:=asq (pg bjN)<|asq (tE bjJ)<|asq (tE bjS)<|asq (tE bjF)<|bh2
def bcO:=ai @bor<|ai @bom<|ai @bow<|ai @boi<|@bfc
def bpW{c0 b c}:=y2 45 15 3 85 9 4 bh3 func197 at1 c0 b [.a c0, .a b,c]
def bqj{c0 b c}:=y2 45 15 3 85 9 4 bh3 func73 aur c0 b [.a c0, .a b,c]
def bmO:=I9 25 [(13,([],[4,6,8,9,11,13,14,15])),(15,([],[6,13]))]
def bjk c b a d R:=(.mk _:NR biP bmO Tryz.f104 [.u, .u, .u] [c,b,a] d R).p
def bp3{c0:dM}{b:dM}{c:dM}{R:J3}(l0:L c0=15)(l1:L b=9)(d:L c=2)(h:H3 45 15 3 c0 85 9 4 b 113 2 5 c λf g i e=>bjk f g i e R):Ct 104 [.a c0, .a b, .a c] R:=z3 bmO bh3 func104 l0 l1 d h
def bmQ:=I9 15 [(4,([4],[1,2,3])),(10,([5],[1,2,3]))]
def bjm a b R:=(.mk _:NF<|zF GGV biP bmQ Tryz.f65 [.u] [a] b<|I3 Tryz.f65 R).p
def bqb{c0:dM}{R:J3}(l0:L c0=15)(h:∀b:ae,L b=4096->box b (1,1)=V ⟨45,15,U,U,[c0]⟩->(∀k,k≠1->aZ b k=mO)->bjm (.p (1,1) 0 0) b R):Fn aS GG 65 [.a c0] R:=by refine fnV (uq ready (aQ9 bh3) func65 (an:=bmQ) a7c<|Eq.mpr (show ZF aS GGV biP bmQ Tryz.f65 [.a c0] R=(eV (bxA 45 15 (ly Tryz.f65) 1<|.a c0) λc b=>bjm c b R) by kernel_rfl) ?_);refine mY (N:=4096) A l0 H H uB (by rw[i8]) λb f d g g0=>?_;exact h b f d (λk e=>by rw[g0 k e];exact i8 _ k)
def bn1:=I9 8 [(2,([],[]))]
def bqd{c0 b c}:=y2 45 15 3 85 9 4 bh3 func67 bn1 c0 b [.a c0, .a b,c]
def bjH(w)(c)(e:Int)(h:aC2 w/\CfI w c):Ct 197 [.a w.c, .a c.c,iv e] (·=bv (dh e (L w.ac)&&bhP w c e)):=by obtain⟨b,g⟩:=h;refine bpW A rfl λk j d f i=>?_;simp+contextual only[nc,d,f,r15,arm,bcO,b,b.wo,g,FA,bhP,↓uL];grind [dX]
def bh8:FT:=qe bjH
def btz{p:Prop}(h:p:=by simp+contextual only[lT,Go.Ab.aNX]):p:=h
def bok:=sT bh8 bjH (j:=btz)
def bj1(w)(c)(e:Int)(i:aC2 w/\CfI w c/\aF (L w.ac) e):Ct 73 [.a w.c, .a c.c,iv e] (·=bv (bhP w c e)):=by obtain⟨b,g,h⟩:=i;refine bqj A rfl λl k d f j=>?_;simp+contextual only[nc,d,f,r15,arm,bcO,b,b.wo,g,h,FA,bhP,↓uL]
def bib:FT:=qe bj1
def boG:=sT bib bj1 (j:=btz)
def aOk(w:am)(c:bdT)(t:Int):eu:=if 0<=aH7 w c t/\(evN w c t).kind=18/\fO c.eB (evN w c t).eI≠[] then fO c.eB (evN w c t).eI else[-1]
def bjX(w:am)(c:bdT)(t:Int)(s:aC2 w/\CfI w c):Ct 67 [.a w.c, .a c.c,iv t] (·=sl ci (aOk w c t)):=by obtain⟨o,k⟩:=s;obtain⟨x,y,z,B,C⟩:=k.sz o.wo;have p:L c.eB.ay<1000000:=Z;refine aDq (bqd A rfl λq v g i u=>?_);simp+contextual only[nc,g,i,r15,arm,bcO,o.wo,k,↓uL];refine bs6 (λb=>aOk w c t=[-1]->b []) ?_ λb n=>?_;intro h;have j:aX bH 1 q [(0,iv<|-1)]=V (.l ([(-1:Int)].map ci) U U,q):=iz;simp only[qz 15,qy 6,aI,j,bQ,↓uL];rw[h];exact aQ7 bcz A;simp+contextual only[qz 17,gj,g,i,r15,oe,arm,bcO,p,↓uL];have m:0<=aH7 w c t->aF (L w.ac) (aH7 w c t):=(by grind [bj6,dJ]);refine⟨vB,λh=>?_,λh=>n ?_⟩;simp only[bN,awG] at h;refine⟨m h.1,λr=>⟨λd=>?_,λd=>n ?_⟩⟩;have d:=aNQ d;refine aQ7 ?_ A;rw[show aOk w c t=fO c.eB (gd w.ac (aH7 w c t).toNat).eI from zg ⟨h.1,h.2,λe=>by simp only[evN] at e;rw[e] at d;simp at d⟩];rfl;have d:=bsX d;exact za λf=>f.2.2 (List.length_eq_zero_iff.1<|by simp only[evN];omega);exact za λf=>by simp only[evN] at f;simp[f.1,f.2.1] at h
def bi9:FT:=qe bjX
def boC:=sT bi9 bjX (j:=btz)
def bog{x y:aB9}:bc4 .eql 2 [(0,0),(1,1)] (.a x.c) (.a y.c)=V (bv<|Q<|x=y):=by obtain⟨a,b⟩:=x;obtain⟨d,e⟩:=y;by_cases f:a=d<;>by_cases g:b=e<;>simp[bc4,aB9.c,nW,sS,f,g]
def gsG{Y e}{z:Nat}{a bA}{i:Int}{cs x}{K:be}(j:lI Y e z a bA)(d:aF (L bA) i)(s:∀r∈bA,L r=z)(n:eY x=V cs)(l:nrm (eR Y x)=x)(hI:aNN x=[])(o:L cs=z)(q:cs.all eN=U)(k:∀p Y',Fx Y Y' (aA a)->lI Y' e z a (bA.set i.toNat cs)->K p Y'):rV (cz z Y a<|iv i) λp=>sV (aK z Y p x) (K p):=by have:=d.1;have:i.toNat<L bA:=(be7 d.1 d.2);obtain⟨f,_⟩|⟨b,rfl,c⟩:=j;simp_all;have g:cz z Y (.m b<|L bA) (iv i)=V (.p b i.toNat 0):=(by grind [cz]);have h:bA[i.toNat]?=V bA[i.toNat]:=O;have:bA[i.toNat].length=z:=vB;have f:aK z Y (.p b i.toNat 0) x=V (wr Y b ⟨e,z,U,I,bA.set i.toNat cs⟩):=(by simp only[aK,aBG,c,eE,btd,hI,kills,aRl,l,pW,n,h];grind);rw[g];simp only[rV,f];exact k _ _ (wc c)<|.inr ⟨b,O,lO c⟩
def aQx:bdT:=⟨⟨[],0,[],[]⟩,[],[],[],[],[]⟩
def bn9{Y e}{z d by':Nat}{zs bA new t o o' K}(j:L zs=z)(f:0<z)(c:d<L Y)(i:∀r∈bA,L r=z)(h:∀r∈new,L r=z)(k:new≠[])(m:(L bA+L new)*(by'+1)<=1099511627776)(g:∀a Y',lI Y' e z a (bA++new)->Fx Y Y' []->(∀b∈aA a,bK Y b/\b.1=d)->K a Y'):eV (apA e zs by' Y d (.l bA U o)<|.l new t o') K:=by subst j;unfold apA;simp only[gL];rw[za X,zg ⟨f,by simp[vg,c],h⟩,zg ⟨i,btf⟩];exact g _ _ (.inr ⟨lA Y d,O,iy c⟩) (kH c) (by simp[aA];exact⟨qQ Y d,A⟩)
structure StL(y:ae)(v6 v9 v13 v14 v15:Nat)(w:am)(c:bdT)(ch:ot)(e:aP)(n:dM)(a6:AV)(o:eu)(wr':aB9):Prop where
 hl:L y=4096
 b1:box y (3,1)=V ⟨45,15,U,U,[w.c]⟩
 b2:box y (4,1)=V ⟨85,9,U,U,[c.c]⟩
 b3:box y (5,1)=V ⟨113,2,U,U,[ch.c]⟩
 b6:box y (6,v6)=V ⟨85,9,U,U,[aQ2]⟩
 b9:box y (9,v9)=V ⟨71,7,U,U,[e.c]⟩
 b13:box y (13,v13)=V ⟨85,9,U,U,[n]⟩
 b14:box y (14,v14)=V ⟨222,2,U,U,[(aB9.mk e.value U).c]⟩
 b15:box y (15,v15)=V ⟨222,2,U,U,[wr'.c]⟩
 g6:lI y 3 1 a6 (o.map ci)
 p6:∀q∈aA a6,q.1=77
theorem StL.fx{y z i j b d f w c ch e n h o g Lw}(S:StL y i j b d f w c ch e n h o g)(F:Fx y z Lw)(k:∀q∈Lw,q.1=62\/q.1=65\/q.1=80\/q.1=83):StL z i j b d f w c ch e n h o g:=by have a:∀{q:Id},q.1≠62/\q.1≠65/\q.1≠80/\q.1≠83->q∉Lw:=X;exact⟨F.len.trans S.hl,F.keep _ _ (a O) S.b1,F.keep _ _ (a O) S.b2,F.keep _ _ (a O) S.b3,F.keep _ _ (a O) S.b6,F.keep _ _ (a O) S.b9,F.keep _ _ (a O) S.b13,F.keep _ _ (a O) S.b14,F.keep _ _ (a O) S.b15,S.g6.fx F λq l=>(by grind [StL.p6]),S.p6⟩
def rS{s f a b c d e}:aN (V 9) (eD s f++[a,b,c,d,e])=V (.a<|eD s f++[a,b,c,d,e])/\aN J ((eD s f++[a,b,c,d,e]).drop 4)=V a/\aN J ((eD s f++[a,b,c,d,e]).drop 5)=V b/\aN J ((eD s f++[a,b,c,d,e]).drop 7)=V d/\aN J ((eD s f++[a,b,c,d,e]).drop 8)=V e:=by exact⟨A,by cases a<;>rfl,by cases b<;>rfl,by cases d<;>rfl,by cases e<;>rfl⟩
def bjO(w)(c)(ch)(hp:aC2 w/\CfI w c):Ct 104 [.a w.c, .a c.c, .a ch.c] (·= .t [.a (bif aID w c ch.aq then aN2 w c ch else aQx).c,bv<|aID w c ch.aq]):=by obtain⟨G,n⟩:=hp;obtain⟨q1,q2,q3,q4,q5⟩:=n.sz G.wo;have:=G.wo.wo.ev;refine aDq (bp3 A rfl rfl λs6 hl b1 b2 b3 h0=>?_);simp only[bjk,↓uL];refine zm hl λv6 s7 F7 N7 b6=>?_;have c1:=F7.kq b1;have c2:=F7.kq b2;have c3:=F7.kq b3;have bc:=F7.len.trans hl;simp+contextual only[qz 8,qy 10,qy 12,nc,c1,c2,c3,r15,J9,arm,bcO,G,G.wo,n,n.ce,n.fu,n.fx,n.wk,bqQ,Bool.and_self,lG,FA,↓uL];rcases b7:aID w c ch.aq with _|_;have hz:bM aQ2 aOs []=V (.a aQ2):=A;simp only[kN,mb,sr,hz,aY,↓uL];refine stW b6 A rfl λs8 F8 b8=>?_;have r9:aN (V 9) aQ2=V (.a aQ2):=A;simp only[eS,b8,r9,↓uL];exact aOH (vs':=[.a aQx.c,bv I]) A rfl rfl;obtain⟨k,h1,h2,h3,h4,h5,h6⟩:=bjy b7;rw[h1];simp only[fh,eE,im];refine⟨dJ h2,?_⟩;have hE:jm w.aQ c.eB ch.aq (gd w.ac k).kind (gd w.ac k).eI=U/\L w.aQ.bC<=2/\(∀l∈c.eB.ak,L l.bk<12)/\(∀l∈c.eB.ak,jC l.bk)/\L c.eB.ak<1000/\L c.eB.done<1000/\L c.eB.ay<1000:=⟨h5,G.wo.wo.co,q4,q5,q1,q2,q3⟩;have b0:bcF w ch.aq (gd w.ac k).ep:=(by grind [aC2.dI]);have be:=(G.wo.wo.named h2).1;obtain⟨c6,c7⟩:L c.cells<1000/\L c.bU<1000:=(by have:=G.sn k h2;have g2:=(G.wo.wo.st k h2).2;have:=n.ce;have g4:=n.fu;grind [fN]);refine anu bc λv9 s8 F8 N8 b9=>?_;rw[bh] at b9;have d1:=F8.kq c1;have d2:=F8.kq c2;have d3:=F8.kq c3;have d6:=F8.kq b6;have bd:=F8.len.trans bc;simp only[qz 14,qy 16,je,d1,d2,d3,b9,r15,J9,arm,bcO,↓uL];refine⟨hE,?_⟩;rintro r ⟨f,rfl⟩;refine⟨.inl A,?_⟩;simp only[oJ,pG,KM,aY,↓uL];generalize b4:cU w.aQ c.eB ch.aq (gd w.ac k).kind (gd w.ac k).eI ch.lD=av;obtain⟨y,vl⟩:=av;refine anu bd λdk s9 F9 N9 bO=>?_;have cm:aN (V 4) (eD y f)=V (.a<|eD y f):=A;have:Fx s7 s9 []:=(F8.trans F9).mono O;have ca:=F9.len.trans bd;have e2:=F9.kq d2;simp+contextual only[qz 18,qy 20,iq,bO,e2,cm,eE,im,↓uL];have bb:∀{l:List aB9},(l.map aB9.c).all (λr=>r.all gY)=U:=λ{l}=>(by simp[aB9.c,gY]);refine bmT (bA:=c.cells.map aB9.c) A a8d NA bb Z λW dd g4 ax P4=>?_;have f2:=ax.kq e2;have bw:=ax.len.trans ca;simp only[qz 22,iq,f2,↓uL];refine bmT (bA:=c.bU.map aB9.c) A a8d NA bb Z λa5 bf g5 ah P5=>?_;have g2:=ah.kq f2;have bx:=ah.len.trans bw;have cc:∀{Y:ae},fo 1 Y (sl ci c.order) J (V<|iv<|L c.order) (V<|iv<|L c.order)=V (.l (c.order.map ci) U I):=λ{Y}=>(by simp[fo,lM,qY,sl];grind [oB]);have b5:aX bH 1 bf [(0,iv k)]=V (.l ([(k:Int)].map ci) U U,bf):=iz;simp only[qz 24,qy 26,iq,g2,cc,b5,↓uL];refine bn9 A H Z fF fF O (by have:=n.ol;simp;omega) λa6 de g6 M P6=>?_;have i2:=M.kq g2;have bB:=M.len.trans bx;simp only[qz 28,iq,i2,↓uL];refine aw2 (bA:=c.fixed.map cb) A X (by grind [CfI.fx]) bv9 Z λD dh g7 B P7=>?_;have j2:=B.kq i2;have bD:=B.len.trans bB;simp only[qz 30,iq,j2,↓uL];refine Kr (bA:=c.woke.map ci) A fF (by grind [CfI.wk]) bv9 Z λE di g8 C P8=>?_;have aG:=C.len.trans bD;have ba:bM aQ2 aOs [(0, .a<|eD y f),(1,W),(2,a5),(3,a6),(4,D),(5,E)]=V (.a<|eD y f++[W,a5,a6,D,E]):=(by simp[bM,aly,ms g4,ms g5,ms g6,ms g7,ms g8,eD,show∀x,eY (.a x)=V x fromλ_=>A]);simp only[qz 32,qy 34,ba,aY,↓uL];refine anu aG λaR bg u cZ al=>?_;have aJ:=u.len.trans aG;have v:Fx s9 bg []:=(ax.trans<|ah.trans<|M.trans<|B.trans<|C.trans u).mono O;have p4:=λq o=>(P4 q o).2;have p5:=λq o=>(P5 q o).2;have p6:=λq o=>(P6 q o).2;have p7:=λq o=>(P7 q o).2;have p8:=λq o=>(P8 q o).2;have G4:=((((g4.fx ah O).fx M O).fx B O).fx C O).fx u O;have G5:=(((g5.fx M O).fx B O).fx C O).fx u O;have:=((g6.fx B O).fx C O).fx u O;have G7:=(g7.fx C O).fx u O;have G8:=g8.fx u O;clear ba;simp only[qz 36,qy 38,↓uL];refine dT ?_ ?_;simp[eL,lb,Cz,bjD,aTn,bc7,a6H,bc6,show aNG (.a<|eD y f)=[] from A];exact⟨λx K=>by have:=bil g4.p p4 x K;omega,λx K=>by have:=bil g5.p p5 x K;omega,λx K=>by have:=bil g6.p p6 x K;omega,λx K=>by have:=bil g7.p p7 x K;omega,λx K=>by have:=bil g8.p p8 x K;omega⟩;have o1:=v.kq<|F9.kq d1;have o2:=v.kq e2;have o3:=v.kq<|F9.kq d3;have o6:=v.kq<|F9.kq d6;have o9:=v.kq<|F9.kq b9;have bs:bM buY bqW [(0,iv (gd w.ac k).value),(1,bv U)]=V (.a (aB9.mk (gd w.ac k).value U).c):=A;have bt:bM buY bqW []=V (.a (aB9.mk 0 I).c):=A;simp only[eT,o9,bs,↓uL];refine anu aJ λaT dj a9 c0 am=>?_;have aL:=a9.len.trans aJ;simp only[qz 40,qy 42,bt,aY,↓uL];refine anu aL λan aM az c4 aC=>?_;have e:Fx bg aM []:=(a9.trans az).mono O;have g:StL aM v6 v9 aR aT an w c ch (gd w.ac k) (eD y f++[W,a5,a6,D,E]) a6 (c.order++[(k:Int)]) ⟨0,I⟩:=⟨az.len.trans aL,e.kq o1,e.kq o2,e.kq o3,e.kq o6,e.kq o9,e.kq al,az.kq am,aC,by grind [lI.fx],p6⟩;have H4:=G4.fx e O;have H5:=G5.fx e O;have H7:=G7.fx e O;have H8:=G8.fx e O;simp only[qz 44,↓uL];refine bpF (λd=>∀z,StL z v6 v9 aR aT an w c ch (gd w.ac k) (eD y f++[W,a5,a6,D,E]) a6 (c.order++[(k:Int)]) (aRD w c ch.aq<|gd w.ac k)->lI z 222 2 W (c.cells.map aB9.c)->lI z 222 2 a5 (c.bU.map aB9.c)->lI z 4 1 D (c.fixed.map cb)->lI z 3 1 E (c.woke.map ci)->d [] z) ?_ λd hJ=>?_;intro z S N P R T;simp only[qz 81,aI,↓uL];refine bpF (λd=>∀(z:ae) (ce fu:List aB9) (fx:List Bool) (wk:eu) (bi:aB9),StL z v6 v9 aR aT an w c ch (gd w.ac k) (eD y f++[W,a5,a6,D,E]) a6 (c.order++[(k:Int)]) bi->lI z 222 2 W (ce.map aB9.c)->lI z 222 2 a5 (fu.map aB9.c)->lI z 4 1 D (fx.map cb)->lI z 3 1 E (wk.map ci)->(⟨y,ce,fu,c.order++[(k:Int)],fx,wk⟩:bdT)=aN2 w c ch->d [] z) ?_ λd m=>?_;intro z ce fu fx wk bi S N P R T he;simp only[qz 93,qy 60,eS,S.b13,rS,↓uL];refine stW S.b6 A rfl λz2 Fz bz=>?_;simp only[eS,bz,rS,↓uL];have nv:∀{q:Id},q.1≠6->q∉[((6,v6):Id)]:=X;refine aOH (Q:=(·=AV.t [AV.a (aN2 w c ch).c,bv U])) (vs':=[.a (aN2 w c ch).c,bv U]) ?_ A rfl;rw[<-he];simp only[ji,mU,fzT,dg,aBr (N.fx Fz λq o=>nv bkb).p,aBr (P.fx Fz λq o=>nv bkb).p,aBr (S.g6.fx Fz X).p,aBr (R.fx Fz λq o=>nv bkb).p,aBr (T.fx Fz λq o=>nv bkb).p,aWt];simp[bdT.c,aW.c,eD,sl,bcz,aWt];generalize st:aN2 w c ch=xC at m⊢;simp only[aN2,h1,bh,b4] at st;have st:=st.symm;have:aF (L c.fixed) (k:Int):=dJ (by rwa [n.fx]);have:aF (L c.woke) (k:Int):=dJ (by rwa [n.wk]);simp+contextual only[qz 95,qy 48,qy 50,qy 52,qy 54,qy 56,qy 58,iq,S.b9,S.b13,S.b2,S.b14,S.b15,rS,boX,bog,↓uL];have hb:∀{l:List Bool},∀r∈l.map cb,L r=1:=λ{l}=>qW (f:=cb) λ_=>A;have:(gd w.ac k).kind=3\/(gd w.ac k).kind=4->aF (L c.cells) (gd w.ac k).eI:=λh=>(by rw[n.ce];exact qP be Z Z);have:(gd w.ac k).kind=22\/(gd w.ac k).kind=23->aF (L c.bU) (gd w.ac k).eI:=λh=>(by rw[n.fu];exact oU be Z Z);have aO:∀{b:Bool},(⟨y,c.cells,c.bU,c.order++[(k:Int)],c.fixed.set k b,c.woke⟩:bdT)=xC->rV (cz 1 z D<|iv k) λp=>sV (aK 1 z p<|bv b) λs=>d [] s:=λ{b} he=>(by refine gsG R X hb A rfl rfl rfl rfl λp z' j G'=>?_;have:∀{q:Id},q.1≠80->q∉aA D:=λh F=>h<|p7 _ F;exact m z' _ _ (c.fixed.set k b) _ _ (S.fx j X) (N.fx j X) (P.fx j X) (by rwa [bsl]) (T.fx j X) he);have aP:∀{b:Int},(⟨y,c.cells,c.bU,c.order++[(k:Int)],c.fixed,c.woke.set k b⟩:bdT)=xC->rV (cz 1 z E<|iv k) λp=>sV (aK 1 z p<|iv b) λs=>d [] s:=λ{b} he=>(by refine gsG T X fF A rfl rfl rfl rfl λp z' j G'=>?_;have:∀{q:Id},q.1≠83->q∉aA E:=λh F=>h<|p8 _ F;exact m z' _ _ _ (c.woke.set k b) _ (S.fx j X) (N.fx j X) (P.fx j X) (R.fx j X) (by rwa [bsl]) he);refine⟨λh=>⟨X,aO ?_⟩,λn3=>⟨λh=>⟨X,aO ?_⟩,λdb=>⟨λh=>?_,λn4=>⟨λh=>?_,λda=>⟨λh=>⟨λF=>aP ?_,λF=>?_⟩,λc8=>⟨λh=>aP ?_,λc9=>?_⟩⟩⟩⟩⟩⟩;rw[st];simp[aNQ h];rw[st];simp[aNQ h];refine gsG N X a8d A rfl rfl rfl rfl λp z' j G'=>?_;have:∀{q:Id},q.1≠62->q∉aA W:=λh F=>h<|p4 _ F;exact m z' (c.cells.set _ _) _ _ _ _ (S.fx j X) (by rwa [bsl]) (P.fx j X) (R.fx j X) (T.fx j X) (by rw[st];simp[aNQ h]);refine gsG P X a8d A rfl rfl rfl rfl λp z' j G'=>?_;have:∀{q:Id},q.1≠65->q∉aA a5:=λh F=>h<|p5 _ F;exact m z' _ (c.bU.set _ _) _ _ _ (S.fx j X) (N.fx j X) (by rwa [bsl]) (R.fx j X) (T.fx j X) (by rw[st];simp[aNQ h]);grind;exact m z _ _ _ _ _ S N P R T X;grind;exact m z _ _ _ _ _ S N P R T X;simp+contextual only[qz 83,qy 46,hH,g.b1,g.b2,g.b3,g.b9,g.b14,r15,oe,J9,arm,bcO,G,n,b0,↓uL];constructor<;>intro h;have:aRD w c ch.aq (gd w.ac k)=⟨(gd w.ac k).value,U⟩:=(by grind [aRD]);refine stW g.b15 A rfl λcn i c5=>?_;have:∀{q:Id},q.1≠15->q∉[((15,an):Id)]:=X;exact hJ cn ⟨i.len.trans g.hl,i.kq g.b1,i.kq g.b2,i.kq g.b3,i.kq g.b6,i.kq g.b9,i.kq g.b13,i.kq g.b14,X,g.g6.fx i X,g.p6⟩ (H4.fx i X) (H5.fx i X) (H7.fx i X)<|H8.fx i X;have:aRD w c ch.aq (gd w.ac k)=⟨0,I⟩:=(by grind [aRD]);exact hJ aM X H4 H5 H7 H8
def bi4:FT:=qe bjO
def bos:=sT bi4 bjO (j:=btz)
structure StR(x:ae)(v2:Nat)(w:am)(a1 a2 a3:AV)(bF bW:Id):Prop where
 hl:L x=4096
 b1:box x (1,1)=V ⟨45,15,U,U,[w.c]⟩
 b2:box x (2,v2)=V ⟨85,9,U,U,[aQ2]⟩
 g1:J7 x 191 2 a1 (w.init.eB.ak.map cg.c)
 g2:J7 x 4 1 a2 (w.init.eB.done.map cb)
 g3:J7 x 69 3 a3 (w.init.eB.ay.map aoC.c)
 gF:lI x 4 1 (.m bF<|L w.ac) ((er (L w.ac) I).map cb)
 gW:lI x 3 1 (.m bW<|L w.ac) ((er (L w.ac) (0:Int)).map ci)
theorem StR.fx{x y f w a1 a b c d Lw}(S:StR x f w a1 a b c d)(p1:∀q∈aA a1,q.1=41)(j:∀q∈aA a,q.1=10)(k:∀q∈aA b,q.1=14)(g:c.1=13)(i:d.1=17)(F:Fx x y Lw)(h:∀q∈Lw,q.1=3\/q.1=37\/q.1=57):StR y f w a1 a b c d:=by have e:∀{q:Id},q.1≠3/\q.1≠37/\q.1≠57->q∉Lw:=X;exact⟨F.len.trans S.hl,F.keep _ _ (e O) S.b1,F.keep _ _ (e O) S.b2,S.g1.fx F X,S.g2.fx F X,S.g3.fx F X,S.gF.fx F bno,S.gW.fx F bno⟩
def bjV(w)(hp:aC2 w/\bcV w=U):Ct 65 [.a w.c] (·= .a (aNY w).c):=by obtain⟨hw,aT⟩:=hp;have bn:=hw.wo.wo.ev;have hc:=bhV aT;obtain⟨q1,q2,q3,q4,q5⟩:=hc.sz hw.wo;have q6:L w.init.cells<1000/\L w.init.bU<1000:=(by grind [tC,aQA,vH.ce,vH.fu]);have hS:L w.init.eB.ak<100000/\L w.init.eB.done<100000/\L w.init.eB.ay<100000/\∀l∈w.init.eB.ak,L l.bk<1000000:=(by grind [aNY]);refine aDq (bqb A λs2 hl b1 h0=>?_);simp only[bjm,↓uL];refine zm hl λv2 s3 F3 N3 b3=>?_;have c1:=F3.kq b1;have ag:=F3.len.trans hl;simp only[qz 4,eT,c1,dc,↓uL];refine bjx ag hS λa1 r s s4 X4 g1 g2 g3 p1 R T=>?_;have aP:=X4.len.trans ag;have N:=X4.kq c1;have aG:=X4.kq b3;simp only[qz 6,eT,N,↓uL];refine AP H H Z Z λt s5 B N5 F5 b5=>?_;have aM:=F5.kq N;have aQ:=F5.len.trans aP;simp only[qz 8,eT,aM,↓uL];refine AP H H Z Z λu s6 C N6 F6 b6=>?_;have ah:=F6.len.trans aQ;have aO:∀{n:Nat},bM aQ2 aOs [(0, .a [a1,iv w.init.eB.tx,r,s]),(4, .m t n),(5, .m u n)]=V (.a [a1,iv w.init.eB.tx,r,s, .l [] U U, .l [] U U, .l [] U U, .m t n, .m u n]):=λ{n}=>A;simp only[qz 10,qy 12,aO,aY,↓uL];refine zm ah λv3 bo aE N7 aJ=>?_;refine stW aJ A rfl λs7 aF b7=>?_;have W:Fx s6 s7 []:=(aE.trans aF).mono aUw;have aR:=W.len.trans ah;have o:Fx s4 s7 []:=(F5.trans<|F6.trans W).mono O;have S7:StR s7 v2 w a1 r s t u:=⟨aR,o.kq N,o.kq aG,g1.fx o O,g2.fx o O,g3.fx o O, .inr ⟨t,O,by rw[W.kq<|F6.kq b5,List.map_replicate];rfl⟩, .inr ⟨u,O,by rw[W.kq b6,List.map_replicate];rfl⟩⟩;have al:∀{n:Int} {b:Bool},aNG (.a [iv n,bv b])=[]:=λ{n b}=>A;simp only[qz 14,↓uL];refine dT ?_ ?_;have k0:=bnf (x:=w.init.eB.tx) g1 g2 g3 p1 R T;generalize AV.a [a1,iv w.init.eB.tx,r,s]=b0 at k0⊢;simp[eL,lb,Cz,aTn,bc7,a6H,bc6,bna,B,C];grind;have af:∀{x:ae} {y:Int},aX buY 1 x [(0, .a [iv y,bv U])]=V (.l [aB9.c ⟨y,U⟩] U U,x):=λ{x y}=>ua A rfl rfl H A H;have ad:∀{y:Int},bM buY bqW [(0,iv y),(1,bv U)]=V (.a [iv y,bv U]):=λ{y}=>A;have k1:∀{x:dM} {y:AV},aN J (y::x)=V y:=λ{x y}=>(by cases y<;>rfl);have k9:∀{a b c d e f g h i:AV},aN (V 9) [a,b,c,d,e,f,g,h,i]=V (.a [a,b,c,d,e,f,g,h,i]):=A;refine yV (L w.init.cells) (λk _ x=>∃a,StR x v2 w a1 r s t u/\box x (3,v3)=V ⟨85,9,U,U,[[a1,iv w.init.eB.tx,r,s,a, .l [] U U, .l [] U U, .m t<|L w.ac, .m u<|L w.ac]]⟩/\J7 x 222 2 a (((w.init.cells.take k).map λv=>aB9.mk v U).map aB9.c)/\∀q∈aA a,q.1=37) ⟨_,S7,b7, .inl ⟨O,A⟩,aBY⟩ ?_;rintro k _ x hk ⟨a,S,M,K,pa⟩;simp only[qz 25,qy 16,au,fD,S.b1,M,k1,dc,bh,nM,ip,ad,af,↓uL];constructor<;>intro h;have j:=aL h;refine⟨dJ j,?_⟩;refine apQ K S.hl a8d (by simp[aB9.c]) O NA λa' s8 P F P8=>?_;have S8:=S.fx p1 R T B C F X;have D:=F.keep _ _ X M;simp only[qz 18,eS,D,↓uL];refine A0 D P.p.ce O λs9 G b9=>?_;simp only[qz 20,↓uL];refine dT ?_ ?_;simp[eL,lb,Cz,aTn,bc7,a6H,bc6,bm9,al,au];simp only[au,eQ,↓uL];refine yU j ⟨a',S8.fx p1 R T B C G O,b9,?_,λq hq=>(P8 q hq).2⟩;rw[iJ j,<-aNV j,dg,dg];exact P.p.fx G X;obtain rfl:k=L w.init.cells:=X;rw[gV] at K;refine yV (L w.init.bU) (λk _ x=>∃b,StR x v2 w a1 r s t u/\box x (3,v3)=V ⟨85,9,U,U,[[a1,iv w.init.eB.tx,r,s,a,b, .l [] U U, .m t<|L w.ac, .m u<|L w.ac]]⟩/\J7 x 222 2 a ((w.init.cells.map λv=>aB9.mk v U).map aB9.c)/\J7 x 222 2 b (((w.init.bU.take k).map λv=>aB9.mk v U).map aB9.c)/\∀q∈aA b,q.1=57) ⟨_,S,M,K, .inl ⟨O,A⟩,aBY⟩ ?_;rintro k _ x hk ⟨b,S,M,K,gb,pb⟩;simp only[qz 61,qy 22,qy 28,au,fD,S.b1,M,k1,k9,dc,bh,nM,ip,ad,af,↓uL];constructor<;>intro h;have j:=aL h;refine⟨dJ j,?_⟩;refine apQ gb S.hl a8d (by simp[aB9.c]) O NA λb' s8 P F P8=>?_;have S8:=S.fx p1 R T B C F X;have D:=F.keep _ _ X M;simp only[qz 24,eS,D,↓uL];refine A0 D P.p.ce O λs9 G b9=>?_;simp only[qz 26,↓uL];refine dT ?_ ?_;simp[eL,lb,Cz,aTn,bc7,a6H,bc6,bm9,al,au];simp only[au,eQ,↓uL];refine yU j ⟨b',S8.fx p1 R T B C G O,b9,(K.fx F X).fx G X,?_,λq hq=>(P8 q hq).2⟩;rw[iJ j,<-aNV j,dg,dg];exact P.p.fx G X;obtain rfl:k=L w.init.bU:=X;rw[gV] at gb;refine stW S.b2 A rfl λz E bz=>?_;simp only[eS,bz,k9,ip,↓uL];have nv:∀{q:Id},q.1≠2->q∉[((2,v2):Id)]:=X;refine aQ7 ?_ (by simp[iX,bdT.c,aW.c,eN,sl]);simp only[fzT,ji,mU,aBr<|S.g1.fx E X,aBr<|S.g2.fx E X,aBr<|S.g3.fx E X,aBr<|K.fx E X,aBr<|gb.fx E X,aBr (S.gF.fx E bno).p,aBr (S.gW.fx E bno).p,aWt,bcz];rfl
def bi7:FT:=mT bjV
def boA:=oK bi7 bjV (j:=btz)
def bir:dO:=(197,bh8)::(73,bib)::(67,bi9)::(104,bi4)::(65,bi7)::biP
def biq:eJ bir:=asq (tE bjH)<|asq (tE bj1)<|asq (tE bjX)<|asq (tE bjO)<|asq (pg bjV)<|bh3
def aPk:=ai @bok<|ai @boG<|ai @boC<|ai @bos<|ai @boA<|@bcO
def bmR:=I9 24 [(12,([],[4,6,8,9,12,14])),(14,([],[4,6]))]
def bjn c b a d R:=(.mk _:NR bir bmR Tryz.f68 [.u, .u, .u] [c,b,a] d R).p
def bqc{c0:dM}{b:dM}{c:dM}{R:J3}(l0:L c0=15)(l1:L b=9)(d:L c=2)(h:H3 45 15 3 c0 85 9 4 b 113 2 5 c λf g i e=>bjn f g i e R):Ct 68 [.a c0, .a b, .a c] R:=z3 bmR biq func68 l0 l1 d h
def bnS:=I9 14 [(4,([15],[2,4,6,13,14]))]
def bp1{c0 a1}:=y1 45 15 2 biq func56 bnS c0 [.a c0,a1]
def bmN:=I9 27 [(8,([33],[3,4,31,32]))]
def bhT c a b d R:=(.mk _:NR bir bmN Tryz.f118 [.u, .u, .u] [c,a,b] d R).p
def bpV{c0:dM}{b:dM}{c:dM}{R:J3}(l0:L c0=15)(l1:L b=9)(d:L c=6)(h:H3 45 15 3 c0 85 9 4 b 48 6 5 c λf g i e=>bhT f g i e R):Ct 118 [.a c0, .a b, .a c] R:=z3 bmN biq func118 l0 l1 d h
def bmS:=I9 22 [(11,([7],[3,4,5]))]
def bhU c a b d R:=(.mk _:NR bir bmS Tryz.f25 [.u, .u, .u] [c,a,b] d R).p
def bqe{c0:dM}{b:dM}{c:dM}{R:J3}(l0:L c0=15)(l1:L b=9)(d:L c=6)(h:H3 45 15 3 c0 85 9 4 b 48 6 5 c λf g i e=>bhU f g i e R):Ct 25 [.a c0, .a b, .a c] R:=z3 bmS biq func25 l0 l1 d h
theorem biK{c e}:atC c e=oW c.order e:=by unfold atC;grind [aE6,KW,dB,anS,KX]
theorem bnp{w a}:∀{l1 c},aNT w c (l1++a)=(aNT w c l1).bind λb=>aNT w b a
 |[],c=>rfl
 |ch::l,c=>by
  simp only[zn,aNT]
  split
  ·exact bnp
  ·rfl
theorem bpG{w l c a ch}(h:aNT w c l=V a)(b:aID w a ch.aq=U):aNT w c (l++[ch])=V (aN2 w a ch):=by grind [bnp,aNT]
theorem bqn{w g l c}(h:aNT w (aNY w) l=V c):biu w g l=aOM w c g:=by simp only[biu,h]
def bmU{x:aB9}{v}:(x.known&&Q (x.value=v))=Q (x=⟨v,U⟩):=by obtain⟨a,b⟩:=x;grind
structure StQ(y:ae)(v6 v9 v14:Nat)(e:aP)(n:dM)(a6:AV)(o:eu)(wr':aB9):Prop where
 hl:L y=4096
 b4:box y (4,1)=V ⟨85,9,U,U,[n]⟩
 b6:box y (6,v6)=V ⟨85,9,U,U,[aQ2]⟩
 b9:box y (9,v9)=V ⟨71,7,U,U,[e.c]⟩
 b14:box y (14,v14)=V ⟨222,2,U,U,[wr'.c]⟩
 g6:lI y 3 1 a6 (o.map ci)
 p6:∀q∈aA a6,q.1=64
theorem StQ.fx{y z g d a e n f o b Lw}(S:StQ y g d a e n f o b)(F:Fx y z Lw)(i:∀q∈Lw,q.1=9\/q.1=13\/q.1=21\/q.1=25)(h:((9,d):Id)∉Lw):StQ z g d a e n f o b:=by have c:∀{q:Id},q.1≠9/\q.1≠13/\q.1≠21/\q.1≠25->q∉Lw:=X;exact⟨F.len.trans S.hl,F.keep _ _ (c O) S.b4,F.keep _ _ (c O) S.b6,F.keep _ _ h S.b9,F.keep _ _ (c O) S.b14,S.g6.fx F λq j=>(by grind [StQ.p6]),S.p6⟩
def bjW(w)(c)(ch)(hp:aC2 w/\CfI w c):Ct 68 [.a w.c, .a c.c, .a ch.c] (·= .t [.a (bif aID w c ch.aq then aN2 w c ch else aQx).c,bv<|aID w c ch.aq]):=by obtain⟨hw,M⟩:=hp;obtain⟨q1,q2,q3,q4,q5⟩:=M.sz hw.wo;have c8:=hw.wo.wo.ev;refine aDq (bqc A rfl rfl λs6 hl b1 b2 b3 h0=>?_);simp only[bjn,↓uL];refine zm hl λv6 s7 F7 N7 b6=>?_;have c1:=F7.kq b1;have c2:=F7.kq b2;have c3:=F7.kq b3;have bf:=F7.len.trans hl;simp+contextual only[qz 8,qy 10,qy 12,nc,c1,c2,c3,r15,J9,arm,aPk,hw,hw.wo,M,FA,↓uL];rcases cd:aID w c ch.aq with _|_;have hz:bM aQ2 aOs []=V (.a aQ2):=A;simp only[kN,mb,sr,hz,aY,↓uL];refine stW b6 A rfl λs8 F8 b8=>?_;have r9:aN (V 9) aQ2=V (.a aQ2):=A;simp only[eS,b8,r9,↓uL];exact aOH (vs':=[.a aQx.c,bv I]) A rfl rfl;obtain⟨k,h1,h2,h3,h4,h5,h6⟩:=bjy cd;rw[h1];simp only[fh,eE,im];refine⟨dJ h2,?_⟩;have hA:L w.aQ.bC<4611686018427387904/\(∀l∈c.eB.ak,L l.bk<100000)/\L c.eB.ak<100000/\L c.eB.done<100000/\L c.eB.ay<100000:=(by grind [kB.co,vL.wo,aC2.wo]);have b0:bcF w ch.aq (gd w.ac k).ep:=(by grind [aC2.dI]);have bi:=(hw.wo.wo.named h2).1;obtain⟨cc,cf⟩:L c.cells<1000/\L c.bU<1000:=(by have g1:=hw.sn k h2;have g2:=(hw.wo.wo.st k h2).2;have g3:=M.ce;have g4:=M.fu;grind [fN]);refine anu bf λv9 s8 F8 N8 b9=>?_;rw[bh] at b9;have d1:=F8.kq c1;have d2:=F8.kq c2;have d3:=F8.kq c3;have d6:=F8.kq b6;have bg:=F8.len.trans bf;simp only[qz 14,qy 16,hH,d1,d2,d3,b9,r15,oe,J9,arm,aPk,hw,M,b0,FA,aQl,↓uL];refine jH A (bo9 bg hw M cc cf) ?_;rintro _ s9 ⟨N,P,a6,F,G,rfl,C⟩;refine⟨C.hl,?_⟩;have cg:=C.hl.trans bg;have e1:=C.kx.kq d1;have e2:=C.kx.kq d2;have e3:=C.kx.kq d3;have e6:=C.kx.kq d6;have e9:=C.kx.kq b9;refine stW e2 A rfl λdi R f2=>?_;have de:∀{q:Id},q.1≠4->q∉[((4,1):Id)]:=X;have f1:=R.kq e1;have f3:=R.kq e3;have f6:=R.kq e6;have f9:=R.kq e9;have aR:=R.len.trans cg;have cq:∀{x:dM},aN (V 4) (c.eB.c++x)=V (.a c.eB.c):=λ{x}=>A;simp only[qz 18,qy 20,je,f1,f2,f3,f9,cq,r15,J9,arm,aPk,↓uL];refine⟨hA,?_⟩;have bq:=h5;rintro r ⟨f,rfl⟩;simp only[bq,aRa];refine⟨.inl A,?_⟩;simp only[oJ,pG,KM,aY,↓uL];generalize b5:cU w.aQ c.eB ch.aq (gd w.ac k).kind (gd w.ac k).eI ch.lD=av;obtain⟨D,vl⟩:=av;refine anu aR λdl dj ax c5 bG=>?_;have cr:aN (V 4) (eD D f)=V (.a<|eD D f):=A;have g2:=ax.kq f2;have bs:=ax.len.trans aR;simp only[qz 22,eS,bG,g2,cr,↓uL];refine stI (y:=4) (cs:=eD D f) g2 A rfl O λan be i2=>?_;have bj:box an (4,1)=V ⟨85,9,U,U,[eD D f++[N,P,a6,F,G]]⟩:=i2;have aT:=be.len.trans bs;have r6:aN J ((eD D f++[N,P,a6,F,G]).drop 6)=V a6:=(by cases a6<;>rfl);have aC:Fx s9 an [((4,1):Id)]:=(R.trans<|ax.trans be).mono O;have G6:=C.g6.fx aC λq hq=>(by grind [bki.p6]);have b7:aX bH 1 an [(0,iv k)]=V (.l ([(k:Int)].map ci) U U,an):=iz;simp only[qz 24,qy 26,eS,bj,r6,b7,↓uL];refine apQ G6.p aT fF fF O (by have:=M.ol;simp;omega) λE dk g6 az P6=>?_;have ck:∀{q:Id},q.1≠17->q∉aA a6:=λh K=>h<|C.p6 _ K;have j2:=az.keep _ _ (ck O) bj;have bt:=az.len.trans aT;simp only[qz 28,eS,j2,↓uL];refine A0 j2 g6.p.ce (by simp[eD]) λct aB aE=>?_;have bn:box ct (4,1)=V ⟨85,9,U,U,[eD D f++[N,P,E,F,G]]⟩:=aE;have aU:=aB.len.trans bt;have ca:bM buY bqW []=V (.a (aB9.mk 0 I).c):=A;simp only[qz 30,qy 32,ca,aY,↓uL];refine anu aU λao aZ am c6 bI=>?_;have v:Fx s9 aZ (((4,1):Id)::aA a6):=(aC.trans<|az.trans<|aB.trans am).mono X;have dh:∀{q:Id},q.1≠4->q.1≠17->q∉((4,1):Id)::aA a6:=X;have p4:=C.p4;have p5:=C.p5;have p7:=C.p7;have p8:=C.p8;have H4:=C.g4.fx v X;have H5:=C.g5.fx v X;have H7:=C.g7.fx v X;have H8:=C.g8.fx v X;have n9:((9,v9):Id)∉aA N/\((9,v9):Id)∉aA P/\((9,v9):Id)∉aA F/\((9,v9):Id)∉aA G:=(by refine⟨λh=>?_,λh=>?_,λh=>?_,λh=>?_⟩<;>exact C.nw _ (by simp[h]) _ b9);have B:StQ aZ v6 v9 ao (gd w.ac k) (eD D f++[N,P,E,F,G]) E (c.order++[(k:Int)]) ⟨0,I⟩:=⟨am.len.trans aU,am.kq bn,v.keep _ _ X e6,v.keep _ _ X e9,bI,by rw[dg];exact(g6.fx aB X).fx am O,λq hq=>(P6 q hq).2⟩;have bp:bM buY bqW [(0,iv (gd w.ac k).value),(1,bv U)]=V (.a (aB9.mk (gd w.ac k).value U).c):=A;simp only[qz 34,↓uL];refine bpF (λd=>∀z,StQ z v6 v9 ao (gd w.ac k) (eD D f++[N,P,E,F,G]) E (c.order++[(k:Int)]) (aRD w c ch.aq<|gd w.ac k)->lI z 222 2 N (c.cells.map aB9.c)->lI z 222 2 P (c.bU.map aB9.c)->lI z 4 1 F (c.fixed.map cb)->lI z 3 1 G (c.woke.map ci)->d [] z) ?_ λd hJ=>?_;intro z S T W I7 I8;simp only[qz 75,aI,↓uL];refine bpF (λd=>∀(z:ae) (ce fu:List aB9) (fx:List Bool) (wk:eu) (bl:aB9),StQ z v6 v9 ao (gd w.ac k) (eD D f++[N,P,E,F,G]) E (c.order++[(k:Int)]) bl->lI z 222 2 N (ce.map aB9.c)->lI z 222 2 P (fu.map aB9.c)->lI z 4 1 F (fx.map cb)->lI z 3 1 G (wk.map ci)->(⟨D,ce,fu,c.order++[(k:Int)],fx,wk⟩:bdT)=aN2 w c ch->d [] z) ?_ λd o=>?_;intro z ce fu fx wk bl S T W I7 I8 he;simp only[qz 87,qy 50,eS,S.b4,rS,↓uL];refine stW S.b6 A rfl λz2 Fz bz=>?_;simp only[eS,bz,rS,↓uL];have nv:∀{q:Id},q.1≠6->q∉[((6,v6):Id)]:=X;refine aOH (Q:=(·=AV.t [AV.a (aN2 w c ch).c,bv U])) (vs':=[.a (aN2 w c ch).c,bv U]) ?_ A rfl;rw[<-he];simp only[ji,mU,fzT,dg,aBr (T.fx Fz λq hq=>nv bkb).p,aBr (W.fx Fz λq hq=>nv bkb).p,aBr (S.g6.fx Fz X).p,aBr (I7.fx Fz λq hq=>nv bkb).p,aBr (I8.fx Fz λq hq=>nv bkb).p,aWt];simp[bdT.c,aW.c,eD,sl,bcz,aWt];generalize st:aN2 w c ch=xC at o⊢;simp only[aN2,h1,bh,b5] at st;have st:=st.symm;have kF:aF (L c.fixed) (k:Int):=dJ (by rwa [M.fx]);have kW:aF (L c.woke) (k:Int):=dJ (by rwa [M.wk]);have hb:∀{l:List Bool},∀r∈l.map cb,L r=1:=λ{l}=>qW (f:=cb) λ_=>A;have cC:(gd w.ac k).kind=3\/(gd w.ac k).kind=4->aF (L c.cells) (gd w.ac k).eI:=λh=>(by rw[M.ce];exact qP bi Z Z);have cF:(gd w.ac k).kind=22\/(gd w.ac k).kind=23->aF (L c.bU) (gd w.ac k).eI:=λh=>(by rw[M.fu];exact oU bi Z Z);have lv:∀{a:AV} {l:List aB9} {i:Int},lI z 222 2 a (l.map aB9.c)->aF (L l) i->∃b n,a= .m b n/\cz 2 z (.m b n) (iv i)=V (.p b i.toNat 0)/\∃x,box z b=V x/\x.bA[i.toNat]?=V (gd l i.toNat).c:=λ{a l i} g hi=>(by have h0:=hi.1;have h4:i.toNat<L l:=(be7 hi.1 hi.2);obtain⟨e,_⟩|⟨b,rfl,hb⟩:=g;have:=bss L e;simp at this;subst this;simp at h4;exact⟨b,_,A,by simp[cz,h0,hb,h4],_,hb,by simp[aNV h4,h4]⟩);simp+contextual only[qz 89,qy 38,qy 40,qy 42,qy 44,qy 46,qy 48,iq,S.b9,S.b4,S.b14,rS,↓uL];have a0:∀{b:Bool},(⟨D,c.cells,c.bU,c.order++[(k:Int)],c.fixed.set k b,c.woke⟩:bdT)=xC->rV (cz 1 z F<|iv k) λp=>sV (aK 1 z p<|bv b) λs=>d [] s:=λ{b} he=>(gsG I7 X hb A rfl rfl rfl rfl λp z' j G'=>by have no:∀{q:Id},q.1≠21->q∉aA F:=λh K=>h<|p7 _ K;exact o z' _ _ (c.fixed.set k b) _ _ (S.fx j X n9.2.2.1) (T.fx j X) (W.fx j X) (by rwa [bsl]) (I8.fx j X) he);have a1:∀{b:Int},(⟨D,c.cells,c.bU,c.order++[(k:Int)],c.fixed,c.woke.set k b⟩:bdT)=xC->rV (cz 1 z G<|iv k) λp=>sV (aK 1 z p<|iv b) λs=>d [] s:=λ{b} he=>(gsG I8 X fF A rfl rfl rfl rfl λp z' j G'=>by have no:∀{q:Id},q.1≠25->q∉aA G:=λh K=>h<|p8 _ K;exact o z' _ _ _ (c.woke.set k b) _ (S.fx j X n9.2.2.2) (T.fx j X) (W.fx j X) (I7.fx j X) (by rwa [bsl]) he);refine⟨λh=>?_,λn3=>⟨λh=>?_,λdd=>⟨λh=>?_,λn4=>⟨λh=>?_,λdb=>⟨λh=>⟨λK=>a1 ?_,λK=>?_⟩,λc9=>⟨λh=>a1 ?_,λda=>?_⟩⟩⟩⟩⟩⟩;obtain⟨b,n,rfl,aO,x,hx,hr⟩:=lv T<|cC<|.inl<|aNQ h;simp+contextual only[aO,iq,hx,hr,S.b4,S.b9,rS,bmU,↓uL];refine a0 ?_;rw[st];simp[aNQ h];obtain⟨b,n,rfl,aO,x,hx,hr⟩:=lv W<|cF<|.inr<|aNQ h;simp+contextual only[aO,iq,hx,hr,S.b4,S.b9,rS,bmU,↓uL];refine a0 ?_;rw[st];simp[aNQ h];refine gsG T X a8d A rfl rfl rfl rfl λp z' j G'=>?_;have no:∀{q:Id},q.1≠9->q∉aA N:=λh K=>h<|p4 _ K;exact o z' (c.cells.set _ _) _ _ _ _ (S.fx j X n9.1) (by rwa [bsl]) (W.fx j X) (I7.fx j X) (I8.fx j X) (by rw[st];simp[aNQ h]);refine gsG W X a8d A rfl rfl rfl rfl λp z' j G'=>?_;have no:∀{q:Id},q.1≠13->q∉aA P:=λh K=>h<|p5 _ K;exact o z' _ (c.bU.set _ _) _ _ _ (S.fx j X n9.2.1) (T.fx j X) (by rwa [bsl]) (I7.fx j X) (I8.fx j X) (by rw[st];simp[aNQ h]);grind;exact o z _ _ _ _ _ S T W I7 I8 X;grind;exact o z _ _ _ _ _ S T W I7 I8 X;simp+contextual only[qz 77,qy 36,iq,B.b9,bp,↓uL];constructor<;>intro h;have e:aRD w c ch.aq (gd w.ac k)=⟨(gd w.ac k).value,U⟩:=(by grind [aRD]);refine stW B.b14 A rfl λcu u c7=>?_;have nv:∀{q:Id},q.1≠14->q∉[((14,ao):Id)]:=X;exact hJ cu ⟨u.len.trans B.hl,u.kq B.b4,u.kq B.b6,u.kq B.b9,X,B.g6.fx u X,B.p6⟩ (H4.fx u X) (H5.fx u X) (H7.fx u X)<|H8.fx u X;have e:aRD w c ch.aq (gd w.ac k)=⟨0,I⟩:=(by grind [aRD]);exact hJ aZ X H4 H5 H7 H8
def bi8:FT:=qe bjW
def boB:=sT bi8 bjW (j:=btz)
def a96(w:am)(l:List ot):bdT×Bool:=match aNT w (aNY w) l with|some c=>(c,U)|none=>(aQx,I)
def bpH{w c l}{k:Nat}(a:k<L l):aNT w c (l.drop k)=if aID w c (gd l k).aq=U then aNT w (aN2 w c<|gd l k) (l.drop<|k+1) else J:=by rw[aWc a];rfl
def bjM(w)(l)(T:aC2 w/\bcV w=U/\L l<1000000):Ct 56 [.a w.c,sl ot.c l] (·= .t [.a (a96 w l).1.c,bv (a96 w l).2]):=by obtain⟨u,n,ag⟩:=T;refine aDq (bp1 A λs2 s G h0=>?_);refine zm s λv4 s3 b N3 K=>?_;have q:=b.kq G;have i:=b.len.trans s;have v:∀{Y:ae},fS Y (sl ot.c l)=V (iv<|L l):=cT;simp only[qz 4,qy 6,fQ,q,r15,aPk,↓uL];refine⟨⟨u,n⟩, .inl A,?_⟩;refine anu i λv6 s4 o N4 M=>?_;simp only[qz 8,v,aY,↓uL];refine yV (L l) (λk _ x=>∃c,L x=4096/\box x (2,1)=V ⟨45,15,U,U,[w.c]⟩/\box x (4,v4)=V ⟨85,9,U,U,[aQ2]⟩/\box x (6,v6)=V ⟨85,9,U,U,[c.c]⟩/\CfI w c/\aNT w c (l.drop k)=aNT w (aNY w) l) ⟨aNY w,o.len.trans i,o.kq q,o.kq K,M,bhV n,A⟩ ?_;rintro k _ x hk ⟨c,j,m1,B,C,r,d⟩;simp only[qz 25,qy 10,qy 22,au,iq,m1,C,J9,boW,bh,↓uL];constructor<;>intro h;have f:=aL h;refine⟨dJ f,?_⟩;refine anu j λv8 y F N P=>?_;have D:=F.kq m1;have n4:=F.kq B;have E:=F.kq C;have m:=F.len.trans j;simp only[qz 12,qy 14,je,D,E,P,r15,oy,arm,aPk,↓uL];refine⟨⟨u,r⟩, .inl A,?_⟩;simp only[oJ,pG,aY,↓uL];rw[bpH f] at d;refine anu m λv9 z g N2 R=>?_;have o1:=g.kq D;have o4:=g.kq n4;have o6:=g.kq E;rcases e:aID w c (gd l k).aq with _|_;rw[e,za O] at d;have W:bM aQ2 aOs []=V (.a aQ2):=A;simp only[qz 16,qy 18,eQ,W,↓iC,↓uL];refine stW o4 A rfl λz2 b p=>?_;have r9:aN (V 9) aQ2=V (.a aQ2):=A;simp only[eS,p,r9,↓uL];refine aOH (Q:=(·=AV.t [.a (a96 w l).1.c,bv (a96 w l).2])) (vs':=[.a aQx.c,bv I]) A rfl ?_;simp only[a96,<-d];rfl;rw[e,zg A] at d;simp only[qz 16,qy 18,iq,R,e,aRa,↓iB,↓uL];refine stW o6 A rfl λz2 b S=>?_;simp only[qz 20,au,eQ,↓uL];exact yU f ⟨_,b.len.trans<|g.len.trans m,b.kq o1,b.kq o4,S,r.step e,d⟩;obtain rfl:k=L l:=X;rw[Gz] at d;refine stW B A rfl λz2 b p=>?_;simp only[iq,p,↓uL];refine aOH (Q:=(·=AV.t [.a (a96 w l).1.c,bv (a96 w l).2])) (vs':=[.a c.c,bv U]) A rfl ?_;simp only[a96,<-d];rfl
def bi2:FT:=aIc bjM
def boq:=gX bi2 bjM (j:=btz)
def bm4{w g}(h:qC w g=U)(a:g.kind≠2):dh g.ea (L w.ac)=U/\dh g.eb (L w.ac)=U/\dh g.ec (L w.ac)=U/\dh g.ed (L w.ac)=U/\(g.kind=1\/g.kind=3\/g.kind=4):=by grind [qC]
theorem bjC{w g}(h:qC w g=U)(a:g.kind=2):L g.cW<=4/\∀j,j<L g.cW->dh (gd g.cW j) (L w.ac)=U:=by unfold qC at h;rw[bsi a,aRa] at h;grind [qx,rO]
def bjG(w)(c)(g)(hp:aC2 w/\CfI w c/\qC w g=U):Ct 118 [.a w.c, .a c.c, .a g.c] (·=bv (aOM w c g)):=by obtain⟨o,i,P⟩:=hp;have aC:=i.ol;have aA:=o.wo.wo.ev;refine bpV A rfl rfl λs6 hl t b d h0=>?_;have ab:=(iY i.ft).2.2.2;by_cases p:g.kind=2;obtain⟨az,S⟩:=bjC P p;have f:Q (g.kind=1)=I:=(by simp[p]);have q:Q (g.kind=2)=U:=(by simp[p]);have G:aOM w c g=g.cW.all (aTr w c):=(by grind [aOM]);simp only[bhT,eT,d,f,q,↓iC,↓iB,↓uL];refine yV (L g.cW) (λk _ x=>Fx s6 x []/\∀j,j<k->aTr w c (gd g.cW j)=U) ⟨Fx.refl _ _,O⟩ ?_;rintro k _ x T ⟨F,hI⟩;have c1:=F.kq t;have E:=F.kq b;have W:=F.len.trans hl;simp only[qz 49,qy 8,au,gj,c1,E,r15,oe,arm,aPk,bh,↓uL];constructor<;>intro h;have m:=aL h;have B:=S k m;obtain⟨e,N⟩:∃e:Nat,gd g.cW k=e:=⟨(gd g.cW k).toNat,by have:=(dX.1 B).1;omega⟩;have r:e<L w.ac:=(aYF<|(dX.1 B).2);have aB:aTr w c (gd g.cW k)=I->aOM w c g=I:=bv8;have M:aTr w c (gd g.cW k)=(Q (aH7 w c (gd w.ac e).aq=e)&&!(Q ((gd w.ac e).kind=17)&&Q ((gd c.eB.ay (gd w.ac e).aq.toNat).cQ≠4))):=(by grind [aTr,bh]);have s:=(o.wo.wo.named r).2;have zt:¬(L c.eB.ay:Int)<=(gd w.ac e).aq:=(by rw[ab];have:=s.2;omega);have R:=N▸B;refine⟨dJ m,⟨o.wo,i⟩,?_⟩;simp only[N,R,iw,bh];refine⟨λh1=>?_,λh1=>⟨dJ r,?_⟩⟩;simp_all;refine anu W λv y D N2 b9=>?_;have d2:=D.kq E;simp+contextual only[qz 10,au,l8,b9,d2,zt,bqF,lG,↓uL];have aa:Q (aH7 w c (gd w.ac e).aq=e)=U:=X;rw[aa,iw] at M;refine⟨λ_=>⟨s.1,Z⟩,λh2=>?_,λh2=>?_⟩;simp_all;exact yU m ⟨F.trans D,X⟩;grind [RU,aNV];obtain⟨z,K,ax,M,T⟩:=bm4 P p;have q:Q (g.kind=2)=I:=(by simp[p]);obtain k1|k3|C:=T;have f:Q (g.kind=1)=U:=(by simp[k1]);simp+contextual only[bhT,hH,t,b,d,f,↓iC,r15,oe,arm,aPk,dc,o,i,z,K,FA,aOM,aRa,↓uL];have f:Q (g.kind=1)=I:=(by simp[k3]);have u:Q (g.kind=3)=U:=(by simp[k3]);have G:aOM w c g=(!Q (L c.order=0)&&(Q (gd c.order (L c.order-1)=g.eb)&&(Q (g.ea∈c.order)&&Q (gd c.woke g.ea.toNat=0)))):=(by grind [aOM]);rw[G];have l:aF (L c.woke) g.ea:=(by rw[i.wk];exact dX.1 z);have z1:=bsi l.1;have z2:=bsi l.2;simp only[bhT,iq,b,d,f,q,u,↓iC,↓iB,↓uL];rcases hn:L c.order with _|n;simp[pt,jN,↓uL];have ew:dq.wrap (((n+1:Nat):Int)-1)=(n:Int):=brE;have z0:Q (0<((n+1:Nat):Int))=U:=O;simp only[z0,jA,qE,l8,b,d,ew,bh,uO,aRa,Nat.add_sub_cancel,↓uL];rw[show Q (n+1=0)=I by simp];refine⟨λ_=>dJ Z,?_⟩;rcases hB:Q (gd c.order n=g.eb) with _|_;simp only[jN,jA,pt,bih,aRa,kM,qc,↓uL];simp only[jA,qE,je,b,d,aPk,uO,aRa,↓uL];refine⟨Z,?_⟩;rcases hA:Q (g.ea∈c.order) with _|_;simp only[jN,jA,pt,bih,aRa,kM,qc,AL,↓uL];simp only[jA,qE,l8,b,d,uO,aRa,z1,z2,l,AL,Cq,↓uL];have f:Q (g.kind=1)=I:=(by simp[C]);have u:Q (g.kind=3)=I:=(by simp[C]);have e4:Q (g.kind=4)=U:=(by simp[C]);simp+contextual only[bhT,nc,t,b,d,f,q,u,e4,↓iC,↓iB,r15,arm,aPk,dc,o,i,z,K,FA,aOM,aRa,bih,↓uL];refine⟨Z,λ_=>Z,λ_ _=>Z,?_⟩;rw[biK,biK,<-decide_not];simp
def bi1:FT:=qe bjG
def boj:=sT bi1 bjG (j:=btz)
def bjY(w)(c)(g)(hp:aC2 w/\CfI w c/\qC w g=U/\L g.cW<1000):Ct 25 [.a w.c, .a c.c, .a g.c] (·=bv (aOM w c g)):=by obtain⟨o,l,m,aO⟩:=hp;have aQ:=l.ol;have aM:=o.wo.wo.ev;have ag:=(iY l.ft).2.2.2;have t:kB w/\L g.cW<4611686018427387904:=⟨o.wo.wo,Z⟩;refine bqe A rfl rfl λs6 hl p b d h0=>?_;have u:aN (V 6) g.c=V (.a g.c):=A;have arg:dG s6 (.a g.c)= .a g.c:=A;by_cases q:g.kind=2;obtain⟨aK,ab⟩:=bjC m q;have f:Q (g.kind=1)=I:=(by simp[q]);have s:Q (g.kind=2)=U:=(by simp[q]);have S:aOM w c g=g.cW.all (aTr w c):=(by grind [aOM]);simp only[bhU,je,p,b,d,r15,u,arm,arg,aPk,m,f,s,↓iC,↓iB,↓uL];refine⟨t,?_⟩;refine yV (L g.cW) (λk _ x=>Fx s6 x []/\∀j,j<k->aTr w c (gd g.cW j)=U) ⟨Fx.refl _ _,O⟩ ?_;rintro k _ x hk ⟨F,hI⟩;have N:=F.kq p;have P:=F.kq b;have R:=F.kq d;have ae:=F.len.trans hl;simp only[qz 67,qy 8,au,l8,N,P,R,r15,bh,↓uL];constructor<;>intro h;have i:=aL h;have hi:=ab k i;obtain⟨e,W⟩:∃e:Nat,gd g.cW k=e:=⟨(gd g.cW k).toNat,by have:=(dX.1 hi).1;omega⟩;have D:e<L w.ac:=(aYF<|(dX.1 hi).2);have aP:aTr w c (gd g.cW k)=I->aOM w c g=I:=bv8;have K:aTr w c (gd g.cW k)=(Q (aH7 w c (gd w.ac e).aq=e)&&!(Q ((gd w.ac e).kind=17)&&Q ((gd c.eB.ay (gd w.ac e).aq.toNat).cQ≠4))):=(by grind [aTr,bh]);have E:=(o.wo.wo.named D).2;refine⟨dJ i,?_⟩;simp only[W,bh];refine⟨dJ D,?_⟩;refine zm ae λv y0 F0 N2 M=>?_;refine stW M A rfl λy F1 b8=>?_;have r:Fx x y []:=(F0.trans F1).mono aUw;have d1:=r.kq N;have d2:=r.kq P;have d3:=r.kq R;simp only[qz 10,↓uL];refine dT (by simp[eL,lb,Cz,aTn,a6H,bc7,au,bc6,bnb]) ?_;simp+contextual only[au,nc,b8,d1,d2,d3,r15,arm,aPk,W,bh,o.wo,l,↓uL];refine⟨dJ i,?_⟩;rw[show Q (aH7 w c (gd w.ac e).aq≠e)=!Q (aH7 w c (gd w.ac e).aq=e) from decide_not];generalize Q (aH7 w c (gd w.ac e).aq=e)=Xq at K⊢;generalize(Q ((gd w.ac e).kind=17)&&Q ((gd c.eB.ay (gd w.ac e).aq.toNat).cQ≠4))=Y at K⊢;refine⟨λ_ _=>⟨E.1,by rw[ag];exact E.2⟩,λh2=>?_,λh2=>?_⟩;grind;exact yU i ⟨F.trans r,X⟩;grind [RU,aNV];obtain⟨ha,hb,aJ,K,hk⟩:=bm4 m q;have B:=dX.1 ha;have C:=dX.1 hb;have s:Q (g.kind=2)=I:=(by simp[q]);obtain k1|k3|k4:=hk;have f:Q (g.kind=1)=U:=(by simp[k1]);simp+contextual only[bhU,m,t,u,arg,hH,p,b,d,f,↓iC,↓iB,r15,oe,arm,aPk,dc,o,l,B,C,FA,aOM,aRa,↓uL];have f:Q (g.kind=1)=I:=(by simp[k3]);have G:Q (g.kind=3)=U:=(by simp[k3]);have S:aOM w c g=(!Q (L c.order=0)&&(Q (gd c.order (L c.order-1)=g.eb)&&(Q (g.ea∈c.order)&&Q (gd c.woke g.ea.toNat=0)))):=(by grind [aOM]);rw[S];have T:aF (L c.woke) g.ea:=(by rwa [l.wk]);have af:Q (0<=atC c g.ea)=Q (g.ea∈c.order):=(by rw[biK];exact aE7);have z:L c.order<1000:=Z;simp only[bhU,m,t,r15,u,je,arm,arg,aPk,p,b,d,f,s,G,↓iC,↓iB,↓uL];rcases hn:L c.order with _|n;simp[pt,jN,↓uL];have ew:dq.wrap (((n+1:Nat):Int)-1)=(n:Int):=brE;have z0:Q (0<((n+1:Nat):Int))=U:=O;simp only[z0,jA,qE,l8,b,d,hn,ew,bh,uO,aRa,Nat.add_sub_cancel,↓uL];rw[show Q (n+1=0)=I by simp];refine⟨λ_=>dJ Z,?_⟩;rcases hB:Q (gd c.order n=g.eb) with _|_;simp only[jN,jA,pt,bih,aRa,kM,qc,↓uL];simp only[jA,qE,je,b,d,arm,aPk,z,af,uO,aRa,↓uL];rcases hA:Q (g.ea∈c.order) with _|_;simp only[jN,jA,pt,bih,aRa,kM,qc,↓uL];simp only[jA,qE,l8,b,d,T,uO,aRa,Cq,FA,↓uL];have f:Q (g.kind=1)=I:=(by simp[k4]);have G:Q (g.kind=3)=I:=(by simp[k4]);have z:L c.order<1000:=Z;simp+contextual only[bhU,m,t,u,arg,nc,p,b,d,f,s,G,↓iC,↓iB,r15,arm,aPk,dc,o,l,B,C,z,FA,aOM,aRa,bih,↓uL];grind [biK,aE7]
def bja:FT:=qe bjY
def boD:=sT bja bjY (j:=btz)
def bke:dO:=(68,bi8)::(56,bi2)::(118,bi1)::(25,bja)::bir
def bkc:eJ bke:=asq (tE bjW)<|asq (aCb bjM)<|asq (tE bjG)<|asq (tE bjY)<|biq
def bii:=ai @boB<|ai @boq<|ai @boj<|ai @boD<|@aPk
def brk:=I9 13 [(4,([7],[1,2,4,6]))]
def br1{c0 a1}:=y1 45 15 2 bkc func28 brk c0 [.a c0,a1]
def bjg c a b d R:=(.mk _:NR bke at1 Tryz.f57 [.u, .u, .u] [c,a,b] d R).p
def bpT{c0:dM}{b:dM}{c:dM}{R:J3}(l0:L c0=15)(l1:L b=9)(d:L c=6)(h:H3 45 15 3 c0 85 9 4 b 48 6 5 c λf g i e=>bjg f g i e R):Ct 57 [.a c0, .a b, .a c] R:=z3 at1 bkc func57 l0 l1 d h
def bn7:=I9 31 [(3,([7],[5,6])),(5,([7,8],[1,2,5,6])),(12,([9,10],[1,2,5,6,7,8])),(15,([9],[1,2,5,6,7,8,10])),(20,([9,12],[1,2,5,6,7,8,10,11])),(27,([13],[1,2,5,6,7,8,9]))]
def bqk{c0 a1}:=y1 45 15 2 bkc func23 bn7 c0 [.a c0,a1]
def bo2(w)(l)(G:aC2 w/\bcV w=U/\L l<1000000):Ct 28 [.a w.c,sl ot.c l] (·= .t [.a (a96 w l).1.c,bv (a96 w l).2]):=by obtain⟨s,m,S⟩:=G;refine aDq (br1 A λs2 r B h0=>?_);refine zm r λP s3 b W C=>?_;have p:=b.kq B;have i:=b.len.trans r;have u:∀{Y:ae},fS Y (sl ot.c l)=V (iv<|L l):=cT;simp only[qz 4,qy 6,qy 8,fQ,p,r15,bii,↓uL];refine⟨⟨s,m⟩, .inl A,?_⟩;refine anu i λR s4 n N4 D=>?_;refine yV (L l) (λk _ x=>∃c,L x=4096/\box x (2,1)=V ⟨45,15,U,U,[w.c]⟩/\box x (4,P)=V ⟨85,9,U,U,[aQ2]⟩/\box x (6,R)=V ⟨85,9,U,U,[c.c]⟩/\CfI w c/\aNT w c (l.drop k)=aNT w (aNY w) l) ⟨aNY w,n.len.trans i,n.kq p,n.kq C,D,bhV m,A⟩ ?_;rintro k _ x hk ⟨c,j,m1,v,y,q,d⟩;simp only[qz 25,qy 10,qy 18,au,je,m1,y,u,r15,oy,boW,arm,bii,bh,↓uL];constructor<;>intro h;have f:=aL h;refine⟨dJ f,⟨s,q⟩, .inl A,?_⟩;simp only[oJ,pG,aY,↓uL];rw[bpH f] at d;refine anu j λv9 z g T E=>?_;have o1:=g.kq m1;have o4:=g.kq v;have M:=g.kq y;simp only[qz 12,qy 14,↓uL];refine dT (by simp[eL,lb,Qh,Cz,aTn,a6H,bc7,bc6,bnb,bo5,bo3,bo6,bxl,bjD,au]) ?_;rcases e:aID w c (gd l k).aq with _|_;rw[e,za O] at d;have K:bM aQ2 aOs []=V (.a aQ2):=A;simp only[eQ,K,↓iC,↓uL];refine stW o4 A rfl λz2 b o=>?_;have N:aN (V 9) aQ2=V (.a aQ2):=A;simp only[eS,o,N,↓uL];refine aOH (Q:=(·=AV.t [.a (a96 w l).1.c,bv (a96 w l).2])) (vs':=[.a aQx.c,bv I]) A rfl ?_;simp only[a96,<-d];rfl;rw[e,zg A] at d;simp only[iq,E,e,aRa,↓iB,↓uL];refine stW M A rfl λz2 b F=>?_;simp only[qz 16,au,eQ,↓uL];exact yU f ⟨_,b.len.trans<|g.len.trans j,b.kq o1,b.kq o4,F,q.step e,d⟩;obtain rfl:k=L l:=X;rw[Gz] at d;refine stW v A rfl λz2 b o=>?_;simp only[iq,o,↓uL];refine aOH (Q:=(·=AV.t [.a (a96 w l).1.c,bv (a96 w l).2])) (vs':=[.a c.c,bv U]) A rfl ?_;simp only[a96,<-d];rfl
def bns:FT:=aIc bo2
def brs:=gX bns bo2 (j:=btz)
def bjE(w)(c)(g)(j:aC2 w/\CfI w c/\qC w g=U):Ct 57 [.a w.c, .a c.c, .a g.c] (·=bv (aOM w c g)):=by obtain⟨b,h,i⟩:=j;refine bpT A rfl rfl λl n d e f m=>?_;have k:aN (V 6) g.c=V (.a g.c):=A;have arg:dG l (.a g.c)= .a g.c:=A;simp+contextual only[bjg,hH,d,e,f,r15,k,oe,arm,arg,bii,b,b.wo,h,i,FA,↓uL]
def bi0:FT:=qe bjE
def boh:=sT bi0 bjE (j:=btz)
def aQo(w:am)(c:bdT)(n:Nat):List ot:=(aH n).flatMap λ(t:Nat)=>if aID w c (t:Int) then(aOk w c (t:Int)).map λu=>⟨(t:Int),u⟩ else[]
theorem bj3{w c n}:aQo w c (n+1)=aQo w c n++if aID w c (n:Int) then(aOk w c (n:Int)).map λu=>⟨(n:Int),u⟩ else[]:=by grind [aQo,qn]
theorem bkf{w c}(h:CfI w c){t:Int}:L (aOk w c t)<=4:=by have:=h.sy.th;grind [aOk,fO,wU]
theorem bpc{w c n x}(h:x∈aQo w c n):aID w c x.aq=U:=by grind [aQo]
theorem bj4{w c}(h:CfI w c):∀n:Nat,L (aQo w c n)<=n*4
 |0=>by simp[aQo]
 |n+1=>by
  have:=bj4 h n
  grind [bkf,bj3]
def bnn{l:List ot}:∀r∈l.map ot.c,L r=2:=λr a=>by obtain⟨y,_,rfl⟩:=dN.1 a;rfl
structure StK(x:ae)(w:am)(v5 v7:Nat)(c:bdT):Prop where
 hl:L x=4096
 b1:box x (2,1)=V ⟨45,15,U,U,[w.c]⟩
 b5:box x (5,v5)=V ⟨85,9,U,U,[aQ2]⟩
 b7:box x (6,v7)=V ⟨85,9,U,U,[c.c]⟩
theorem StK.fx{x y w b d c Lw}(S:StK x w b d c)(F:Fx x y Lw)(e:∀q∈Lw,q.1=53\/q.1=86):StK y w b d c:=by have a:∀{q:Id},q.1≠53/\q.1≠86->q∉Lw:=X;exact⟨F.len.trans S.hl,F.keep _ _ (a O) S.b1,F.keep _ _ (a O) S.b5,F.keep _ _ (a O) S.b7⟩
def bvH{p:Prop}(h:p:=by simp[Go.Ab.ot.c]):p:=h
def bj2(w:am)(l:eu)(hp:aC2 w/\bcV w=U/\L l<100000):Ct 23 [.a w.c,sl ci l] (λr=>∃p c,r= .t [sl ot.c p, .a<|bdT.c c]/\aNT w (aNY w) p=V c/\L p<=L l):=by obtain⟨M,ag,bb⟩:=hp;have hT:=M.wo.th;generalize hQ:(λ(r:AV)=>∃p c,r= .t [sl ot.c p, .a<|bdT.c c]/\aNT w (aNY w) p=V c/\L p<=L l)=Qq;refine aDq (bqk A λs2 G B h0=>?_);refine zm G λR s3 F3 N3 b3=>?_;have c1:=F3.kq B;have ac:=F3.len.trans G;have N:∀{Y:ae},fS Y (sl ci l)=V (iv<|L l):=cT;simp only[qz 4,qy 6,qy 8,fQ,c1,r15,bii,↓uL];refine⟨⟨M,ag⟩, .inl A,?_⟩;refine anu ac λv s4 F4 N4 b4=>?_;have S4:StK s4 w R v (aNY w):=⟨F4.len.trans ac,F4.kq c1,F4.kq b3,b4⟩;refine bsf (λd=>∀(y:ae) (p:List ot) (c:bdT) (a:AV),StK y w R v c->J7 y 113 2 a (p.map ot.c)->(∀q∈aA a,q.1=86)->aNT w (aNY w) p=V c->L p<=L l->d [a] y) ?_ λd W=>?_;intro y p c a S g P K ah;simp only[qz 21,qy 20,iq,S.b7,↓uL];refine stW S.b5 A rfl λz f bz=>?_;simp only[iq,bz,au,↓uL];refine aOH (vs':=[sl ot.c p, .a c.c]) ?_ A (by rw[<-hQ];exact⟨p,c,A,K,ah⟩);simp only[ji,mU,aWs (g.fx f λq o e=>by simp at e;subst e;have:=P _ o;simp at this)];rfl;simp only[qz 23,↓uL];refine yW (L l) (λk a x=>∃p c,StK x w R v c/\J7 x 113 2 a (p.map ot.c)/\(∀q∈aA a,q.1=86)/\CfI w c/\aNT w (aNY w) p=V c/\L p<=k) (s0:= .l [] U U) ⟨[],aNY w,S4, .inl ⟨A,A⟩,aBY,bhV ag,A,O⟩ ?_;rintro k a x hk ⟨p,c,S,g,P,D,K,ah⟩;simp only[qz 31,au,gt1,eQ,N,↓uL];refine⟨λh=>?_,λh=>W x p c a S g P K Z⟩;have af:=aL h;generalize hI:yI (λ(a:AV) (i:Int)=>[a,iv i]) (L l) (λk a x=>∃p c,StK x w R v c/\J7 x 113 2 a (p.map ot.c)/\(∀q∈aA a,q.1=86)/\CfI w c/\aNT w (aNY w) p=V c/\L p<=k)=Iy;refine yW (L w.aQ.ay) (λt b y=>Fx x y []/\J7 y 113 2 b ((aQo w c t).map ot.c)/\∀q∈aA b,bK x q/\q.1=53) (s0:= .l [] U U) ⟨Fx.refl _ _, .inl ⟨by simp[aQo],A⟩,aBY⟩ ?_;rintro t b y ht ⟨F,gb,pb⟩;have Sy:=S.fx F O;simp only[qz 73,au,gt1,eT,Sy.b1,dc,↓uL];constructor<;>intro h2;have an:=aL h2;simp only[di,qz 95,au,gt1,je,Sy.b1,Sy.b7,r15,arm,bii,↓uL];refine⟨⟨M,D⟩,λhe=>?_,λhe=>?_⟩;simp only[qz 93,au,gt1,eQ,↓uL];refine yX an ⟨F,?_,pb⟩;grind [bj3];have a9:aID w c (t:Int)=U:=X;refine⟨⟨M,D⟩, .inl A,?_⟩;refine yW (L<|aOk w c t) (λj b z=>Fx x z []/\J7 z 113 2 b ((aQo w c t++((aOk w c t).take j).map λu=>(⟨t,u⟩:ot)).map ot.c)/\∀q∈aA b,bK x q/\q.1=53) (s0:=b) X ?_;rintro j b z hj ⟨f,gz,pz⟩;have aO:=f.len.trans S.hl;have aN:bM bjw bqW [(0,iv t),(1,iv<|gd (aOk w c t) j)]=V (.a [iv t,iv<|gd (aOk w c t) j]):=A;have C:aX bjw 1 z [(0, .a [iv t,iv<|gd (aOk w c t) j])]=V (.l [ot.c ⟨t,gd (aOk w c t) j⟩] U U,z):=ua A rfl rfl H A H;have aP:∀{Y:ae},fS Y (sl ci<|aOk w c t)=V (iv<|L<|aOk w c t):=cT;simp only[qz 121,qy 10,au,gt1,gJ,aP,qM,bh,aN,C,↓uL];constructor<;>intro h3;have ab:=aL h3;refine⟨dJ ab,?_⟩;refine apQ gz aO bnn bvH O (by grind [bj4,bkf]) λb' z2 g2 F2 P2=>?_;simp only[qz 12,au,gt1,eQ,↓uL];refine dR (mk:=λ(a:AV) i=>[a,iv i]) (p:=1) (s:=b) (s':=b') (λ_ _=>A) ab (by grind [bkf]) ⟨(f.trans F2).mono aUw,?_,bse⟩;have e:aQo w c t++((aOk w c t).take<|j+1).map (λu=>(⟨t,u⟩:ot))=(aQo w c t++((aOk w c t).take j).map λu=>(⟨t,u⟩:ot))++[⟨t,gd (aOk w c t) j⟩]:=(by grind [iJ,aNV]);grind [lI.p];obtain rfl:j=L (aOk w c t):=X;rw[gV] at gz;simp only[qz 93,au,gt1,eQ,↓uL];refine dR (mk:=λ(a:AV) i=>[a,iv i]) (p:=1) (s:=b) (s':=b) (λ_ _=>A) (Y:=y) an Z ⟨f,?_,pz⟩;grind [bj3];obtain rfl:t=L w.aQ.ay:=X;have bc:∀{Y:ae},box Y (0,0)=box Y (0,0):=A;have ao:fS y b=V (iv<|L<|aQo w c<|L w.aQ.ay):=(by rw[gb.ln,bJ]);have kl:=bj4 D<|L w.aQ.ay;generalize ba:aQo w c (L w.aQ.ay)=ks at*;have az:∀x∈ks,aID w c x.aq=U:=(by grind [bpc]);have ga:=g.fx F O;simp only[ao,aY,eQ,N,ix,↓uL];refine⟨λh3=>W y p c a Sy ga P K Z,λh3=>⟨dJ af,?_⟩⟩;have h0:0<L ks:=X;have aB:bc4 .rem 0 [] (iv<|gd l k) (iv<|L ks)=V (iv<|(gd l k).tmod<|L ks):=(by show Option.map AV.s (if dq=dq/\(L ks:Int)≠0 then V (.int .i64<|Int.tmod (gd l k)<|L ks) else J)=_;grind);have t1:∀{a b:Int},0<b-> -b<a.tmod b/\a.tmod b<b:=λ{a b} h=>(by have h1:=Int.tmod_lt_of_pos a h;have h2:=Int.tmod_lt_of_pos (-a) h;rw[Int.neg_tmod] at h2;omega);have hb:=t1 (a:=gd l k) (show(0:Int)<L ks by omega);simp only[bh,qM,aY,aB,↓uL];generalize(gd l k).tmod (L ks:Int)=m at hb⊢;refine bs6 (λd=>∀m:Int,0<=m->m<L ks->d [iv m]) ?_ λd hJ=>?_;intro m bd be;simp only[qz 165,aI,↓uL];obtain⟨n,rfl⟩:∃n:Nat,m=n:=⟨m.toNat,Z⟩;have T:n<L ks:=Z;have E:=az _<|dB T;obtain⟨e,_⟩|⟨q,mm,rfl,o⟩:=gb;have:=bss L e;simp at this;subst this;simp at T;have ak:q.1=53:=(pb q aBY).2;have aa:∀{z:ae},box z q=V ⟨113,2,U,I,ks.map ot.c++mm⟩->cz 2 z (.m q<|L<|ks.map ot.c) (iv n)=V (.p q n 0):=(by grind [cz]);have ad:∀{z:ae},box z q=V ⟨113,2,U,I,ks.map ot.c++mm⟩->sA (V 2) z (.p q n 0)=V (.a (gd ks n).c):=λ{z} h=>(by simp only[aC5,h,a6X];rw[xe X,ve,eC T,aNV T];rfl);simp only[au,iq,Sy.b1,Sy.b7,r15,aa o,ad o,↓uL];simp only[o0,arm,bii];refine⟨⟨M,D⟩, .inl (by simp[nA,aNN,iR,am.c,bdT.c,ot.c,aOw.c,aTo.c,aW.c,sl]),?_⟩;simp only[oJ,pG,aY,E,aRa,↓uL];refine stW Sy.b7 A rfl λz f bz=>?_;have Sz:StK z w R v (aN2 w c<|gd ks n):=⟨f.len.trans Sy.hl,f.kq Sy.b1,f.kq Sy.b5,bz⟩;have nv:∀{q:Id},q.1≠6->q∉[((6,v):Id)]:=X;have al:=f.keep _ _ (nv<|by rw[ak];decide) o;have aJ:=ga.fx f λq o=>nv (by rw[P q o];decide);have C:aX bjw 1 z [(0, .a (gd ks n).c)]=V (.l [ot.c<|gd ks n] U U,z):=ua A rfl rfl H A H;simp only[qz 14,qy 16,↓uL];refine dT (by simp[eL,lb,Qh,Cz,aTn,a6H,bc7,bc6,bnb,bo5,bo3,bo6,bxl,bjD,bna,au,ak]) ?_;simp only[au,aa al,ad al,aY,C,bQ,eQ,↓uL];refine apQ aJ Sz.hl bnn bvH O NA λa' z2 g2 F2 P2=>?_;simp only[qz 18,au,gt1,eQ,↓uL];rw[<-hI];refine yX af ⟨p++[gd ks n],_,(by grind [StK.fx]),bvb,λq o=>(P2 q o).2,D.step E,bpG K E,NA⟩;simp only[qz 167,au,gt1,ao,eQ,↓uL];constructor<;>intro h;have:=aNQ h;rw[eM Z Z];exact hJ _ Z Z;have:=bsX h;exact hJ _ Z Z
def bjc:FT:=pn bj2
def boH:=f211 bjc bj2 (j:=btz)
def bnw:dO:=(28,bns)::(57,bi0)::(23,bjc)::bke
def biO:eJ bnw:=asq (aCb bo2)<|asq (tE bjE)<|asq (aN0 bj2)<|bkc
def bfd:=ai @brs<|ai @boh<|ai @boH<|@bii
def bql{c0 b c}:=y2 45 15 3 48 6 4 biO func18 aur c0 b [.a c0, .a b,c]
def br2{c0 b c}:=y2 45 15 3 48 6 4 biO func27 aur c0 b [.a c0, .a b,c]
def bn4:=I9 14 [(1,([2],[1,3])),(8,([2,7],[1,3])),(11,([2],[1,3,7]))]
def bqh{c0 a1 b}:=yB1 45 15 3 biO func70 bn4 c0 [.a c0,a1,b]
def bqi{c0 a1 b}:=yB2 45 15 3 48 6 5 biO func69 auF c0 b [.a c0,a1, .a b]
def biL(w)(g)(l)(n:aC2 w/\bcV w=U/\qC w g=U/\L l<1000000):Ct 18 [.a w.c, .a g.c,sl ot.c l] (·=bv (biu w g l)):=by obtain⟨o,b,r,f⟩:=n;refine bql A rfl λs m e i q=>?_;simp only[qy 6,fQ,e,r15,bfd,↓uL];refine⟨⟨o,b,f⟩, .inl A,?_⟩;simp only[oJ,pG,aY,↓uL];have p:aN (V 6) g.c=V (.a g.c):=A;refine anu m λt x F N d=>?_;have j:=F.kq e;have k:=F.kq i;have arg:dG x (.a g.c)= .a g.c:=A;unfold a96 at d⊢;unfold biu;rcases h:aNT w (aNY w) l with _|c;simp only[qz 8,pt,jN,bih,↓uL];rw[h] at d;have:=(bhV b).run h;simp only[qz 8,je,jA,j,k,d,r15,p,arm,arg,bfd,uO,aRa,↓uL];simp_all
def bjd:FT:=qe biL
def boI:=sT bjd biL (j:=bsg)
def bpe(w)(g)(l)(n:aC2 w/\bcV w=U/\qC w g=U/\L g.cW<1000/\L l<1000000):Ct 27 [.a w.c, .a g.c,sl ot.c l] (·=bv (biu w g l)):=by obtain⟨o,b,s,q,f⟩:=n;refine br2 A rfl λt m e i r=>?_;simp only[qy 6,fQ,e,r15,bfd,↓uL];refine⟨⟨o,b,f⟩, .inl A,?_⟩;simp only[oJ,pG,aY,↓uL];have p:aN (V 6) g.c=V (.a g.c):=A;refine anu m λu x F N d=>?_;have j:=F.kq e;have k:=F.kq i;have arg:dG x (.a g.c)= .a g.c:=A;unfold a96 at d⊢;unfold biu;rcases h:aNT w (aNY w) l with _|c;simp only[qz 8,pt,jN,bih,↓uL];rw[h] at d;have:=(bhV b).run h;simp only[qz 8,je,jA,j,k,d,r15,p,arm,arg,bfd,uO,aRa,↓uL];simp_all
def bnt:FT:=qe bpe
def brt:=sT bnt bpe (j:=bsg)
def bnm{l:List cJ}:∀r∈l.map cJ.c,L r=6:=λr a=>by obtain⟨y,_,rfl⟩:=dN.1 a;rfl
def a7h(g:cJ)(f o:Bool):dM:=[iv g.kind,iv g.ea,iv g.eb,iv g.ec,iv g.ed, .l (g.cW.map ci) f o]
def bpb{w g f o a i Y}(k:L Y=4096)(y:kB w)(B:L g.cW<1000)(v:J7 Y 48 6 a<|i.map cJ.c)(F:L i<1000000):∃r e,(J7 e 48 6 r ((i++if qC w g then[g] else[]).map cJ.c)/\Fx Y e (aA a)/\∀q∈aA r,q∈aA a\/bK Y q/\q.1=13)/\cZ aS GG 69 [.a w.c,a, .a<|a7h g f o] Y r e:=bqi k A rfl λb P R p G K M s t=>by have d:=p.fx [];have m:=d.len.trans k;have z:aN (V 6) (a7h g f o)=V (.a<|a7h g f o):=A;have arg:dG b (.a<|a7h g f o)= .a g.c:=A;have u:=v.fx d O;have x:kB w/\L g.cW<4611686018427387904:=⟨y,Z⟩;have j:aX bwN 1 b [(0, .a<|a7h g f o)]=V (.l [cJ.c g] U U,b):=aQm (Y:=b) (cs:=a7h g f o) (tgt:=g.c) A rfl H (by simp[cJ.c,eN,sl]) H;simp only[qy 6,qy 8,fQ,s,t,r15,z,arg,bfd,j,↓uL];refine⟨x,λh=>?_,λh=>?_⟩;refine apQ u m bnm (by simp[cJ.c]) O NA λD N E n C=>?_;simp only[aRf,aoz];exact⟨bvb,(d.trans n).mono vB,bse⟩;simp only[aRf,aoz];grind [Fx.mono]
def cyB:Nat->Nat|0=>1|n+1=>1+16*cyB n
def CyL(w:am)(l:List<|eu):Prop:=∀c∈l,qC w (Ds c)=U
def bpC{l:List (eu)}:∀r∈l.map cl,L r=1:=λr a=>by obtain⟨y,_,rfl⟩:=dN.1 a;rfl
def bpa{w}(hw:kB w):∀(n:Nat) {p} {path:eu} {a out Y},L path+n=4->0<L path->(∀x∈path,aF (L w.ac) x)->L Y=4096->SlR Y 1 p (path.map ci)->(∀q∈aA p,q.1=54)->J7 Y 25 1 a (out.map cl)->(∀q∈aA a,q.1=17)->CyL w out->L out+cyB n<1000000->
  ∃r Y1,(∃out',J7 Y1 25 1 r (out'.map cl)/\(∀q∈aA r,q.1=17/\(q∈aA a\/bK Y q))/\Fx Y Y1 (aA a)/\CyL w out'/\L out'<=L out+cyB n)/\cZ aS GG 70 [.a w.c,p,a] Y r Y1:=by
 intro n
 induction n using Nat.strongRecOn with
 |ind n ih=>
 intro p path a out Y hn a2 aY M hp pp hG pa hC bl
 have aW:=hw.ev
 have bG:L path<=4:=Z
 refine bqh M A λs2 v3 K2 lk nf b3=>?_
 have S:=K2.fx []
 have ap:=S.len.trans M
 have E:=hp.fx S O
 have ga:=hG.fx S O
 have a5:∀{z:ae},SlR z 1 p (path.map ci)->lz z p=sl ci path:=λ{z} h=>by
  obtain⟨t,o,rfl⟩|⟨b,m,e,rfl,hb⟩:=h
  ·rfl
  ·simp[lz,aTH,hb,gK,sl]
 have az:∀{z:ae},SlR z 1 p (path.map ci)->dG z p=sl ci path:=λ{z} h=>by
  obtain⟨t,o,rfl⟩|⟨b,m,e,rfl,hb⟩:=h
  ·rfl
  ·simp[dG,eR,aTH,hb,nrm,gK,sl]
 have arg:dG s2 (.a [iv 2,iv 0,iv 0,iv 0,iv 0,p])= .a (Ds path).c:=by
  show AV.a [iv 2,iv 0,iv 0,iv 0,iv 0,lz s2 p]=_
  rw[a5 E];rfl
 have aU:bM bu2 anY [(0,iv 2),(5,p)]=V (.a [iv 2,iv 0,iv 0,iv 0,iv 0,p]):=by
  obtain⟨t,o,rfl⟩|⟨b,m,e,rfl,hb⟩:=hp<;>rfl
 have kp:aNG p=[]\/aNG p=[54]:=by
  obtain h|⟨k,h,rfl⟩:=hp.keys (P:=λk=>k=54) pp
  ·exact .inl h
  grind
 have hV:kB w/\L (Ds path).cW<4611686018427387904:=⟨hw,by show L path<_;omega⟩
 have bt:=nf
 refine bpF (λd=>∀(y:ae) (D:AV) (out':List<|eu),Fx Y y (aA a)->box y (3,v3)=V ⟨45,15,U,U,[w.c]⟩->SlR y 1 p (path.map ci)->J7 y 25 1 D (out'.map cl)->(∀q∈aA D,q.1=17/\(q∈aA a\/bK Y q))->CyL w out'->L out'<=L out+1->d [D] y) ?_ λd hJ=>?_
 ·intro y D out' F c3 E g ia bv bD
  have bF:=F.len.trans M
  simp only[qz 9,au,E.ln,bJ,eQ,↓uL]
  refine⟨λh=>?_,λh=>?_⟩
  ·grind [aRf,aoz,cyB]
  ·obtain⟨m,rfl⟩:∃m,n=m+1:=⟨n-1,X⟩
   have ao:=aY _<|dB a2
   obtain⟨e,he⟩:∃e:Nat,gd path 0=e:=⟨(gd path 0).toNat,by have:=ao.1;omega⟩
   have bC:e<L w.ac:=by have:=ao.2;omega
   show rV (cz 1 y p<|iv ((0:Nat):Int)) _
   refine SlR.ix1 E (i:=0) (c:=iv<|gd path 0) brU λ_ _=>?_
   simp only[he,eQ,↓uL]
   rw[fX Z]
   refine AI (α:=AV) (λb i=>[b,iv i]) 1 (L w.ac) (e+1) Z (λj b z=>∃v,Fx Y z (aA a)/\box z (3,v3)=V ⟨45,15,U,U,[w.c]⟩/\SlR z 1 p (path.map ci)/\J7 z 25 1 b (v.map cl)/\(∀q∈aA b,q.1=17/\(q∈aA a\/bK Y q))/\CyL w v/\L v<=L out+1+j*cyB m) (s0:=D) X ?_
   rintro j b z hj ⟨v,W,z3,R,gb,ib,ab,ap⟩
   have a1:=W.len.trans M
   simp only[qz 49,au,gt1,eT,z3,↓uL]
   refine⟨λh2=>?_,λh2=>?_⟩
   ·have a0:=aL h2
    have bx:j*cyB m<=(j+1)*cyB m:=X
    have bz:(j+1)*cyB m<=16*cyB m:=qo _ Z
    have bB:cyB (m+1)=1+16*cyB m:=A
    generalize hI:yI (λ(b:AV) (i:Int)=>[b,iv i]) (L w.ac) (λj b z=>∃v,Fx Y z (aA a)/\box z (3,v3)=V ⟨45,15,U,U,[w.c]⟩/\SlR z 1 p (path.map ci)/\J7 z 25 1 b (v.map cl)/\(∀q∈aA b,q.1=17/\(q∈aA a\/bK Y q))/\CyL w v/\L v<=L out+1+j*cyB m)=f
    refine bsf (λd=>∀(N:ae) (b':AV) (o3:List<|eu),Fx Y N (aA a)->box N (3,v3)=V ⟨45,15,U,U,[w.c]⟩->SlR N 1 p (path.map ci)->J7 N 25 1 b' (o3.map cl)->(∀q∈aA b',q.1=17/\(q∈aA a\/bK Y q))->CyL w o3->L o3<=L out+1+(j+1)*cyB m->d [b'] N) ?_ λd av=>?_
    ·intro N b' o3 h1 h2 h3 h4 h5 h6 h7
     simp only[qz 69,au,gt1,eQ,↓uL]
     rw[<-hI]
     exact dR (mk:=λ(a:AV) i=>[a,iv i]) (p:=1) (s:=b) (s':=b') (λ_ _=>A) (Y:=z) a0 Z X
    simp only[qz 71,qy 12,au,gt1,ar,jM,az R,bfd,eQ,↓uL]
    refine⟨Z,?_⟩
    have K:=av z b v W z3 R gb ib ab Z
    rcases hM:Q ((j:Int)∈path) with _|_
    ·have ew:dq.wrap ((L path:Int)-1)=((L path-1:Nat):Int):=brE
     have bE:L path-1<L path:=Z
     simp only[jA,qE,eS,R.ln,bJ,z3,r15,ew,↓uL]
     refine SlR.ix1 R (i:=L path-1) (c:=iv<|gd path<|L path-1) brU λ_ _=>?_
     simp only[jA,ar,bfd,eQ,uO,aRa,↓uL]
     refine⟨(by grind [dJ,dB]),λbw=>?_,λ_=>K⟩
     simp only[nS,bQ]
     refine apV (bA:=[]) (e:=3) (z:=1) (new:=path.map ci) (.inl ⟨A,A⟩) R.ro A H Z O fF NA λx1 B g3 F3 P3=>?_
     have G:J7 B 3 1 x1 (path.map ci):=X
     have u:Fx z B []:=F3.mono aBY
     have an:∀q∈aA x1,bK z q/\q.1=51:=bno
     have aV:aX bH 1 B [(0,iv j)]=V (.l ([(j:Int)].map ci) U U,B):=iz
     have aq:=u.len.trans a1
     simp only[qz 14,qy 16,gt1,aV,bQ,↓uL]
     refine apQ G aq fF fF O NA λx2 s5 g5 C P5=>?_
     have a6:∀{q:Id},q.1≠51->q∉aA x1:=X
     have aQ:=(gb.fx u O).fx C X
     have a9:=(R.fx u O).fx C X
     have a8:=C.keep _ _ (a6 O)<|u.kq z3
     have aZ:=C.len.trans aq
     have aN:=(W.trans<|u.trans C).mono λq hq=>by
      simp only[dW,dF] at hq
      obtain h|h:=hq
      ·exact .inl h
      ·exact .inr ((an q h).1.old W).no
     simp only[qz 18,au,↓uL]
     refine jH A (ih m Z (p:=x2) (path:=path++[(j:Int)]) (a:=b) (out:=v) NA O (λx hx=>?_) aZ (.of (by rw[dg];exact g5.p)) X aQ X ab X) ?_
     ·grind [cE,dJ]
     rintro r s6 ⟨o3,g6,i6,F6,aT,bk⟩
     refine⟨F6.len,?_⟩
     simp only[qz 20,↓uL]
     refine dT ?_ ?_
     ·have kx:aNG x1=[]\/aNG x1=[51]:=by
       obtain h|⟨k,h,rfl⟩:=(SlR.of G).keys (P:=λk=>k=51) X
       ·exact .inl h
       grind
      obtain h|h:=kp<;>obtain h'|h':=kx<;>simp[eL,lb,Cz,aTn,a6H,bc7,bc6,gt1,h,h']
     have a7:∀{q:Id},q.1≠17->q∉aA b:=X
     refine av s6 r o3 ((aN.trans F6).mono λq hq=>?_) (F6.keep _ _ (a7 O) a8) (a9.fx F6 X) g6 (λq hq=>⟨(i6 q hq).1,?_⟩) aT X
     ·grind [bK.no]
     grind [bK.old]
    ·simp only[jN,eQ,uO,bih,↓uL]
     exact⟨λh=>(by cases h),λ_=>K⟩
   ·obtain rfl:j=L w.ac:=X
    simp only[aRf,aoz]
    refine⟨v,gb,ib,W,ab,?_⟩
    have:L w.ac*cyB m<=16*cyB m:=qo _ aW
    grind [cyB]
 simp only[qz 11,qy 4,eS,b3,r15,aU,ar,arg,bfd,↓uL]
 refine⟨hV,λh=>?_,λh=>?_⟩
 ·simp only[nS,bQ]
  refine apV (bA:=[]) (e:=3) (z:=1) (new:=path.map ci) (.inl ⟨A,A⟩) E.ro A H Z O fF NA λx B g3 F3 P3=>?_
  have G:J7 B 3 1 x (path.map ci):=X
  have u:Fx s2 B []:=F3.mono aBY
  have an:∀q∈aA x,bK s2 q/\q.1=15:=bno
  have T:=aOp (aA x) B
  have no:∀{q:Id},q.1≠15->q∉aA x:=X
  have aP:=(ga.fx u O).fx T X
  have bu:=(E.fx u O).fx T X
  have bs:=T.keep _ _ (no O)<|u.kq b3
  simp only[qz 6,qy 8,qy 10,baG G,bQ,↓uL]
  refine qs (new:=[[.l (path.map ci) I I]]) aP A H (by rw[T.len,u.len,ap];decide) bpC O O NA λD s5 g5 C P5=>?_
  have bI:∀{q:Id},q.1≠17->q∉aA a:=λh h'=>h<|pa _ h'
  have ax:Fx Y s5 (aA a):=(S.trans<|u.trans<|T.trans C).mono bwa
  refine hJ s5 D (out++[path]) ax bsq (by grind [SlR.fx]) (by rw[dg];exact g5.p) bse (λl M=>?_) O
  obtain h1|h1:=dF.1 M
  ·exact hC l h1
  grind
 ·exact hJ s2 a out (S.mono O) b3 E ga X hC Z
def bnx:dO:=(18,bjd)::(27,bnt)::bnw
def bnv:eJ bnx:=asq (tE biL)<|asq (tE bpe)<|biO
def bEL:=ai @boI<|ai @brt<|@bfd
def bn2:=I9 61 [(5,([3,5],[1,4])),(10,([3,6],[1,4,5])),(16,([3,7],[1,4])),(22,([3,9],[1,4,7,8])),(28,([3,10],[1,4])),(33,([3,11],[1,4,10])),(39,([3,12],[1,4])),(44,([3,13],[1,4,12])),(47,([3],[1,4,12,13])),(51,([3,14],[1,4,12,13])),(56,([3,15],[1,4,12,13,14]))]
def bjp a b R:=(.mk _:NR bnx bn2 Tryz.f24 [.u] [a] b R).p
def bqf{c0:dM}{R:J3}(l0:L c0=15)(h:H1 45 15 1 c0 λia b=>bjp ia b R):Ct 24 [.a c0] R:=z1 bn2 bnv func24 l0 h
def GL(w:am)(z:ae)(b:AV)(N:Nat):Prop:=∃a:List cJ,L z=4096/\box z (1,1)=V ⟨45,15,U,U,[w.c]⟩/\J7 z 48 6 b (a.map cJ.c)/\(∀q∈aA b,q.1=13\/q.1=57)/\(∀g∈a,qC w g=U/\L g.cW<=4)/\L a<=N
theorem GL.mono{w z b N M}(h:GL w z b N)(j:N<=M):GL w z b M:=by obtain⟨a,c,d,e,f,g,i⟩:=h;exact⟨a,c,d,e,f,g,Z⟩
def GL.putG{w}(m:kB w){z b}{N d:Nat}{g f o K}(h:GL w z b N)(v:N<1000000)(y:L g.cW<=4)(l:∀r e,GL w e r (N+1)->K r e):cB 69 [.a w.c,b, .a<|a7h g f o] z d K:=by obtain⟨n,i,p,k,s,t,u⟩:=h;refine jH A (bpb i m Z k Z) ?_;rintro r e ⟨j,F,D⟩;refine⟨F.len,l r e ⟨_,F.len.trans i,bsq,j,λq B=>?_,λx C=>?_,?_⟩⟩;grind;grind;grind
def bjZ(w)(hp:kB w):Ct 24 [.a w.c] (λr=>∃j:List cJ,r=sl cJ.c j/\(∀g∈j,qC w g=U/\L g.cW<=4)/\L j<=200000):=by have B:=hp;have:=B.ev;generalize hQ:(λ(r:AV)=>∃j:List cJ,r=sl cJ.c j/\(∀g∈j,qC w g=U/\L g.cW<=4)/\L j<=200000)=Qq;refine aDq (bqf A λs2 hl b1 h0=>?_);show bjp (.p (1,1) 0 0) s2 λr=>Qq<|bqE r;have b2:∀{k a b c d:Int},bM bu2 anY [(0,iv k),(1,iv a),(2,iv b)]=V (.a<|a7h (cJ.mk k a b 0 0 []) U U):=λ{k a b c d}=>A;have b4:∀{k a b c d:Int},bM bu2 anY [(0,iv k),(1,iv a),(2,iv b),(3,iv c),(4,iv d)]=V (.a<|a7h (cJ.mk k a b c d []) U U):=λ{k a b c d}=>A;simp only[bjp,eT,b1,↓uL];refine yW (L w.ac) (λk a x=>GL w x a<|k*16) (s0:= .l [] U U) ⟨[],hl,b1, .inl ⟨A,A⟩,aBY,O,O⟩ ?_;rintro m a x M G;obtain⟨_,_,K,_⟩:=id G;simp only[qz 31,au,gt1,eQ,↓uL];constructor<;>intro h;have f:=aL h;refine yW (L w.ac) (λk a x=>GL w x a<|m*16+k) (s0:=a) G ?_;rintro D a y N G;obtain⟨_,_,y1,_⟩:=id G;simp only[qz 61,au,gt1,eT,y1,r15,b2 (c:=0) (d:=0),↓uL];constructor<;>intro n;have e:=aL n;refine GL.putG B G Z O λr z v=>?_;simp only[qz 4,au,gt1,eQ,↓uL];exact dR (mk:=λ(a:AV) i=>[a,iv i]) (p:=1) (s:=a) (s':=r) (λ_ _=>A) (Y:=y) e Z<|v.mono Z;exact dR (mk:=λ(a:AV) i=>[a,iv i]) (p:=1) (s:=a) (s':=a) (λ_ _=>A) (Y:=x) f Z<|G.mono Z;clear K;refine yW (L w.ac) (λk a x=>GL w x a<|256+k*4369) (s0:=a) (G.mono Z) ?_;rintro kc a x P G;obtain⟨_,_,K,_⟩:=id G;have t:aX bH 1 x [(0,iv kc)]=V (.l ([(kc:Int)].map ci) U U,x):=iz;simp only[qz 97,au,gt1,eT,K,r15,t,↓uL];constructor<;>intro h;have f:=aL h;obtain⟨j,u,T,C,W,E,q6⟩:=id G;simp only[qz 6,qy 8,↓uL];refine jH A (bpa B 3 (p:= .l ([(kc:Int)].map ci) U U) (path:=[(kc:Int)]) (a:= .l [] U U) (out:=[]) A O bt2 u (.inl ⟨_,_,A⟩) aBY (.inl ⟨A,A⟩) aBY (by intro c hc;simp at hc)<|by simp[cyB]) ?_;rintro r y ⟨o,g,ig,F,hC,am⟩;have F':Fx x y []:=F;have:L o<=4369:=am;refine⟨F.len,?_⟩;have Gy:GL w y a (256+kc*4369):=⟨j,F.len.trans u,F'.kq T,C.fx F' O,W,E,q6⟩;refine yW (L o) (λk a z=>GL w z a (256+kc*4369+k)/\J7 z 25 1 r (o.map cl)) (s0:=a) ⟨Gy,g⟩ ?_;rintro kd a z al ⟨G,gz⟩;obtain⟨j,u,T,C,W,E,q6⟩:=id G;simp only[qz 133,qy 10,au,gt1,eQ,gz.ln,bJ,↓uL];constructor<;>intro n;have e:=aL n;have ak:=hC _<|dB e;have ah:L (gd o kd)<=4:=(by grind [bjC,Ds]);refine SlR.ix1 (.of gz) (i:=kd) (c:=sl ci<|gd o kd) (by rw[ve,eC e,aNV e];rfl) λ_ _=>?_;have ag:bM bu2 anY [(0,iv 2),(5,sl ci<|gd o kd)]=V (.a (Ds<|gd o kd).c):=A;have t:aX bwN 1 z [(0, .a (Ds<|gd o kd).c)]=V (.l [cJ.c<|Ds<|gd o kd] U U,z):=ua A rfl rfl H (by simp[cJ.c,eN,sl]) H;simp only[ag,t,aY,bQ,↓uL];refine apQ C u bnm (by simp[cJ.c]) O NA λa' z2 g2 F2 P2=>?_;simp only[qz 12,au,gt1,eQ,↓uL];have:∀{q:Id},q.1≠13->q.1≠57->q∉aA a:=X;refine dR (mk:=λ(a:AV) i=>[a,iv i]) (p:=1) (s:=a) (s':=a') (λ_ _=>A) (Y:=z) e Z ⟨⟨j++[Ds<|gd o kd],F2.len.trans u,bsq,bvb,X,λx hx=>?_,NA⟩,by grind [J7.fx]⟩;obtain h|h:=dF.1 hx;exact E x h;obtain rfl:=cE.1 h;exact⟨ak,ah⟩;exact dR (mk:=λ(a:AV) i=>[a,iv i]) (p:=1) (s:=a) (s':=a) (λ_ _=>A) (Y:=x) f Z<|G.mono Z;clear K t;refine yW (L w.ac) (λk a x=>GL w x a<|71000+k*16) (s0:=a) (G.mono Z) ?_;rintro m a x M G;simp only[qz 169,au,gt1,eQ,↓uL];constructor<;>intro h;have f:=aL h;refine yW (L w.ac) (λk a x=>GL w x a<|71000+m*16+k) (s0:=a) G ?_;rintro D a y N G;obtain⟨_,_,y1,_⟩:=id G;simp only[qz 199,au,gt1,eT,y1,r15,b2 (c:=0) (d:=0),↓uL];constructor<;>intro n;have e:=aL n;refine GL.putG B G Z O λr z v=>?_;simp only[qz 14,au,gt1,eQ,↓uL];exact dR (mk:=λ(a:AV) i=>[a,iv i]) (p:=1) (s:=a) (s':=r) (λ_ _=>A) (Y:=y) e Z<|v.mono Z;exact dR (mk:=λ(a:AV) i=>[a,iv i]) (p:=1) (s:=a) (s':=a) (λ_ _=>A) (Y:=x) f Z<|G.mono Z;refine yW (L w.ac) (λk a x=>GL w x a<|72000+k*6000) (s0:=a) (G.mono Z) ?_;rintro m a x M G;simp only[qz 235,au,gt1,eQ,↓uL];constructor<;>intro h;have f:=aL h;rw[fX Z];refine AI (α:=AV) (λa i=>[a,iv i]) 1 (L w.ac) (m+1) f (λk a x=>GL w x a<|72000+m*6000+k*350) (s0:=a) (G.mono Z) ?_;rintro D a y N G;obtain⟨_,_,y1,_⟩:=id G;simp only[qz 265,au,gt1,eQ,↓uL];constructor<;>intro n;have e:=aL n;simp+contextual only[di,qz 287,au,gt1,gj,y1,bEL,bh,dJ f,dJ e,FA,↓uL];constructor<;>intro h3;simp only[qz 285,au,gt1,eQ,↓uL];exact dR (mk:=λ(a:AV) i=>[a,iv i]) (p:=1) (s:=a) (s':=a) (λ_ _=>A) (Y:=y) e Z<|G.mono Z;refine yW (L w.ac) (λk a x=>GL w x a<|72000+m*6000+D*350+k*17) (s0:=a) (G.mono Z) ?_;rintro kc a z P G;simp only[qz 307,au,gt1,eQ,↓uL];constructor<;>intro h4;have R:=aL h4;refine AI (α:=AV) (λa i=>[a,iv i]) 1 (L w.ac) kc P (λk a x=>GL w x a<|72000+m*6000+D*350+kc*17+k) (s0:=a) (G.mono Z) ?_;rintro kd a z2 al G;obtain⟨_,_,z1,_⟩:=id G;simp only[qz 337,au,gt1,eT,z1,r15,b4,↓uL];constructor<;>intro h5;have S:=aL h5;refine GL.putG B G Z O λr z v=>?_;simp only[qz 16,au,gt1,eQ,↓uL];exact dR (mk:=λ(a:AV) i=>[a,iv i]) (p:=1) (s:=a) (s':=r) (λ_ _=>A) (Y:=z2) S Z<|v.mono Z;exact dR (mk:=λ(a:AV) i=>[a,iv i]) (p:=1) (s:=a) (s':=a) (λ_ _=>A) (Y:=z) R Z<|G.mono Z;simp only[qz 285,au,gt1,eQ,↓uL];exact dR (mk:=λ(a:AV) i=>[a,iv i]) (p:=1) (s:=a) (s':=a) (λ_ _=>A) (Y:=y) e Z<|G.mono Z;exact dR (mk:=λ(a:AV) i=>[a,iv i]) (p:=1) (s:=a) (s':=a) (λ_ _=>A) (Y:=x) f Z<|G.mono Z;obtain⟨j,u,T,C,W,E,q6⟩:=G;refine aOv (v':=sl cJ.c j) (aWs C) A ?_;grind
def bjb:FT:=om bjZ
def boE:=aUy bjb bjZ
def bny:dO:=(24,bjb)::bnx
def bpN:eJ bny:=asq (rj bjZ)<|bnv
def boN:=ai @boE<|@bEL
def bAh{a a1}:=y0 bpN func41 a9u [a,a1]
def bAp{c0 a1}:=y1 45 15 2 bpN func37 auF c0 [.a c0,a1]
def byM:=I9 11 [(4,([7,11],[0,1,2,10])),(7,([7],[0,1,2,10,11]))]
def bAm{a a1 b}:=y0 bpN func42 byM [a,a1,b]
def byL:=I9 14 [(6,([13],[0,1,12]))]
def bAk{a a1}:=y0 bpN func11 byL [a,a1]
def brQ(lt:Int->Int->Bool)(x:Int):eu->eu->eu|[],q=>x::q|y::a,q=>if lt x y=U then brQ lt x a (y::q) else(y::a).reverse++x::q
def bjz(lt:Int->Int->Bool):eu->eu->eu|acc,[]=>acc|acc,x::l=>bjz lt (brQ lt x acc.reverse []) l
structure bv3(lt:Int->Int->Bool):Prop where
 tr:∀{a b c},lt a b=U->lt b c=U->lt a c=U
 tot:∀{a b},a≠b->lt a b=I->lt b a=U
 irr:∀{a},lt a a=I
def Asc(lt:Int->Int->Bool)(l:eu):Prop:=l.Pairwise λa b=>lt a b=U
theorem bwl{lt x}:∀{a q z},z∈brQ lt x a q↔z=x\/z∈a\/z∈q:=by intro a;induction a with|nil=>grind [brQ]|cons y a b=>grind [brQ]
def bzq{lt}(o:bv3 lt){x}:∀{c q},Asc lt (c.reverse++q)->x∉c->(∀z∈q,lt x z=U)->Asc lt (brQ lt x c q):=by intro c;induction c with|nil=>grind [brQ,Asc]|cons y c p=>intro q h n m;simp only[brQ];simp only[List.reverse_cons,bje,RZ] at h;split;simp_all;rename_i l;have e:x≠y:=vB;have f:=o.tot e X;simp only[Asc,List.reverse_cons,bje,RZ] at h⊢;rw[RW] at h⊢;obtain⟨g,i,j⟩:=h;rw[aqX] at i;refine⟨g,?_,λa k b d=>?_⟩;simp_all;obtain rfl|d:=eW.1 d;simp_all;obtain rfl|d:=eW.1 d;exact o.tr (j a k y O) f;simp_all
def bz8{lt}(o:bv3 lt):∀{l acc},Asc lt acc->(acc++l).Nodup->Asc lt (bjz lt acc l)/\∀z,z∈bjz lt acc l↔z∈acc\/z∈l:=by intro l;induction l with|nil=>grind [bjz]|cons x l q=>intro acc h d;have p:x∉acc:=X;have n:∀z,z∈brQ lt x acc.reverse []↔z=x\/z∈acc:=(by grind [bwl]);have f:Asc lt (brQ lt x acc.reverse []):=bzq o (by simpa using h) X O;have i:(brQ lt x acc.reverse []++l).Nodup:=(by rw[List.nodup_append] at d⊢;obtain⟨j,c,k⟩:=d;rw[List.nodup_cons] at c;refine⟨f.imp λ{a b} h e=>?_,c.2,λa g b m e=>?_⟩;subst e;rw[o.irr] at h;cases h;grind);grind [bjz]
def bvn(a b:Int):Int:=if a<b then-1 else if b<a then 1 else 0
def orI:eu->Int|[]=>0|x::l=>if x=0 then orI l else x
def bvQ(q:eu)(x y:Int):Int:=orI [bvn (gd q x.toNat)<|gd q y.toNat,bvn x y]
def ltK(q:eu)(x y:Int):Bool:=Q<|bvQ q x y<0
theorem bvu{q x y}:ltK q x y=U↔gd q x.toNat<gd q y.toNat\/(gd q x.toNat=gd q y.toNat/\x<y):=by grind [ltK,bvQ,orI,bvn]
def bxs(q):bv3 (ltK q):=by refine⟨λa b=>?_,λc h=>?_,?_⟩;grind [bvu];grind [bvu];grind [bvu]
def brG(a:eu)(i t:List Bool):Nat->Int|0=> -1|k+1=>if gd i k=U/\gd t k=I/\(brG a i t k<0\/gd a k<gd a (brG a i t k).toNat) then k else brG a i t k
def bwf{a i t}:∀k,-1<=brG a i t k/\brG a i t k<k:=λk=>by induction k with|zero=>simp[brG]|succ k b=>grind [brG]
def bzb{q i t}:∀k,(brG q i t k<0->∀j,j<k->gd i j=U->gd t j=U)/\(0<=brG q i t k->∃b:Nat,brG q i t k=b/\b<k/\gd i b=U/\gd t b=I/\∀j,j<k->gd i j=U->gd t j=I->j=b\/ltK q b j=U):=λk=>by induction k with|zero=>simp[brG]|succ k l=>obtain⟨n,o⟩:=l;have p:=(bwf (a:=q) (i:=i) (t:=t) k);simp only[brG];split;rename_i c;obtain⟨d,e,m⟩:=c;refine⟨λh=>Z,λ_=>⟨k,A,Z,d,e,λj f g r=>?_⟩⟩;grind [bh,bvu];rename_i c;refine⟨λh j f g=>?_,λh=>?_⟩;grind;grind [bvu,bh]
def tb{α:Type}(f:Nat->α)(n:Nat):List α:=(aH n).map f
theorem buW{α}{f:Nat->α}{n:Nat}:L (tb f n)=n:=by simp[tb]
theorem buV{α}[Inhabited α]{f:Nat->α}{n i}(h:i<n):gd (tb f n) i=f i:=by grind [aNV,tb]
def bvU{α f g n j}{v:α}(h:∀i,i<n->(if i=j then v else f i)=g i):(tb f n).set j v=tb g n:=biF (by simp[tb]) λi a b=>by grind [tb]
def bwD{α}{z:α}{n}:er n z=tb (λ_=>z) n:=biF (by simp[tb]) λi a b=>by simp[tb]
def bzc{q E:eu}{n m:Nat}(T:E.Nodup)(M:∀x∈E,0<=x/\x<n):brG q (tb (λe=>Q<|(e:Int)∈E) n) (tb (λe=>Q<|(e:Int)∈(bjz (ltK q) [] E).take m) n) n=if m<L (bjz (ltK q) [] E) then gd (bjz (ltK q) [] E) m else-1:=by obtain⟨u,f⟩:=bz8 (bxs q) (l:=E) (acc:=[]) (by simp[Asc]) X;simp only[ql,false_or] at f;generalize bjz (ltK q) [] E=S at*;have o:=bxs q;have P:S.Nodup:=u.imp λ{a b} h e=>(by subst e;rw[o.irr] at h;cases h);obtain⟨R,K⟩:=bzb (q:=q) (i:=tb (λe=>Q<|(e:Int)∈E) n) (t:=tb (λe=>Q<|(e:Int)∈S.take m) n) n;have hl:=bwf (a:=q) (i:=tb (λe=>Q<|(e:Int)∈E) n) (t:=tb (λe=>Q<|(e:Int)∈S.take m) n) n;split;rename_i d;have g0:=aNV d;have s:=dB d;have gE:=(f _).1 s;have F:=M _ gE;have G:gd S m∉S.take m:=(λh=>by obtain⟨i,W,e⟩:=ou h;grind [GN]);obtain⟨g,j⟩:∃g:Nat,gd S m=g:=⟨(gd S m).toNat,Z⟩;rw[j] at s gE F G⊢;have v:g<n:=Z;obtain N|k:=Int.lt_or_le (brG q (tb (λe=>Q<|(e:Int)∈E) n) (tb (λe=>Q<|(e:Int)∈S.take m) n) n) 0;grind [buV];obtain⟨b,e,y,p,r,z⟩:=K k;rw[e];rw[buV y] at p r;have B:=aNQ p;have C:=bsX r;obtain e|h:=z g v (by grind [buV]) (by grind [buV]);rw[e];exfalso;have bS:=(f _).2 B;rw[<-aq0 m S] at bS;obtain c|c:=dF.1 bS;exact C c;rw[Cw d,<-g0,j] at c;obtain D|c:=eW.1 c;rw[D,o.irr] at h;cases h;have w:=u;rw[<-aq0 m S,Cw d,<-g0,j] at w;have:=(aqX.1 (RW.1 w).2.1).1 _ c;have:=o.tr h this;rw[o.irr] at this;cases this;rename_i d;rw[oB Z] at*;grind
def exI(ns:List aH8)(p:List Bool)(i:Nat):Bool:=gd p i&&Q ((gd ns i).kind=2)
def exL(ns:List aH8)(p:List Bool)(k:Nat):eu:=((aH k).filter<|exI ns p).map λi=>(gd ns i).a
def wkI(ns:List aH8)(p:List Bool)(e:Int)(i:Nat):Bool:=gd p i&&(Q ((gd ns i).kind=5)&&Q ((gd ns i).a=e))
def wkF(ns:List aH8)(p:List Bool)(k:Nat)(e:Int):Option Nat:=(aH k).find?<|wkI ns p e
def bta(w:am)(b:Int):Int:=if b<0 then-1-b else(gd w.ac b.toNat).aq
def brN(w:am)(ns:List aH8)(p:List Bool)(k:Nat)(e:Int):Int:=
 if(gd w.ac e.toNat).kind=18 then(match wkF ns p k e with|some i=>bta w (gd ns i).b|none=> -1) else-1
def bsr(w:am)(ns:List aH8)(p:List Bool)(e:Int):ot:=⟨(gd w.ac e.toNat).aq,brN w ns p (L ns) e⟩
def bsw(ns:List aH8)(p:List Bool)(q:eu):eu:=bjz (ltK q) []<|exL ns p<|L ns
def btw(w:am)(p:List Bool)(q:eu):List ot:=(bsw (m8 w) p q).map<|bsr w (m8 w) p
def bxe{ns p k}:exL ns p (k+1)=exL ns p k++if exI ns p k=U then[(gd ns k).a] else[]:=by grind [exL,qn]
theorem byh{ns p k e}:wkF ns p (k+1) e=match wkF ns p k e with|some i=>V i|none=>if wkI ns p e k=U then V k else J:=by grind [wkF,qn]
structure buF(w:am)(ns:List aH8):Prop where
 ex:∀i,i<L ns->(gd ns i).kind=2->aF (L w.ac) (gd ns i).a
 wk:∀i,i<L ns->(gd ns i).kind=5->aF (L w.ac) (gd ns i).a/\ -1000<=(gd ns i).b/\(0<=(gd ns i).b->aF (L w.ac) (gd ns i).b)/\0<=bta w (gd ns i).b
 dj:∀i j,i<j->j<L ns->(gd ns i).kind=2->(gd ns j).kind=2->(gd ns i).a≠(gd ns j).a
def bwd{w ns p}(N:buF w ns){k:Nat}(e:k<=L ns):∀x∈exL ns p k,aF (L w.ac) x:=λx c=>by obtain⟨i,b,rfl⟩:=dN.1 c;obtain⟨d,a⟩:=jW.1 b;simp only[exI,bN,awG] at a;grind [buF.ex]
def bxd{w ns p}(N:buF w ns){k:Nat}(l:k<=L ns):(exL ns p k).Nodup:=by unfold exL List.Nodup;rw[List.pairwise_map];have h:((aH k).filter<|exI ns p).Pairwise (·<·):=List.Pairwise.filter _ List.pairwise_lt_range;refine h.imp_of_mem λ{a b} e f g=>?_;obtain⟨i,c⟩:=jW.1 e;obtain⟨j,d⟩:=jW.1 f;simp only[exI,bN,awG] at c d;grind [buF.dj]
def bAu{ns p k i e}(h:wkF ns p k e=V i):i<k/\wkI ns p e i=U:=⟨fq.1<|List.mem_of_find?_eq_some h,List.find?_some h⟩
def bAr{w ns p e}:brN w ns p 0 e= -1:=by unfold brN;split<;>rfl
def bAt{w ns p}(N:buF w ns){k:Nat}(g:k<L ns){e:Int}:brN w ns p (k+1) e=if wkI ns p e k=U/\(gd w.ac e.toNat).kind=18/\brN w ns p k e<0 then bta w (gd ns k).b else brN w ns p k e:=by unfold brN;by_cases a:(gd w.ac e.toNat).kind=18;simp only[zg a];rw[byh];(cases d:wkF ns p k e with|some i=>obtain⟨f,c⟩:=bAu d;simp only[wkI,bN,awG] at c;have:=(N.wk i Z c.2.1).2.2.2;grind|none=>grind);omega
theorem bxE{ns p q}{x:Int}:x∈bsw ns p q↔x∈exL ns p (L ns):=by have:∀{l acc:eu} {z:Int},z∈bjz (ltK q) acc l↔z∈acc\/z∈l:=(by intro l;induction l with|nil=>grind [bjz]|cons x l a=>grind [bjz,bwl]);grind [bsw]
def bxB{w}(D:L w.ac<=16)(C:L w.init.eB.ay<=4)(m:∀k,k<L w.ac->aF (L w.aQ.ay) (gd w.ac k).aq):buF w (m8 w):=by have l:∀{i:Nat},i<L (m8 w)->gd (m8 w) i∈m8 w:=λh=>dB h;have n:∀{x:aH8},x∈m8 w->x.kind=2->∃a:Nat,a<L w.ac/\x=⟨2,a,0⟩:=(by grind [Qs,D5,D6,D7,ant,D8]);have u:∀{x:aH8},x∈m8 w->x.kind=5->x∈jp w (L w.ac):=(by grind [Qs,D5,D6,D7,ant]);refine⟨λi c e=>?_,λi c e=>?_,λi j v r o p=>?_⟩;grind [dJ];obtain⟨a,f,z,s,hs,h⟩:=D8.1<|u (l c) e;rw[h];obtain d|d:=dF.1 hs;obtain⟨t,y,rfl⟩:=dN.1 d;grind [yH,dJ,bta];obtain⟨i,c,B,rfl⟩:=yH d;refine⟨dJ f,O,λ_=>dJ c,?_⟩;unfold bta;rw[za O];simp only[bh];exact(m i c).1;intro g;obtain⟨a,_,f⟩:=n X o;obtain⟨b,_,q⟩:=n (l r) p;rw[f,q] at g;have:(a:Int)=b:=g;have:gd (m8 w) i=gd (m8 w) j:=vB;grind [aNV,GN,aEm]
def bxm(a b):Ct 41 [iv a,iv b] (·=iv (bvn a b)):=bAh λs0 e d=>by have c:bc4 .gtr 0 [] (iv a) (iv b)=V (bv<|Q<|b<a):=A;simp+contextual only[hZ,boN,c,aY,eE,mb,↓uL];grind [bvn]
def byz:FT:=bsk bxm
def bEs{p:Prop}(h:p:=by simp+contextual only[lT]):p:=h
def bzJ:=f200 byz bxm (j:=bEs)
def bxr(w)(b:Int)(e: -1000<=b/\(0<=b->aF (L w.ac) b)):Ct 37 [.a w.c,iv b] (·=iv (bta w b)):=by obtain⟨g,h⟩:=e;refine bAp A λj i d f=>?_;simp+contextual only[gj,d,↓uL];grind [bta,eM]
def byD:FT:=aIc bxr
def bzQ:=gX byD bxr (j:=bEs)
def bxo(a)(i t)(o:L i=L a/\L t=L a/\L a<1000000):Ct 42 [sl ci a,sl cb i,sl cb t] (·=iv (brG a i t<|L a)):=by
 obtain⟨r,u,v⟩:=o
 refine bAm λs0 w q=>?_
 simp only[eQ,↓uL]
 refine yh (λs:Int×Nat=>[iv s.1,iv s.2]) 1 (L a) (λs=>s.1=brG a i t s.2/\s.2<=L a) (-1,0) ⟨A,mh _⟩ ?_
 rintro⟨z,k⟩ ⟨p,n⟩
 simp only at p n
 simp only[qz 45,qz 47,qz 25,bh0,au,gt1,eQ,↓uL]
 refine⟨λh=>?_,λh=>?_⟩
 ·have g:=aL h
  have:=bwf (a:=a) (i:=i) (t:=t) k
  have:∀d:Int,d=brG a i t (k+1)->tI (λs:Int×Nat=>[iv s.1,iv s.2]) (λs=>s.1=brG a i t s.2/\s.2<=L a) [iv d,iv<|dq.wrap<|(k:Int)+1]/\pM 1 (L a) [iv d,iv<|dq.wrap<|(k:Int)+1]<pM 1 (L a) [iv z,iv k]:=λd e=>
   wN (enc:=λs:Int×Nat=>[iv s.1,iv s.2]) (s:=(z,k)) (s':=(d,k+1)) (i:=k) (by grind [fX]) A rfl g ⟨e,Z⟩
  have b:aF (L i) (k:Int):=dJ Z
  have c:aF (L t) (k:Int):=dJ Z
  rcases f:gd i k with _|_
  ·simp only[ix,rk,eQ,f,bh,b,Cq,↓jN,a7i,Bc,↓iB,↓uL]
   grind [brG]
  rcases l:gd t k with _|_
  ·rcases j:Q (z<0) with _|_
   ·have m:aF (L a) z:=⟨by simpa using j,Z⟩
    simp only[ix,rk,eQ,f,l,j,bh,b,c,m,dJ g,Cq,↓jA,↓jN,qE,a7i,a5C,↓uL]
    grind [brG]
   ·simp only[ix,rk,eQ,f,l,j,bh,b,c,Cq,↓jA,↓jN,qE,a7i,a5C,↓uL]
    grind [brG]
  ·simp only[ix,rk,eQ,f,l,bh,b,c,Cq,↓jA,↓jN,qE,a7i,a5C,↓uL]
   grind [brG]
 grind
def byB:FT:=qe bxo
def bzO:=sT byB bxo (j:=bEs)
def bxn(a)(h:L a<4611686018427387904):Ct 11 [sl ot.c a,sl ot.c a] (·=bv U):=bAk λs0 g e=>by have b:∀x:ot,bc4 .neq 2 [(0,0),(1,0)] (.a x.c) (.a x.c)=V (bv I):=λx=>(by simp[bc4,nW,ot.c,sS]);have d:∀{x:ot},aN (V 2) x.c=V (.a x.c):=λ{x}=>A;simp+contextual only[jZ,FA,↓uL];refine⟨O,λ_=>?_⟩;refine bid (L a) (λ_=>True) trivial λk f _=>?_;simp+contextual only[qz 37,gg,boW,oe,d,b,bh,FA,nJ,↓uL];grind [dJ,bkg]
def byA:FT:=mT bxn
def bzN:=oK byA bxn (j:=bEs)
def bx8:dO:=(41,byz)::(37,byD)::(42,byB)::(11,byA)::bny
def bxU:eJ bx8:=asq (nI bxm)<|asq (aCb bxr)<|asq (tE bxo)<|asq (pg bxn)<|bpN
def bBF:=ai @bzJ<|ai @bzQ<|ai @bzO<|ai @bzN<|@boN
def byJ:=I9 12 [(4,([8],[3,6,7]))]
def bAi{a}:=y0 bxU func40 byJ [a]
theorem bxC:∀{l} {k:Nat},k<L l->(∀j,j<k->gd l j=0)->gd l k≠0->orI l=gd l k
 |[],k,h,_,_=>by simp at h
 |x::l,0,_,_,h=>by grind [gd,orI]
 |x::l,k+1,h,c,d=>by
  have b:x=0:=by simpa[gd] using c 0 Z
  have a:∀j,gd (x::l) (j+1)=gd l j:=λj=>by simp[gd]
  rw[orI,zg b,bxC (l:=l) (k:=k) (by simpa using h) X (by rwa [<-a]),a]
theorem bxD:∀{l},(∀j,j<L l->gd l j=0)->orI l=0
 |[],_=>rfl
 |x::l,h=>by
  have a:x=0:=by simpa[gd] using h 0 O
  rw[orI,zg a]
  exact bxD λj b=>by have:=h (j+1) (by simpa using b);grind [gd]
def bwm(l)(f:L l<4611686018427387904):Ct 40 [sl ci l] (·=iv (orI l)):=bAi λs0 e a=>by simp+contextual only[eQ,↓uL];refine bid (L l) (λk=>∀j,j<k->gd l j=0) O λk d c=>?_;simp+contextual only[qz 25,gJ,bh,↓uL];refine⟨λh=>⟨vp h,λb=>?_,by grind [bkg]⟩,λh=>?_⟩;grind [bxC];grind [bxD]
def bwU:FT:=mT bwm
def by8:=oK bwU bwm
def bx9:dO:=(40,bwU)::bx8
def bxV:eJ bx9:=asq (pg bwm)<|bxU
def bwh:=ai @by8<|@bBF
def bAo{a a1 b}:=yB bxV func39 at1 [a,a1,b]
def bzB{Y b e p q}{x y:Int}(f:box Y b=V ⟨e,2,U,U,[[sl cb p,sl ci q]]⟩)(g:L Y=4096)(h:aF (L q) x)(i:aF (L q) y):∃c d,(c=iv (bvQ q x y)/\Fx Y d [])/\cZ aS GG 39 [iv x,iv y, .p b 0 0] Y c d:=bAo g<|by have j:∀{x:dM} {y:AV},aN J (y::x)=V y:=λ{x y}=>(by cases y<;>rfl);have k:∀{a b:AV},[a,b].drop 1=[b]:=A;simp only[qy 2,gj,f,j,k,bwh,↓uL];refine⟨h,i,?_⟩;simp only[fi,hZ,bwh,aRf,aoz,↓uL];exact⟨O,A,Fx.refl _ _⟩
def by1{Y}{d:Nat}{K b e p q}{x y:Int}(c:box Y b=V ⟨e,2,U,U,[[sl cb p,sl ci q]]⟩)(g:L Y=4096)(h:aF (L q) x)(i:aF (L q) y)(a:K (iv<|bvQ q x y) Y):cF (.f 39 [] [.p b 0 0]) [iv x,iv y] Y d K:=by simp only[cF,btX];rw[za (show¬GG.nw 39=U by decide),zg<|show GG.imp 39=U by decide];exact(aS2 A (bzB c g h i) a:cB 39 [iv x,iv y, .p b 0 0] Y d K)
def bya:dO:=bx9
def bxW:eJ bya:=bxV
def bzf:=@bwh
def byO:=I9 10 [(1,([8],[0,1,2,3])),(6,([9],[0,1,2,3,8]))]
def byf{a a1 b c}:=yB bxW func172 byO [a,a1,b,c]
theorem bzr{lt}{x:Int}:∀{a q},L (brQ lt x a q)=L a+L q+1:=by intro a;induction a with|nil=>grind [brQ]|cons y a b=>grind [brQ]
theorem bvy{lt}:∀{l acc},L (bjz lt acc l)=L acc+L l:=by intro l;induction l with|nil=>grind [bjz]|cons x l a=>grind [bjz,bzr]
def bz9{lt x}:∀{l acc},bjz lt acc (l++[x])=brQ lt x (bjz lt acc l).reverse []:=by intro l;induction l with|nil=>grind [bjz]|cons y l a=>grind [bjz]
def bAb{lt l}{i:Nat}(h:i<L l):bjz lt [] (l.take<|i+1)=brQ lt (gd l i) (bjz lt []<|l.take i).reverse []:=by rw[iJ h,bz9,aNV h]
theorem bAa{lt}:∀{l acc z},z∈bjz lt acc l↔z∈acc\/z∈l:=by intro l;induction l with|nil=>grind [bjz]|cons x l a=>grind [bjz,bwl]
def bzD{Y b c e p q l}(hb:box Y b=V ⟨3,1,U,I,l.map ci⟩)(hm:box Y c=V ⟨e,2,U,U,[[sl cb p,sl ci q]]⟩)(r:∀x∈l,aF (L q) x)(hn:L l<=12)(h0:0<L l)(P:L Y=4096):
  ∃C n,(C= .t []/\box n b=V ⟨3,1,U,I,(bjz (ltK q) [] l).map ci⟩/\Fx Y n [b])/\cZ aS GG 172 [.m b<|L l,iv 0,iv<|L l, .f 39 [] [.p c 0 0]] Y C n:=by
 have M:c≠b:=X
 refine byf P ?_
 simp only[cS,aY,↓uL]
 rw[show dq.wrap (0+1)=((1:Nat):Int) from A]
 refine AI (α:=Unit) (λ_ i=>[iv i]) 0 (L l) 1 Z (λi _ Y'=>1<=i/\box Y' b=V ⟨3,1,U,I,(bjz (ltK q) [] (l.take i)++l.drop i).map ci⟩/\Fx Y Y' [b]) (s0:=()) ⟨Z,?_,Fx.refl _ _⟩ ?_
 ·have:bjz (ltK q) [] (l.take 1)++l.drop 1=l:=by
   cases l with
   |nil=>simp at h0
   |cons x l=>simp[bjz,brQ]
  simp_all
 rintro i _ n hi ⟨ap,b1,F1⟩
 simp only[qz 6,qz 4,qz 37,qz 7,au,eQ,↓uL]
 refine⟨λh=>?_,λh=>?_⟩
 ·have u:=aL h
  have o:L (bjz (ltK q) []<|l.take i)=i:=by grind [bvy]
  have an:∀z∈bjz (ltK q) [] (l.take i),z∈l:=(by grind [bAa])
  have W:=dB u
  have ad:l.drop i=gd l i::l.drop (i+1):=by grind [aNV,Cw]
  have ac:=bAb (lt:=ltK q) u
  generalize bjz (ltK q) [] (l.take i)=acc at*
  have nx:∀k,box k b=V ⟨3,1,U,I,(brQ (ltK q) (gd l i) acc.reverse []++l.drop (i+1)).map ci⟩->Fx Y k [b]->yI (λ(_:Unit) i=>[iv i]) (L l) (λi _ Y'=>1<=i/\box Y' b=V ⟨3,1,U,I,(bjz (ltK q) [] (l.take i)++l.drop i).map ci⟩/\Fx Y Y' [b]) [iv<|dq.wrap<|(i:Int)+1] k/\gM 0 (L l) [iv<|dq.wrap<|(i:Int)+1] k<gM 0 (L l) [iv i] n:=λk D F=>
   yU u vB
  have w1:∀j:Nat,0<j->j<100->dq.wrap ((j:Int)-1)=((j-1:Nat):Int):=brE
  refine⟨λvs Y'=>∃a s:eu,vs=[iv<|L a]/\box Y' b=V ⟨3,1,U,I,(a.reverse++gd l i::(s++l.drop (i+1))).map ci⟩/\L a+L s=i/\brQ (ltK q) (gd l i) a s=brQ (ltK q) (gd l i) acc.reverse []/\(∀z∈a,z∈l)/\Fx Y Y' [b],λvs _=>match gt vs 0 with| .s (.int _ i)=>i.toNat|_=>0,⟨acc.reverse,[],by simp[o],?_,by simp[o],A,vB,F1⟩,?_⟩
  ·simp_all
  rintro vs Y' ⟨a,s,rfl,d,ak,E,S,v⟩
  have g:L (a.reverse++gd l i::(s++l.drop (i+1)))=L l:=NA
  have R:=v.len.trans P
  have cj:=v.keep _ _ (by simpa using M) hm
  cases a with
  |nil=>
   have hz:Q ((0:Int)<((L ([]:eu):Nat):Int))=I:=A
   simp only[qz 37,au,eQ,hz,jN,xM,Bc,eE,im,↓uL]
   exact nx _ (by rw[<-E];simpa[brQ] using d) v
  |cons y a=>
   have N:Q ((0:Int)<((L a+1:Nat):Int))=U:=O
   have hj:L a+1<L l:=X
   have w:gd ((y::a).reverse++gd l i::(s++l.drop (i+1))) (L a+1)=gd l i:=by
    grind [aBB]
   have B:gd ((y::a).reverse++gd l i::(s++l.drop (i+1))) (L a)=y:=by
    rw[List.reverse_cons,bje]
    grind [aBB]
   simp only[qz 37,List.length_cons,au,eQ,N,jA,qE,w1 (L a+1) Z Z,Nat.add_sub_cancel,mx d<|dJ<|show L a+1<L l by omega,mx d<|dJ<|show L a<L l by omega,bh,ml d (show L a+1<_ by rw[g];omega),ml d (show L a<_ by rw[g];omega),w,B,↓uL]
   have aa:=S y O
   rw[Lg]
   refine by1 cj R (r _ W) (r _ aa) ?_
   simp only[eQ,a5C,↓uL]
   refine⟨λK=>?_,λK=>?_⟩
   ·have al:ltK q (gd l i) y=U:=K
    simp only[mx d<|dJ<|show L a+1<L l by omega,mx d<|dJ<|show L a<L l by omega,bh,ml d (show L a+1<_ by rw[g];omega),ml d (show L a<_ by rw[g];omega),w,B,aY,↓uL]
    refine Qo d (by rw[g];omega) λk F D=>?_
    simp only[qz 4,mx D<|dJ<|show L a<L l by omega,bh,↓uL]
    refine Qo D O λY3 F3 G=>?_
    simp only[qz 6,↓uL]
    refine dT A ?_
    simp only[au,eQ,w1 (L a+1) Z Z,Nat.add_sub_cancel,↓uL]
    have T:((((y::a).reverse++gd l i::(s++l.drop (i+1))).set (L a+1) y).set (L a)<|gd l i)=a.reverse++gd l i::((y::s)++l.drop (i+1)):=by
     simp
    rw[T] at G
    refine⟨⟨a,y::s,A,G,X,?_,vB,(v.trans<|F.trans F3).mono O⟩,Z⟩
    grind [brQ]
   grind [ltK,brQ]
 grind [aRf,aoz]
def bzC{Y a f}(d:L Y=4096):∃b c,(b= .t []/\c=Y)/\cZ aS GG 172 [a,iv 0,iv 0,f] Y b c:=byf d<|by simp only[cS,aY,↓uL];refine⟨λvs Y'=>vs=[iv 1]/\Y'=Y,λ_ _=>0,⟨A,A⟩,?_⟩;rintro vs Y' ⟨rfl,rfl⟩;simp only[qz 6,qz 4,qz 37,qz 7,au,eQ,↓uL];exact⟨λh=>by simp at h,bvg⟩
def byb:dO:=bya
def bxX:eJ byb:=bxW
def bzg:=@bzf
def byP:=I9 34 [(2,([1,2,3,10,11],[0,4])),(10,([3],[0,1,2,4,10,11,12])),(14,([13,14],[0,1,2,3,4,10,11,12])),(18,([],[0,1,2,3,4,10,11,12,13]))]
def byg{a a1 b c d}:=yB bxX func98 byP [a,a1,b,c,d]
section
variable{Y:ae}{lim:Int}
theorem bzF{a f}(hl:L Y=4096):∃d g,(d= .t []/\g=Y)/\cZ aS GG 98 [a,iv 0,iv 0,iv lim,f] Y d g:=byg hl<|by refine⟨λvs Y'=>vs=[iv 0,iv 0,iv lim,bv U,bv U]/\Y'=Y,λ_ _=>0,⟨A,A⟩,?_⟩;rintro vs Y' ⟨rfl,rfl⟩;have h:dq.wrap 0=0:=A;simp only[qz 6,qz 8,qz 111,qz 113,qz 87,qz 89,qz 63,qz 65,qz 13,qy 2,au,gt1,eQ,Int.sub_zero,h,show Q ((0:Int)<=12)=U from A,↓iC,↓uL];refine jH A (bzC hl) ?_;grind [aRf,aoz]
variable{b c:Id}{e:TypeId}{p:List Bool}{q l:eu}(hb:box Y b=V ⟨3,1,U,I,l.map ci⟩)(hm:box Y c=V ⟨e,2,U,U,[[sl cb p,sl ci q]]⟩)(hall:∀x∈l,aF (L q) x)(hn:L l<=12)(h0:0<L l)(hl:L Y=4096)
include hb hm hall hn h0 hl
theorem bzG:∃a d,(a= .t []/\box d b=V ⟨3,1,U,I,(bjz (ltK q) [] l).map ci⟩/\Fx Y d [b])/\cZ aS GG 98 [.m b<|L l,iv 0,iv<|L l,iv lim, .f 39 [] [.p c 0 0]] Y a d:=byg hl<|by refine⟨λvs Y'=>vs=[iv 0,iv (L l:Nat),iv lim,bv U,bv U]/\Y'=Y,λ_ _=>0,⟨A,A⟩,?_⟩;rintro vs Y' ⟨rfl,rfl⟩;have g:Q (((L l:Nat):Int)<=12)=U:=NA;simp only[qz 6,qz 8,qz 111,qz 113,qz 87,qz 89,qz 63,qz 65,qz 13,qy 2,au,gt1,eQ,Int.sub_zero,eM (x:=((L l:Nat):Int)) Z Z,g,↓iC,↓uL];refine jH A (bzD hb hm hall hn h0 hl) ?_;rintro a d ⟨rfl,i,h⟩;exact⟨h.len,bvg⟩
end
def byc:dO:=byb
def bxY:eJ byc:=bxX
def bwi:=@bzg
def bye{a a1}:=yB bxY func38 ava [a,a1]
def bxb{n:Nat}(h:n<=12):sO (V .u64) (iv (n:Int))=V (.s<|.int .u64 (n:Int)):=by show V (AV.s<|.int .u64<|IntKind.u64.wrap _)=_;grind [IntKind.wrap_u64]
section
variable{Y:ae}
theorem bxp{a f}(h:fS Y a=V (iv ((0:Nat):Int)))(hl:L Y=4096):∃d g,(d= .t []/\g=Y)/\cZ aS GG 38 [a,f] Y d g:=bye hl<|by simp only[qy 2,h,aY,bxb (show 0<=12 by omega),ar,bwi,jM,↓uL];refine⟨Z,?_⟩;rintro k ⟨i,rfl⟩;refine⟨.inl A,?_⟩;refine jH A (bzF hl) ?_;grind [aRf,aoz]
variable{b c:Id}{e:TypeId}{p:List Bool}{q l:eu}(hb:box Y b=V ⟨3,1,U,I,l.map ci⟩)(hm:box Y c=V ⟨e,2,U,U,[[sl cb p,sl ci q]]⟩)(hall:∀x∈l,aF (L q) x)(hn:L l<=12)(h0:0<L l)(hl:L Y=4096)
include hb hm hall hn h0 hl
theorem bzI:∃a d,(a= .t []/\box d b=V ⟨3,1,U,I,(bjz (ltK q) [] l).map ci⟩/\Fx Y d [b])/\cZ aS GG 38 [.m b<|L l, .f 39 [] [.p c 0 0]] Y a d:=bye hl<|by have g:fS Y (.m b<|L l)=V (iv ((L l:Nat):Int)):=(by simp[fS,hb]);simp only[qy 2,g,aY,bxb hn,ar,bwi,jM,↓uL];refine⟨Z,?_⟩;rintro k ⟨i,rfl⟩;refine⟨.inl A,?_⟩;refine jH A (bzG hb hm hall hn h0 hl) ?_;rintro a d ⟨rfl,j,h⟩;exact⟨h.len,bvg⟩
end
def bvT:dO:=byc
def bwA:eJ bvT:=bxY
def bur:=@bwi
def bw6:=I9 40 [(10,([44],[3,4,5,8,10,11,12,43])),(17,([53],[3,4,5,10,11,12,51,52])),(20,([],[3,4,5,10,11,12,51,52,53])),(24,([],[3,4,5,10,11,12,15,51,52,53])),(31,([16],[3,4,5,10,11,12]))]
def bw2 c a b d R:=(.mk _:NR bvT bw6 Tryz.f10 [.u, .u, .u] [c,a,b] d R).p
def bAl{c0:dM}{b:dM}{c:dM}{R:J3}(l0:L c0=15)(l1:L b=6)(d:L c=2)(h:H3 45 15 3 c0 48 6 4 b 53 2 5 c λf g i e=>bw2 f g i e R):Ct 10 [.a c0, .a b, .a c] R:=z3 bw6 bwA func10 l0 l1 d h
def bw7:=I9 41 [(12,([9,51],[3,4,5,10,49,50])),(15,([9],[3,4,5,10,49,50,51])),(28,([15,95],[3,4,10,93,94])),(34,([],[3,4,10,15,18,93,94,95]))]
def bw3 c a b d R:=(.mk _:NR bvT bw7 Tryz.f9 [.u, .u, .u] [c,a,b] d R).p
def bAn{c0:dM}{b:dM}{c:dM}{R:J3}(l0:L c0=15)(l1:L b=6)(d:L c=2)(h:H3 45 15 3 c0 48 6 4 b 53 2 5 c λf g i e=>bw3 f g i e R):Ct 9 [.a c0, .a b, .a c] R:=z3 bw7 bwA func9 l0 l1 d h
end Go.Ab
