/- Part of the proof of EncodeRecorded. -/
import Derived.Test.YtcceijpmabdflaaGreatDoorC
set_option linter.all false
set_option maxRecDepth 100000
open And renaming intro->ai
open Bool renaming and_eq_true->bN,and_false->bsm,eq_false_or_eq_true->sq,false->I,false_and->kM,false_eq_true->eE,false_or->lG,not_eq_false'->fK,not_eq_true'->eH,not_true->fh,or_eq_false_iff->cP,or_eq_true->fH,or_false->kz,true->U,true_and->iw,true_eq_false->sr
open Decidable renaming decide->Q,not_not->aNS
open Eq renaming mpr->aND
open Go.Code renaming region->BM,ret->ET
open Go.IntKind renaming i64->dq
open Go.Proofs.Tryz renaming prog->aS
open Int renaming toNat_natCast->bh,toNat_of_nonneg->kA
open List renaming Pairwise->Cr,append_assoc->bje,append_nil->cL,cons_append->zn,drop->aOz,drop_eq_getElem_cons->Cw,drop_succ_cons->nM,drop_zero->J3,ext_getElem->biF,filter_append->me,filter_eq_nil_iff->RK,filter_eq_self->GA,flatMap_cons->Cz,getD_eq_getElem?_getD->eI,getElem?_append_right->xf,getElem?_eq_getElem->eC,getElem?_map->bj9,getElem?_set_ne->oq,getElem_of_mem->ou,length->L,length_append->a6G,length_cons->bZ,length_drop->oz,length_filter_le->fZ,length_map->bJ,length_nil->aO1,length_pos_iff->aqS,length_range->bnJ,length_replicate->oA,length_set->zq,length_singleton->GJ,length_take->gC,map_append->dg,map_congr_left->ja,map_cons->ji,map_flatMap->RT,map_id->brw,map_map->vA,map_nil->mU,map_set->vB,mem_append->dF,mem_cons->eW,mem_filter->jW,mem_flatMap->iI,mem_iff_getElem->RU,mem_map->dN,mem_range->fq,mem_singleton->cE,nil_append->dW,nodup_append->xl,nodup_range->GM,not_mem_nil->ql,pairwise_iff_getElem->GN,range->aH,range_succ->qn,replicate->er,set_append_right->CD,set_cons_zero->RY,take_length->gV,take_of_length_le->oB,take_succ_eq_append_getElem->iJ
open Nat renaming eq_zero_or_pos->oD,le_antisymm->bP,le_of_lt->aYB,le_refl->dA,le_trans->gl,lt_of_le_of_lt->rC,lt_of_lt_of_le->bkb,lt_or_ge->jj,min_eq_left->rD,mul_le_mul->xn,reduceAdd->dc,sub_self->tM,zero_add->aj,zero_le->mh
open Option renaming bind_some->aQd,getD_some->mi,isSome_iff_exists->zz,map_some->df,none->J,some->V,some.injEq->bE
namespace Go.Ab
open Go Go.RowKit Go.Proofs
def aD7{t:TypeId}{Y:ae}{d:Nat}{K:be}(a:d<L Y)(c:∀Y',Fr Y Y' [d]->box Y' (d,(aZ Y d).I6+1)=V ⟨t,0,U,U,[[]]⟩->K (.g 0 (d,(aZ Y d).I6+1) 0 0) Y'):eV (oS t Y d) K:=by have b:oS t Y d=V (.g 0 (d,(aZ Y d).I6+1) 0 0,put Y d ⟨t,0,U,U,[[]]⟩):=(by simp[oS,aRI,a,zt]);rw[b];exact c _ ⟨D3,λk f=>yk<|λe=>f<|by simp[e]⟩<|zQ a rfl
abbrev yG(l:List ByteArray):List (Value×Value):=l.map λn=>(.string n, .bool U)
theorem av7{a b:ByteArray}(h:a≠b):(a==b)=I:=by obtain⟨a⟩:=a;obtain⟨b⟩:=b;have:a≠b:=λe=>h (by rw[e]);show(a==b)=I;simp_all
def KU{s:ByteArray}:∀{l:List ByteArray} {i:Nat},s∉l->lg ⟨I,[], .bool I⟩ (.string s) (yG l) i=V J
 |[],_,_=>rfl
 |x::l,i,h=>by
  have a:(s==x)=I:=(by grind [av7])
  simp only[yG,ji,lg,pO,a]
  exact KU (by simp_all)
def aDr{Y:ae}{b:Id}{t:TypeId}{s:ByteArray}{l:List ByteArray}{o n:Nat}(a:box Y b=V ⟨t,0,U,U,[(yG l).map ent]⟩)(h:s∉l):oP ⟨I,[], .bool I⟩ Y (.g 0 b o n) (st s) I=V (bv I):=by simp only[oP,ww,a,aQd,ul,aOe,aPI,KG,qR,KU h,eE,brW]
def aEb{Y:ae}{b:Id}{t:TypeId}{s:ByteArray}{l:List ByteArray}{o n:Nat}{K:ae->Prop}(a:box Y b=V ⟨t,0,U,U,[(yG l).map ent]⟩)(h:s∉l)(c:∀Y',Fr Y Y' [b.1]->box Y' b=V ⟨t,0,U,U,[(yG<|l++[s]).map ent]⟩->K Y'):sV (muA ⟨I,[], .bool I⟩ Y (.g 0 b o n) (st s)<|bv U) K:=by simp only[muA,ww,a,ul,aOe,aPI,KG,qR,KU h];refine c _ ⟨uC,λk d=>wy<|λe=>d<|by simp[e]⟩ ?_;rw[lO a];simp
def aBJ{Y:ae}{ds:List Nat}{e:TypeId}{a:AV}{l:List ByteArray}{k:Nat}{K:j4}(b:Gr Y ds e 1 a<|l.map cs)(g:k<L l):(rV (cz 1 Y a<|iv k) λt=>rV (vp J Y t) K)=K (st<|gd l k):=by rcases b with⟨c,_⟩|⟨d,v,rfl,_,f⟩;simp_all;simp_all [cz,rV,vp,iE,aN,bT]
def avR{l:List ByteArray}{s:ByteArray}(h:¬0<=tX l s):s∉l:=by grind [decide,List.findIdx?_isSome,List.any_eq_true,zz,tX]
def wB(w:J9)(vs:List ByteArray):List ByteArray:=vs++w.ak.map (·.name)++w.bC.map (·.name)++w.bU++w.ay
def NJ(w:J9)(vs:List ByteArray)(hp:(∀j,j<L (wB w vs)->yn (wB w vs) j=I)/\L (wB w vs)<=100):Ct 144 [.a w.c,sl cs vs] (·=bv U):=by refine aJZ rfl λs2 Z P h0=>?_;obtain⟨X,ag⟩:=hp;have ab:L vs+L w.ak+L w.bC+L w.bU+L w.ay<=100:=(by grind [wB,a6G,bJ]);simp only[aYH];refine fP (bA:=[]) (ds:=[15,27,40,45,49]) (new:=vs.map cs) Gr.nil rfl (by decide) (by decide) (by omega) (by simp) oX (by simp;omega) λa0 N g0 z=>?_;have c0:box N (2,1)=_:=z.bt P;simp only[qz 4,u0,u1,c0,rk,aj];refine iu (λa i=>[a,iv i]) 1 [15,27,40,45,49] [15,27,40,45,49,7] 9 1 (L w.ak) (λk=>(vs++(w.ak.take k).map (·.name)).map cs) (λ_=>True) trivial (by grind) λk a1 C ad _ g1 m=>?_;have F:box C (2,1)=_:=m.bt c0;have l1:L C=4096:=(by rw[m.1,z.1,Z]);simp only[qz 31,qy 6,aI,u0,u1,F,rk,aj,ix,bh];refine⟨λt=>⟨u7 t,?_⟩,λt=>?_⟩;refine eF rfl rfl (by decide) (by omega) λo d R=>?_;simp only[qz 8,qy 10,u0,u1,R,rk,aj,iz];refine fP (g1.fr d<|by decide) rfl (by decide) (by decide) (by rw[d.1,l1];decide) oX (by simp) (by simp;omega) λO p H b=>?_;simp only[qz 12,ck,cS,aY];refine bcW (mk:=λa i=>[a,iv i]) (λ_ _=>rfl) (aL t) (by omega) trivial ?_ (m.trans<|(d.mono<|by decide).trans<|b.mono<|by decide);grind [Ez,aL];obtain rfl:k=L w.ak:=(by grind);rw[gV] at g1;refine iu (λa i=>[a,iv i]) 1 [15,27,40,45,49] [15,27,40,45,49,9] 9 1 (L w.bC) (λk=>(vs++w.ak.map (·.name)++(w.bC.take k).map (·.name)).map cs) (λ_=>True) trivial (by grind) λk a2 o ae _ s d=>?_;have G:box o (2,1)=_:=d.bt F;have y:L o=4096:=(by rw[d.1,l1]);simp only[qz 73,qy 14,aI,u0,u1,G,rk,aj,ix,bh];refine⟨λu=>⟨u7 u,?_⟩,λu=>?_⟩;refine eF rfl rfl (by decide) (by omega) λp b S=>?_;simp only[qz 16,qy 18,u0,u1,S,rk,aj,iz];refine fP (s.fr b<|by decide) rfl (by decide) (by decide) (by rw[b.1,y];decide) oX (by simp) (by simp;omega) λD q K n=>?_;simp only[qz 20,ck,cS,aY];refine bcW (mk:=λa i=>[a,iv i]) (λ_ _=>rfl) (aL u) (by omega) trivial ?_ (d.trans<|(b.mono<|by decide).trans<|n.mono<|by decide);grind [Ez,aL];obtain rfl:k=L w.bC:=(by grind);rw[gV] at s;refine fP (new:=w.bU.map cs) s rfl (by decide) (by decide) (by omega) oX oX (by simp;omega) λO p H b=>?_;have T:box p (2,1)=_:=b.bt G;simp only[qz 22,qy 24,u0,u1,T,rk,aj];refine fP (new:=w.ay.map cs) H rfl (by decide) (by decide) (by rw[b.1,y];decide) (by grind) oX (by simp;omega) λD q K n=>?_;have l4:L q=4096:=(by rw[n.1,b.1,y]);refine aD7 (by omega) λr A b5=>?_;have f:=K.fr A (by decide);rw[<-dg,<-dg] at f;change Gr r _ 9 1 D ((wB w vs).map cs) at f;have af:L r=4096:=(by rw[A.1,l4]);generalize wB w vs=g at*;generalize(aZ q 50).I6+1=v at*;simp only[qz 26,aDk f,aY,bJ];refine yV (L g) (λk _ Y'=>box Y' (50,v)=V ⟨283,0,U,U,[(yG<|g.take k).map ent]⟩/\Fr r Y' [50]) (by grind [Fr.refl]) ?_;rintro k _ Y6 hk ⟨E,B⟩;have W:=f.fr B (by decide);simp only[qz 133,aI,au,u0,u1];refine⟨λh=>?_,λh=>trivial⟩;have e:=aL h;have x:=X k e;simp only[yn,cP,fK,aNK] at x;have l:=avR x.2;rw[aBJ W e];simp+contextual only[u0,u1,ar,rW,x.1,aDr E l];refine⟨λh=>(nomatch h),?_⟩;intro _;refine aEb E l λY7 M b7=>?_;simp only[qz 28,au,u0,u1];refine yU e ⟨?_,B.trans M⟩;grind [iJ,bT]
def EX:FT:=aIc NJ
def axX{w vs Lw K}:=f210 EX NJ w vs Lw K (j:=by simp+contextual only[ij,j9])
def PY(w:J9)(s:sA)(d:fN w s=U/\L w.bC<=2):Ct 74 [.a w.c, .a s.c] (·=bv U):=by refine aMP rfl rfl λs0 l e f k=>?_;have b:=d.1;simp only[fN,bN,yp] at b;obtain⟨g,h,i,j⟩:=b;simp+contextual only[akI,u0,u1,e,f,rk,aj,ar,rW,g,h,i,j,d.2,aOe];simp
def Gp:FT:=aIc PY
def azK{w s Lw K}:=f210 Gp PY w s Lw K (j:=by simp+contextual only[ij,j9])
def PT(w:J9)(s:sA)(d:fN w s=U/\L w.bC<=2):Ct 209 [.a w.c, .a s.c] (·=bv U):=by refine aMK rfl rfl λs0 l e f k=>?_;have b:=d.1;simp only[fN,bN,yp] at b;obtain⟨g,h,i,j⟩:=b;simp+contextual only[akt,u0,u1,e,f,rk,aj,ar,rW,g,h,i,j,d.2,aOe];simp
def Gk:FT:=aIc PT
def azF{w s Lw K}:=f210 Gk PT w s Lw K (j:=by simp+contextual only[ij,j9])
def QO(w:J9)(s:aW)(t kind f8:Int):Bool:=
 bif Q (kind=6) then Q<|(gd s.ak f8.toNat).awG= -1
 else bif Q (kind=10) then Q ((gd s.ak f8.toNat).awG= -1)&&Q (L (gd s.ak f8.toNat).bk=0)
 else bif Q (kind=8) then Q ((gd s.ak f8.toNat).awG= -1)&&!Q (t∈(gd s.ak f8.toNat).bk)
 else bif Q (kind=7)||Q (kind=11) then Q ((gd s.ak f8.toNat).awG=t)
 else bif Q (kind=9) then Q<|t∈(gd s.ak f8.toNat).bk
 else bif Q (kind=12) then Q<|s.tx= -1
 else bif Q (kind=13) then Q<|s.tx=t
 else bif Q (kind=14) then !(gd s.ay t.toNat).atomic
 else bif Q (kind=15) then(gd s.ay t.toNat).atomic
 else bif Q (kind=16)||(Q (kind=18)||Q (kind=19)) then Q ((gd s.ak (gd w.bC f8.toNat).eg.toNat).awG=t)
 else bif Q (kind=20) then Q (f8≠t)&&Q ((gd s.ay f8.toNat).cQ=0)
 else bif Q (kind=21) then Q (f8≠t)&&Q ((gd s.ay f8.toNat).cQ=5)
 else bif Q (kind=22) then !(gd s.done f8.toNat)
 else bif Q (kind=23) then gd s.done f8.toNat
 else U
def axG{w:J9}{s:aW}{t kind f8:Int}:lc w s t kind f8=bif Q (kind=1) then Q ((gd s.ay t.toNat).cQ=1)
 else bif Q (kind=17) then Q ((gd s.ay t.toNat).cQ=4)&&(Q ((gd s.ay t.toNat).cond=f8)&&Q ((gd s.ak (gd w.bC f8.toNat).eg.toNat).awG= -1))
 else bif Q ((gd s.ay t.toNat).cQ≠2) then I else QO w s t kind f8:=rfl
structure KF(w:J9)(s:aW)(kind f8:Int):Prop where
 mI:aF (L w.bC) f8->aF (L s.ak) (gd w.bC f8.toNat).eg
 lk:6<=kind->kind<=11->aF (L s.ak) f8
 cd:16<=kind->kind<=19->aF (L w.bC) f8
 th:20<=kind->kind<=21->aF (L s.ay) f8
 dn:22<=kind->kind<=23->aF (L s.done) f8
def D0{w:J9}{s:aW}{kind f8:Int}(c:lh w s=U)(f:named w kind f8=U):KF w s kind f8:=by obtain⟨a,b,d,e⟩:=iY c;exact⟨λh=>by rw[b];exact a _<|ii h,(by grind [mJ]),(by grind [oT]),(by grind [Eb]),by grind [oU]⟩
def Oy(w:J9)(s:aW)(t kind f8:Int)(o:lh w s=U/\named w kind f8=U/\aF (L s.ay) t/\(∀l∈s.ak,L l.bk<100000)):Ct 250 [.a w.c, .a s.c,iv t,iv kind,iv f8] (·=bv (QO w s t kind f8)):=by refine aK9 rfl rfl λE C j k B=>?_;obtain⟨m,n,f,y⟩:=o;obtain⟨v,D,z,F,A⟩:=D0 m n;have p:Q (kind=6)=U->aF (L s.ak) f8:=(by simp_all);have g:Q (kind=10)=U->aF (L s.ak) f8:=(by simp_all);have r:Q (kind=8)=U->aF (L s.ak) f8:=(by simp_all);have u:Q (kind=9)=U->aF (L s.ak) f8:=(by simp_all);have q:(Q (kind=7)||Q (kind=11))=U->aF (L s.ak) f8:=(by grind);have b:(Q (kind=16)||(Q (kind=18)||Q (kind=19)))=U->aF (L w.bC) f8:=(by grind);have h:Q (kind=20)=U->aF (L s.ay) f8:=(by simp_all);have i:Q (kind=21)=U->aF (L s.ay) f8:=(by simp_all);have d:Q (kind=22)=U->aF (L s.done) f8:=(by simp_all);have e:Q (kind=23)=U->aF (L s.done) f8:=(by simp_all);have x:aF (L s.ak) f8->L (gd s.ak f8.toNat).bk<4611686018427387904:=(by grind [ii]);have e0:(L (gd s.ak f8.toNat).bk:Int)=0↔L (gd s.ak f8.toNat).bk=0:=(by omega);simp only[abG];simp+contextual (maxSteps:=3000000) only[a7i,qz 137,qz 135,qz 59,qz 57,aI,au,↓iS,u0,u1,rW,ar,j,k,rk,ix,aj];simp+contextual (maxSteps:=3000000) only[QO,bie,bkl,v,p,q,r,u,g,b,h,i,d,e,x,e0,f,GL,aNV,aOe,Bool.true_or,lG,Bool.or_true,kz,sr,eE,aQ6];done
def Fu:FT:=bpg Oy
def ayv{w s t kind f8 Lw K}:=KQ Fu Oy w s t kind f8 Lw K (j:=by simp+contextual only[ij,j9])
structure nK(x:jY):Prop where
 wo:kB x.w
 ss:x.ss=(aH<|L x.w.ac).map λk=>(cY x.w k).gp
theorem nK.at{x:jY}(h:nK x){k:Nat}(a:k<L x.w.ac):gd x.ss k=(cY x.w k).gp/\k<L x.ss:=by grind [nK.ss,bT]
def qI{n:Nat}{i:Int}(h:aF n i):i.toNat<n:=by have:=h.1;have:=h.2;omega
def nK.ix{x:jY}(h:nK x){i:Int}(a:aF (L x.w.ac) i):aF (L x.ss) i/\gd x.ss i.toNat=(cY x.w i.toNat).gp:=by have b:=h.at (qI a);refine⟨⟨a.1,?_⟩,b.1⟩;omega
def nK.kf{x:jY}(h:nK x){i j:Int}(b:aF (L x.w.ac) i)(c:aF (L x.w.ac) j):KF x.w.aQ (cY x.w j.toNat).gp (gd x.w.ac i.toNat).kind (gd x.w.ac i.toNat).f8:=by have a:=(h.wo.st _<|qI c).2;simp only[fN,bN] at a;exact D0 a.1 (h.wo.named<|qI b).1
def slE{l:List aP}{i j:Int}{Y:ae}{K:j4}:rV (fo 7 Y (sl aP.c l) (V<|iv i) (V<|iv j) J) K=((0<=i/\i<=j/\j<=L l)/\K (sl aP.c<|(l.take j.toNat).drop i.toNat)):=by simp only[fo,lM,sl];by_cases a:0<=i;by_cases d:0<=j;simp only[a,d,aPI,qY,Option.getD_none,mi,bJ,GL];by_cases e:i<=j/\j<=L l;have b:i.toNat<=j.toNat/\j.toNat<=L l:=(by omega);rw[lC ⟨b.1,b.2,by simp[aP.c]⟩];simp only[rV,e,aOe,GL,kM];grind [aP.c,List.map_drop,List.map_take,List.drop_take];grind [rV];grind [rV];simp[a,rV]
def Dq{b:Bool}{A:(be)->Prop}{Y:ae}{K:be}(a:b=U->A K)(c:b=I->K (.t []) Y):gF b A Y K:=by(cases b);exact c rfl;exact a rfl
def Bc{a:AV}{b:Bool}:mL (bv I) a (bv b)=V (bv b):=rfl
def Dc{Y:ae}{d:Nat}{K:be}{b:Id}{w:gz}{t:Int}(g:box Y b=V ⟨43,15,U,U,[w.c]⟩)(i:L Y=4096)(e:K (bv<|nO w t) Y):cF (.f 148 [] [.p b 0 0]) [iv t] Y d K:=by simp only[cF,rn];rw[j5 (show¬GG.nw 148=U by decide),lC<|show GG.imp 148=U by decide];refine(aS2 rfl (aMT i ?_) e:cB 148 [iv t, .p b 0 0] Y d K);simp+contextual only[aV0,u0,u1,g,rk,ix,aj,dc,aNN,aoz];refine⟨λh=>?_,?_,Fx.refl _ _⟩;intro a;exact⟨by simpa using h,by simpa using a⟩;simp[nO,dh,Bool.and_assoc]
def Qa(w:gz)(X:ny w=U/\L w.init.gp.ak=L w.aQ.ak/\L w.aQ.ak<=4/\L w.init.gp.ay<=4/\(∀l∈w.init.gp.ak,L l.bk<=100)):Ct 77 [.a w.c] (·=bv U):=by refine aMS rfl λs2 W M h0=>?_;obtain⟨z,Z,aa,ab,B⟩:=X;simp only[ny,bN,yp,eH] at z;obtain⟨R,o,S⟩:=z;simp+contextual only[akU,u0,u1,M,rk,aj,dc];refine pQ (L w.init.gp.ak) [5] (λk=>True) trivial λk Y hk hc P=>?_;have r:box Y (1,1)=V ⟨43,15,U,U,[w.c]⟩:=(by grind [Fr.box]);have f:L Y=4096:=(by rw[P.1,W]);simp+contextual only[qz 25,qy 4,u0,u1,r,ix,rk,bh,aj,dc];refine⟨λh=>⟨u7 h,?_⟩,λh=>?_⟩;(focus refine eF rfl rfl (by decide) (by omega) λq F y=>?_;have t:box q (1,1)=V ⟨43,15,U,U,[w.c]⟩:=(by grind [Fr.box]);have j:L q=4096:=(by rw[F.1,f]);have A:=R k<|aL h;obtain⟨e,C⟩:=A;simp only[AM,cP] at e;simp+contextual only[qz 6,u0,u1,y,rk,aj];have ac:L (gd w.init.gp.ak k).bk<=100:=B _<|asq<|aL h;have E:Q (0<(L (gd w.init.gp.ak k).bk:Int))=U->aF (L w.aQ.ak) (k:Int):=(by grind [dJ,aL]);have n:=e.2;refine Dq (λb=>Dc t j ?_) (λb=>?_);all_goals simp+contextual only[u0,u1,y,t,rk,ix,aj,b,jN,Bc];rw[b] at e n;refine⟨λg=>?_,λ_=>⟨E,λg=>?_,λ_=>?_⟩⟩;(first|cases g|simp[g] at e);(try simp only[kz] at n);rw[bh] at g;rw[g] at n;cases n;refine jD (α:=Int) (λa i=>[iv a,iv i]) 1 (L (gd w.init.gp.ak k).bk) (λi a Y'=>(a=if i=0 then-1 else gd (gd w.init.gp.ak k).bk (i-1))/\Y'=q) (s0:= -1) ⟨by simp,rfl⟩ ?_;rintro i _ _ T ⟨rfl,rfl⟩;simp+contextual only[qz 103,aI,u0,u1,ix,rk,bh];refine⟨λd=>⟨u7 d,?_⟩,λd=>?_⟩;obtain⟨v,r2⟩:=C i<|aL d;have u:Q (gd (gd w.init.gp.ak k).bk i<=if i=0 then-1 else gd (gd w.init.gp.ak k).bk (i-1))=I:=(by simp only[nO,bN] at v;have:=(dX.1 v.1).1;grind);refine Dq (λb=>Dc t j ?_) (by grind);simp+contextual only[u0,u1,u,v,eE,aQ6,be8,GL];refine dR (mk:=λa i=>[iv a,iv i]) (p:=1) (s:=if i=0 then-1 else gd (gd w.init.gp.ak k).bk (i-1)) (s':=gd (gd w.init.gp.ak k).bk i) (λ_ _=>rfl) (aL d) (by omega) ?_;simp;grind [oL,aL,Fr.trans]);(focus simp only[yS] at o;refine Dq (λb=>Dc r f ?_) (λb=>?_);all_goals rw[b] at o;(try simp only[iw,fK] at o);simp+contextual only[u0,u1,r,rk,dc,b,o,jN,Bc,eE,aQ6,be8,GL];refine pQ (L w.init.gp.ay) [10] (λk=>True) trivial λi H T _ x=>?_;have e1:box H (1,1)=V ⟨43,15,U,U,[w.c]⟩:=(by grind [Fr.box]);simp+contextual only[qz 181,qy 14,aI,u0,u1,ix,rk,bh];refine⟨λd=>⟨u7 d,?_⟩,λ_=>trivial⟩;refine eF rfl rfl (by decide) (by rw[x.1,f];decide) λK G N=>?_;have O:box K (1,1)=V ⟨43,15,U,U,[w.c]⟩:=(by grind [Fr.box]);have D:=S i<|aL d;simp only[pX,bN,eH] at D;have m:=D.1;simp+contextual only[qz 16,u0,u1,N,rk,aj];refine Dq (λb=>Dc O (by rw[G.1,x.1,f]) ?_) (λb=>?_);rw[b] at m;simp only[iw,fK] at m;simp+contextual only[u0,u1,b,m,eE,aQ6,be8,GL];grind [oL,aL,Fr.trans];simp+contextual only[u0,b,jN,Bc,eE,aQ6,be8,GL];grind [oL,aL,Fr.trans])
def Gt:FT:=mT Qa
def azN{w Lw K}:=f110 Gt Qa w Lw K (j:=by simp+contextual only[ij,j9])
def apk:dO:=(144,EX)::(74,Gp)::(209,Gk)::(250,Fu)::(77,Gt)::apj
def Rd:eJ apk:=ve (aCb NJ)<|ve (aCb PY)<|ve (aCb PT)<|ve (Rt Oy)<|ve (pg Qa)<|rf
def aBm:=ai @axX<|ai @azK<|ai @azF<|ai @ayv<|ai @azN<|@rW
def Sv a s0 R:=(.mk _:NR apk at1 Tryz.f310 [a] [] s0 R).p
def aJV{a:AV}{R:j4}(h:H0 λs0=>Sv a s0 R):Ct 310 [a] R:=z0 at1 Rd Tryz.func310 h
def atx:=lA 11 [(1,([0,2],[])),(4,([0,2],[])),(7,([0,2],[]))]
def aaz a s0 R:=(.mk _:NR apk atx Tryz.f293 [a] [] s0 R).p
def aKY{a:AV}{R:j4}(h:H0 λs0=>aaz a s0 R):Ct 293 [a] R:=z0 atx Rd Tryz.func293 h
def brH(x:Int):Ct 310 [iv x] (·=bv I):=by refine aJV λs0 b a=>?_;simp only[Sv,u0,u1,bsM,bBv,bq0]
def BO:FT:=lH brH
def axT{x Lw K}:=np BO brH x Lw K
def avZ{a b:Int}:a6F .geq 0 [] (.s<|.int .u64 a) (.s<|.int .u64 b)=V (bv<|Q<|b<=a):=rfl
def Oo(n:Int)(g:0<=n/\n<=12):Ct 293 [.s<|.int .u64 n] (λr=>∃k:Int,r=iv k):=by refine aKY λs0 f e=>?_;obtain⟨m,rfl⟩:∃m:Nat,n=m:=⟨n.toNat,by omega⟩;have d:m<=12:=(by omega);have a:Q (4294967296<=(m:Int))=I:=(by simp;omega);have b:Q (65536<=(m:Int))=I:=(by simp;omega);have c:Q (256<=(m:Int))=I:=(by simp;omega);simp+contextual only[qz 45,qz 47,qz 27,qz 29,qz 9,qz 11,aaz,a7i,u0,avZ,a,b,c,aI,↓iB];match m,d with|0,_=>exact⟨rfl,_,rfl⟩|1,_=>exact⟨rfl,_,rfl⟩|2,_=>exact⟨rfl,_,rfl⟩|3,_=>exact⟨rfl,_,rfl⟩|4,_=>exact⟨rfl,_,rfl⟩|5,_=>exact⟨rfl,_,rfl⟩|6,_=>exact⟨rfl,_,rfl⟩|7,_=>exact⟨rfl,_,rfl⟩|8,_=>exact⟨rfl,_,rfl⟩|9,_=>exact⟨rfl,_,rfl⟩|10,_=>exact⟨rfl,_,rfl⟩|11,_=>exact⟨rfl,_,rfl⟩|12,_=>exact⟨rfl,_,rfl⟩
def Fo:FT:=om Oo
def ayo{n Lw K}:=f111 Fo Oo n Lw K
def apm:dO:=(310,BO)::(293,Fo)::apk
def Re:eJ apm:=ve (nH brH)<|ve (rj Oo)<|Rd
def La:=ai @axT<|ai @ayo<|@aBm
def Su a a1 s0 R:=(.mk _:NR apm at1 Tryz.f289 [a,a1] [] s0 R).p
def aJU{a a1:AV}{R:j4}(h:H0 λs0=>Su a a1 s0 R):Ct 289 [a,a1] R:=z0 at1 Re Tryz.func289 h
def atw:=lA 4 []
def aay a s0 R:=(.mk _:NR apm atw Tryz.f254 [a] [] s0 R).p
def aKX{a:AV}{R:j4}(h:H0 λs0=>aay a s0 R):Ct 254 [a] R:=z0 atw Re Tryz.func254 h
def NE(x y:Int):Ct 289 [iv x,iv y] (·=bv (Q<|x<y)):=by refine aJU λs0 b a=>?_;simp+contextual only[Su,u0,u1,ar,La,lG,jN,jA,Bc]
def BN:FT:=lI NE
def axS{x y Lw K}:=f200 BN NE x y Lw K
def Om(n:Int)(a:0<=n/\n<=12):Ct 254 [.s<|.int .u64 n] (λr=>∃k:Int,r=iv k):=by refine aKX λs0 c b=>?_;simp+contextual only[aay,u0,ar,La,eE,aQ6,be8];refine⟨a,?_⟩;rintro r ⟨k,rfl⟩;exact⟨.inl rfl,rfl,k,rfl⟩
def Fm:FT:=om Om
def ayn{n Lw K}:=f111 Fm Om n Lw K
def apn:dO:=(289,BN)::(254,Fm)::apm
def wR:eJ apn:=ve (nI NE)<|ve (rj Om)<|Re
def ut:=ai @axS<|ai @ayn<|@La
def au5:=lA 23 [(6,([3],[0])),(14,([3,5],[0,4])),(17,([3],[0,4,5]))]
def JN a s0 R:=(.mk _:NS apn au5 Tryz.f217 [a] [] s0 R).p
def aMy{a:AV}{s0:ae}{R:be}(hs:L s0=4096)(h:JN a s0 R):EB 217 [a] s0 R:=zB au5 wR Tryz.func217 h
def avb:=lA 10 [(1,([6],[0,1,2])),(6,([7],[0,1,2,6]))]
def JT a a1 b s0 R:=(.mk _:NS apn avb Tryz.f283 [a,a1,b] [] s0 R).p
def aME{a a1 b:AV}{s0:ae}{R:be}(hs:L s0=4096)(h:JT a a1 b s0 R):EB 283 [a,a1,b] s0 R:=zB avb wR Tryz.func283 h
def JQ a a1 s0 R:=(.mk _:NS apn au9 Tryz.f113 [a,a1] [] s0 R).p
def aMB{a a1:AV}{s0:ae}{R:be}(hs:L s0=4096)(h:JQ a a1 s0 R):EB 113 [a,a1] s0 R:=zB au9 wR Tryz.func113 h
def Ij a a1 s0 R:=(.mk _:NS apn at1 Tryz.f219 [a,a1] [] s0 R).p
def aK2{a a1:AV}{s0:ae}{R:be}(hs:L s0=4096)(h:Ij a a1 s0 R):EB 219 [a,a1] s0 R:=zB at1 wR Tryz.func219 h
def atF:=lA 13 [(4,([7,13],[1,2,3,11,12])),(7,([7],[1,2,3,11,12,13])),(10,([],[7]))]
def Ir a a1 b c R:=(.mk _:NS apn atF Tryz.f220 [.u,a1,b] [a] c R).p
def aK7{c0:List AV}{a1 b:AV}{s0:ae}{R:be}(hs:L s0=4096)(l0:L c0=4)(h:HB1 36 4 3 c0 s0 λd c=>Ir d a1 b c R):EB 220 [.a c0,a1,b] s0 R:=zB1 atF wR Tryz.func220 hs l0 h
def atG:=lA 12 [(4,([5,11],[1,2,9,10])),(7,([5],[1,2,9,10,11]))]
def Is a a1 b R:=(.mk _:NS apn atG Tryz.f221 [.u,a1] [a] b R).p
def aK8{c0:List AV}{a1:AV}{s0:ae}{R:be}(hs:L s0=4096)(l0:L c0=4)(h:HB1 36 4 2 c0 s0 λc b=>Is c a1 b R):EB 221 [.a c0,a1] s0 R:=zB1 atG wR Tryz.func221 hs l0 h
theorem axp(n c:Nat)(w:World)(R:Ending->World->Prop)(a:R (.returned<|.slice J 0 0) w):Calls aS 94 #[.slice J n c] w R:=by have b:=λ(W:World)=>run_eql_slice_nil (P:=aS) W 38 3 J n c (by kernel_rfl);go_enter Tryz.func94,Tryz.ntmps94;go_wp2;exact a
theorem axt(A:Addr)(n c:Nat)(w:World)(R:Ending->World->Prop)(b:(nU Tryz.f94).wp aS (bodyPost aS Tryz.f94 R) {tmps:=#[.slice (V A) n c,undef, .slice J 0 0, .slice (V A) n c, .bool I,undef,undef,undef],defers:=[]} w):Calls aS 94 #[.slice (V A) n c] w R:=by have d:=λ(W:World)=>run_eql_slice_nil (P:=aS) W 38 3 (V A) n c (by kernel_rfl);go_enter Tryz.func94,Tryz.ntmps94;generalize a:(BM 3 _ I).seq ET=T;go_wp2;subst a;exact b
def aCM{bA:List (List AV)}(g:∀r∈bA,L r=1)(q:L bA<1000000):∃r a,bc a 3 1 r bA/\cZ aS GG 94 [.l bA I I] eK r a/\(bA=[]->r= .l [] U U):=by have h:=DX (fn:=94) (f:=Tryz.f94) (an:=[J,J]) Tryz.func94 rfl rfl (by grind [axp]) (by grind [axt]) (by kernel_rfl) (by kernel_rfl) (bA:=bA) (R:=λr a=>bc a 3 1 r bA/\(bA=[]->r= .l [] U U/\a=eK)) (aND (show iV aS GG [] [J,J] (nU Tryz.f94) 0 (tO aS Tryz.f94 λr a=>bc a 3 1 r bA/\(bA=[]->r= .l [] U U/\a=eK)) (gt<|xE<|.l bA I I) eK=(eV (aX bH 0 eK []) λk i=>eV (Gy 3 fB 8 i 7 k<|.l bA I I) λt4 j=>aNN (λr a=>bc a 3 1 r bA/\(bA=[]->r= .l [] U U/\a=eK)) j [t4]) by kernel_rfl) ?_) (λr a h=>h.2);obtain⟨r,a,b,d⟩:=h;exact⟨r,a,b.1,d,λe=>(b.2 e).1⟩;simp only[nS,bQ];by_cases c:bA=[];subst c;simp only[Gy,gL,aO1,aPI,eV,aNN,aoz];grind [bc.nil];refine gD (e:=3) (new:=bA) bc.nil rfl (by decide) (by rw[show L eK=4096 from oA ..];decide) (by simp) g (by grind) λn Y' o m p _=>?_;grind [aNN,aoz,absurd]
def Kr{Y:ae}{d:Nat}{K:be}{bA:List (List AV)}{x:AV}(p:dG Y x= .l bA I I)(o:∀r∈bA,L r=1)(n:L bA<1000000)(q:bA.all (λr=>r.all gY)=U)(c:d<L Y)(e:∀a Y',bc Y' 3 1 a bA->Fx Y Y' []->(∀k∈aA a,ig Y k/\k.1=d)->K a Y'):cN 94 [x] Y d K:=by obtain⟨r,i,g,h,_⟩:=aCM o n;have f:[x].map (dG Y)=[.l bA I I]:=(by simp[p]);refine .inl ⟨by rw[f];rfl,by simp[aRI,c],r,i,by rw[f];exact h,?_⟩;rcases g with⟨j,rfl⟩|⟨b,rfl,m⟩;exact .inl ⟨rfl,e _ _ (.inl ⟨j,rfl⟩) (Fx.refl _ _) (by simp[aA])⟩;refine .inr ⟨b,_,_,rfl,m,?_,e _ _ (.inr ⟨zt Y d,rfl,be7 c⟩) (kH c)<|by simp[aA,zt,ig]⟩;grind [qA]
theorem axo(n c:Nat)(w:World)(R:Ending->World->Prop)(a:R (.returned<|.slice J 0 0) w):Calls aS 251 #[.slice J n c] w R:=by have b:=λ(W:World)=>run_eql_slice_nil (P:=aS) W 33 4 J n c (by kernel_rfl);go_enter Tryz.func251,Tryz.ntmps251;go_wp2;exact a
theorem axs(A:Addr)(n c:Nat)(w:World)(R:Ending->World->Prop)(b:(nU Tryz.f251).wp aS (bodyPost aS Tryz.f251 R) {tmps:=#[.slice (V A) n c,undef, .slice J 0 0, .slice (V A) n c, .bool I,undef,undef,undef],defers:=[]} w):Calls aS 251 #[.slice (V A) n c] w R:=by have d:=λ(W:World)=>run_eql_slice_nil (P:=aS) W 33 4 (V A) n c (by kernel_rfl);go_enter Tryz.func251,Tryz.ntmps251;generalize a:(BM 3 _ I).seq ET=T;go_wp2;subst a;exact b
def aCL{bA:List (List AV)}(g:∀r∈bA,L r=1)(q:L bA<1000000):∃r a,bc a 4 1 r bA/\cZ aS GG 251 [.l bA I I] eK r a/\(bA=[]->r= .l [] U U):=by have h:=DX (fn:=251) (f:=Tryz.f251) (an:=[J,J]) Tryz.func251 rfl rfl (by grind [axo]) (by grind [axs]) (by kernel_rfl) (by kernel_rfl) (bA:=bA) (R:=λr a=>bc a 4 1 r bA/\(bA=[]->r= .l [] U U/\a=eK)) (aND (show iV aS GG [] [J,J] (nU Tryz.f251) 0 (tO aS Tryz.f251 λr a=>bc a 4 1 r bA/\(bA=[]->r= .l [] U U/\a=eK)) (gt<|xE<|.l bA I I) eK=(eV (aX BD 0 eK []) λk i=>eV (Gy 4 BE 1 i 7 k<|.l bA I I) λt4 j=>aNN (λr a=>bc a 4 1 r bA/\(bA=[]->r= .l [] U U/\a=eK)) j [t4]) by kernel_rfl) ?_) (λr a h=>h.2);obtain⟨r,a,b,d⟩:=h;exact⟨r,a,b.1,d,λe=>(b.2 e).1⟩;simp only[nS,bQ];by_cases c:bA=[];subst c;simp only[Gy,gL,aO1,aPI,eV,aNN,aoz];grind [bc.nil];refine gD (e:=4) (new:=bA) bc.nil rfl (by decide) (by rw[show L eK=4096 from oA ..];decide) (by simp) g (by grind) λn Y' o m p _=>?_;grind [aNN,aoz,absurd]
def aw2{Y:ae}{d:Nat}{K:be}{bA:List (List AV)}{x:AV}(p:dG Y x= .l bA I I)(o:∀r∈bA,L r=1)(n:L bA<1000000)(q:bA.all (λr=>r.all gY)=U)(c:d<L Y)(e:∀a Y',bc Y' 4 1 a bA->Fx Y Y' []->(∀k∈aA a,ig Y k/\k.1=d)->K a Y'):cN 251 [x] Y d K:=by obtain⟨r,i,g,h,_⟩:=aCL o n;have f:[x].map (dG Y)=[.l bA I I]:=(by simp[p]);refine .inl ⟨by rw[f];rfl,by simp[aRI,c],r,i,by rw[f];exact h,?_⟩;rcases g with⟨j,rfl⟩|⟨b,rfl,m⟩;exact .inl ⟨rfl,e _ _ (.inl ⟨j,rfl⟩) (Fx.refl _ _) (by simp[aA])⟩;refine .inr ⟨b,_,_,rfl,m,?_,e _ _ (.inr ⟨zt Y d,rfl,be7 c⟩) (kH c)<|by simp[aA,zt,ig]⟩;grind [qA]
theorem axn(n c:Nat)(w:World)(R:Ending->World->Prop)(a:R (.returned<|.slice J 0 0) w):Calls aS 252 #[.slice J n c] w R:=by have b:=λ(W:World)=>run_eql_slice_nil (P:=aS) W 34 138 J n c (by kernel_rfl);go_enter Tryz.func252,Tryz.ntmps252;go_wp2;exact a
theorem axr(A:Addr)(n c:Nat)(w:World)(R:Ending->World->Prop)(b:(nU Tryz.f252).wp aS (bodyPost aS Tryz.f252 R) {tmps:=#[.slice (V A) n c,undef, .slice J 0 0, .slice (V A) n c, .bool I,undef,undef,undef],defers:=[]} w):Calls aS 252 #[.slice (V A) n c] w R:=by have d:=λ(W:World)=>run_eql_slice_nil (P:=aS) W 34 138 (V A) n c (by kernel_rfl);go_enter Tryz.func252,Tryz.ntmps252;generalize a:(BM 3 _ I).seq ET=T;go_wp2;subst a;exact b
def aCK{bA:List (List AV)}(g:∀r∈bA,L r=3)(q:L bA<1000000):∃r a,bc a 138 3 r bA/\cZ aS GG 252 [.l bA I I] eK r a/\(bA=[]->r= .l [] U U):=by have h:=DX (fn:=252) (f:=Tryz.f252) (an:=[J,J]) Tryz.func252 rfl rfl (by grind [axn]) (by grind [axr]) (by kernel_rfl) (by kernel_rfl) (bA:=bA) (R:=λr a=>bc a 138 3 r bA/\(bA=[]->r= .l [] U U/\a=eK)) (aND (show iV aS GG [] [J,J] (nU Tryz.f252) 0 (tO aS Tryz.f252 λr a=>bc a 138 3 r bA/\(bA=[]->r= .l [] U U/\a=eK)) (gt<|xE<|.l bA I I) eK=(eV (aX btP 0 eK []) λk i=>eV (Gy 138 btu 24 i 7 k<|.l bA I I) λt4 j=>aNN (λr a=>bc a 138 3 r bA/\(bA=[]->r= .l [] U U/\a=eK)) j [t4]) by kernel_rfl) ?_) (λr a h=>h.2);obtain⟨r,a,b,d⟩:=h;exact⟨r,a,b.1,d,λe=>(b.2 e).1⟩;simp only[nS,bQ];by_cases c:bA=[];subst c;simp only[Gy,gL,aO1,aPI,eV,aNN,aoz];grind [bc.nil];refine gD (e:=138) (new:=bA) bc.nil rfl (by decide) (by rw[show L eK=4096 from oA ..];decide) (by simp) g (by grind) λn Y' o m p _=>?_;grind [aNN,aoz,absurd]
def aw1{Y:ae}{d:Nat}{K:be}{bA:List (List AV)}{x:AV}(p:dG Y x= .l bA I I)(o:∀r∈bA,L r=3)(n:L bA<1000000)(q:bA.all (λr=>r.all gY)=U)(c:d<L Y)(e:∀a Y',bc Y' 138 3 a bA->Fx Y Y' []->(∀k∈aA a,ig Y k/\k.1=d)->K a Y'):cN 252 [x] Y d K:=by obtain⟨r,i,g,h,_⟩:=aCK o n;have f:[x].map (dG Y)=[.l bA I I]:=(by simp[p]);refine .inl ⟨by rw[f];rfl,by simp[aRI,c],r,i,by rw[f];exact h,?_⟩;rcases g with⟨j,rfl⟩|⟨b,rfl,m⟩;exact .inl ⟨rfl,e _ _ (.inl ⟨j,rfl⟩) (Fx.refl _ _) (by simp[aA])⟩;refine .inr ⟨b,_,_,rfl,m,?_,e _ _ (.inr ⟨zt Y d,rfl,be7 c⟩) (kH c)<|by simp[aA,zt,ig]⟩;grind [qA]
theorem axq(n c:Nat)(w:World)(R:Ending->World->Prop)(a:R (.returned<|.slice J 0 0) w):Calls aS 214 #[.slice J n c] w R:=by have b:=λ(W:World)=>run_eql_slice_nil (P:=aS) W 37 2 J n c (by kernel_rfl);go_enter Tryz.func214,Tryz.ntmps214;go_wp2;exact a
theorem axu(A:Addr)(n c:Nat)(w:World)(R:Ending->World->Prop)(b:(nU Tryz.f214).wp aS (bodyPost aS Tryz.f214 R) {tmps:=#[.slice (V A) n c,undef, .slice J 0 0, .slice (V A) n c, .bool I,undef,undef,undef],defers:=[]} w):Calls aS 214 #[.slice (V A) n c] w R:=by have d:=λ(W:World)=>run_eql_slice_nil (P:=aS) W 37 2 (V A) n c (by kernel_rfl);go_enter Tryz.func214,Tryz.ntmps214;generalize a:(BM 3 _ I).seq ET=T;go_wp2;subst a;exact b
def aCN{bA:List (List AV)}(g:∀r∈bA,L r=1)(q:L bA<1000000):∃r a,bc a 2 1 r bA/\cZ aS GG 214 [.l bA I I] eK r a/\(bA=[]->r= .l [] U U):=by have h:=DX (fn:=214) (f:=Tryz.f214) (an:=[J,J]) Tryz.func214 rfl rfl (by grind [axq]) (by grind [axu]) (by kernel_rfl) (by kernel_rfl) (bA:=bA) (R:=λr a=>bc a 2 1 r bA/\(bA=[]->r= .l [] U U/\a=eK)) (aND (show iV aS GG [] [J,J] (nU Tryz.f214) 0 (tO aS Tryz.f214 λr a=>bc a 2 1 r bA/\(bA=[]->r= .l [] U U/\a=eK)) (gt<|xE<|.l bA I I) eK=(eV (aX yW 0 eK []) λk i=>eV (Gy 2 EN 8 i 7 k<|.l bA I I) λt4 j=>aNN (λr a=>bc a 2 1 r bA/\(bA=[]->r= .l [] U U/\a=eK)) j [t4]) by kernel_rfl) ?_) (λr a h=>h.2);obtain⟨r,a,b,d⟩:=h;exact⟨r,a,b.1,d,λe=>(b.2 e).1⟩;simp only[nS,bQ];by_cases c:bA=[];subst c;simp only[Gy,gL,aO1,aPI,eV,aNN,aoz];grind [bc.nil];refine gD (e:=2) (new:=bA) bc.nil rfl (by decide) (by rw[show L eK=4096 from oA ..];decide) (by simp) g (by grind) λn Y' o m p _=>?_;grind [aNN,aoz,absurd]
def alG{Y:ae}{d:Nat}{K:be}{bA:List (List AV)}{x:AV}(p:dG Y x= .l bA I I)(o:∀r∈bA,L r=1)(n:L bA<1000000)(q:bA.all (λr=>r.all gY)=U)(c:d<L Y)(e:∀a Y',bc Y' 2 1 a bA->Fx Y Y' []->(∀k∈aA a,ig Y k/\k.1=d)->K a Y'):cN 214 [x] Y d K:=by obtain⟨r,i,g,h,_⟩:=aCN o n;have f:[x].map (dG Y)=[.l bA I I]:=(by simp[p]);refine .inl ⟨by rw[f];rfl,by simp[aRI,c],r,i,by rw[f];exact h,?_⟩;rcases g with⟨j,rfl⟩|⟨b,rfl,m⟩;exact .inl ⟨rfl,e _ _ (.inl ⟨j,rfl⟩) (Fx.refl _ _) (by simp[aA])⟩;refine .inr ⟨b,_,_,rfl,m,?_,e _ _ (.inr ⟨zt Y d,rfl,be7 c⟩) (kH c)<|by simp[aA,zt,ig]⟩;grind [qA]
def jC(l:List Int):Prop:=∀i,i+1<L l->gd l i<gd l (i+1)
def AD{l:List Int}(h:jC l):∀{i j:Nat},i<j->j<L l->gd l i<gd l j:=by intro i j c a;induction j with|zero=>omega|succ j e=>have d:=h j a;grind
section
variable{Y:ae}{b:Id}{l:List Int}{n:Nat}{K:j4}
theorem mx{e:TypeId}{i:Int}{o v:Bool}{bA:List (List AV)}(d:box Y b=V ⟨e,1,o,v,bA⟩)(h:aF n i):rV (cz 1 Y (.m b n)<|iv i) K=K (.p b i.toNat 0):=by have a:0<=i:=h.1;have c:i.toNat<n:=(by have:=h.1;have:=h.2;omega);grind [cz,rV]
theorem ml{e:TypeId}{o v:Bool}{k:Nat}(a:box Y b=V ⟨e,1,o,v,l.map ci⟩)(c:k<L l):vp J Y (.p b k 0)=V (iv<|gd l k):=by grind [vp,iE,aN,bT]
end
theorem aIh{l:List Int}{k:Nat}{x:Int}:(l.map ci).set k ((ci<|gd l k).set 0<|iv x)=(l.set k x).map ci:=by simp
def Qo{Y:ae}{b:Id}{l:List Int}{k:Nat}{x:Int}{K:ae->Prop}(c:box Y b=V ⟨3,1,U,I,l.map ci⟩)(d:k<L l)(a:∀Y',Fx Y Y' [b]->box Y' b=V ⟨3,1,U,I,(l.set k x).map ci⟩->K Y'):sV (aK 1 Y (.p b k 0)<|iv x) K:=by have e:(l.map ci)[k]?=V (ci<|gd l k):=(by grind [eC,bT]);grind [wL,aIh]
def Dt{a b:List Int}{k:Nat}(h:k<L a):gd (a++b) k=gd a k:=by grind [bT,List.getElem_append_left]
def aBD{a:List Int}{j k:Nat}(h:k<j)(c:k<L a):gd (a.take j) k=gd a k:=by grind [bT]
def aBB{a d:List Int}{t:Int}:gd (a++t::d) (L a)=t:=by grind [bT]
def aIA{r:List Int}{t:Int}{j:Nat}(c:0<j)(g:j<=L r):((r.take j++t::r.drop j).set j<|gd r<|j-1).set (j-1) t=r.take (j-1)++t::r.drop (j-1):=by obtain⟨i,rfl⟩:∃i,j=i+1:=⟨j-1,by omega⟩;have a:i<L r:=(by omega);have d:r.take (i+1)=r.take i++[gd r i]:=(by rw[iJ a,bT a]);have e:r.drop i=gd r i::r.drop (i+1):=(by rw[Cw a,bT a]);have f:L (r.take i)=i:=(by simp;omega);simp_all
def aCw{Y:ae}{b:Id}{r:List Int}{t:Int}(q:jC r)(ht:t∉r)(hn:L r<12)(M:box Y b=V ⟨3,1,U,I,(r++[t]).map ci⟩)(hl:L Y=4096):∃y f,(y= .t []/\box f b=V ⟨3,1,U,I,(fk r t).map ci⟩/\Fx Y f [b])/\cZ aS GG 283 [.m b<|L r+1,iv 0,iv ((L r+1:Nat):Int)] Y y f:=by refine aME hl ?_;simp only[JT,cS,aY,↓uL];rw[show dq.wrap (0+1)=((1:Nat):Int) from rfl];refine AI (α:=Unit) (λ_ i=>[iv i]) 0 (L r+1) 1 (by omega) (λi _ Y'=>1<=i/\box Y' b=V ⟨3,1,U,I,(if i<L r+1 then r++[t] else fk r t).map ci⟩/\Fx Y Y' [b]) (s0:=()) ⟨by omega,?_,Fx.refl _ _⟩ ?_;split;exact M;have:r=[]:=(by simp_all);subst this;exact M;rintro i _ f hi ⟨ac,p,F1⟩;simp only[qz 7,aI,au,u0,u1,↓uL];refine⟨λh=>?_,λh=>?_⟩;have x:=aL h;rw[lC x] at p;have e:∀{k:Nat},k<L r+1->k<L (r++[t]):=λh=>(by simp;omega);have nx:∀g,box g b=V ⟨3,1,U,I,(if i+1<L r+1 then r++[t] else fk r t).map ci⟩->Fx Y g [b]->yI (λ(_:Unit) i=>[iv i]) (L r+1) (λi _ Y'=>1<=i/\box Y' b=V ⟨3,1,U,I,(if i<L r+1 then r++[t] else fk r t).map ci⟩/\Fx Y Y' [b]) [iv<|dq.wrap<|(i:Int)+1] g/\gM 0 (L r+1) [iv<|dq.wrap<|(i:Int)+1] g<gM 0 (L r+1) [iv i] f:=λg N z=>yU x ⟨by omega,N,z⟩;have R:Q ((0:Int)<(i:Int))=U:=(by simp;omega);have C:∀j:Nat,0<j->j<100->dq.wrap ((j:Int)-1)=((j-1:Nat):Int):=(by grind [eM]);rcases jj i (L r) with u|u;refine⟨λvs Y'=>vs=[iv i]/\Y'=f,λ_ _=>0,⟨rfl,rfl⟩,?_⟩;rintro vs Y' ⟨rfl,rfl⟩;have T:Q (gd (r++[t]) i<gd (r++[t]) (i-1))=I:=(by rw[Dt u,Dt<|by omega];have:=AD q (show i-1<i by omega) u;simp;omega);simp only[qz 37,aI,au,u0,u1,R,jA,qE,C i (by omega) (by omega),mx p<|dJ<|show i<L r+1 by omega,mx p<|dJ<|show i-1<L r+1 by omega,bh,ml p<|e<|show i<L r+1 by omega,ml p<|e<|show i-1<L r+1 by omega,ar,ut,T,uO,bie,eE,aQ6,be8,GL,AL,↓uL];simp_all;obtain rfl:i=L r:=(by omega);refine⟨λvs Y'=>∃j:Nat,j<=L r/\vs=[iv j]/\box Y' b=V ⟨3,1,U,I,(r.take j++t::r.drop j).map ci⟩/\(∀k,j<=k->k<L r->t<gd r k)/\Fx Y Y' [b],λvs _=>match gt vs 0 with| .s (.int _ i)=>i.toNat|_=>0,(by grind),?_⟩;rintro vs Y' ⟨j,S,rfl,o,Z,D⟩;have w:L (r.take j++t::r.drop j)=L r+1:=(by simp;omega);have G:(∀k,k<j->gd r k<t)->box Y' b=V ⟨3,1,U,I,(if L r+1<L r+1 then r++[t] else fk r t).map ci⟩:=λA=>(by rw[j5 (by omega),o];congr 3;rw[QJ r t j S A (by grind),j5];grind);rcases oD j with rfl|v;simp only[qz 37,aI,au,u0,u1,Int.lt_irrefl,Int.ofNat_eq_natCast,Int.natCast_zero,bq0,jN,Bc,eE,aQ6,be8,GL,↓uL];simp_all;have B:Q ((0:Int)<(j:Int))=U:=(by simp;omega);have O:gd (r.take j++t::r.drop j) j=t:=(by have:=aBB (a:=r.take j) (d:=r.drop j) (t:=t);simp_all);have P:gd (r.take j++t::r.drop j) (j-1)=gd r (j-1):=(by rw[Dt (by simp;omega),aBD (by omega)<|by omega]);simp only[qz 37,aI,au,u0,u1,B,jA,qE,C j v (by omega),mx o<|dJ<|show j<L r+1 by omega,mx o<|dJ<|show j-1<L r+1 by omega,bh,ml o (show j<_ by rw[w];omega),ml o (show j-1<_ by rw[w];omega),ar,ut,O,P,uO,bie,be8,GL,AL,↓uL];refine⟨λc=>?_,λc=>?_⟩;have ab:=aNR c;refine Qo o (by omega) λg z E=>?_;simp only[qz 2,mx E<|dJ<|show j-1<L r+1 by omega,bh,↓uL];refine Qo E (by simp;omega) λY3 W F=>?_;simp only[qz 4,↓uL];refine dT rfl ?_;simp only[au,u0,u1,C j v (by omega),↓uL];rw[aIA v S] at F;refine⟨⟨j-1,by omega,rfl,F,λk X h2=>?_,(D.trans<|z.trans W).mono<|by simp⟩,by omega⟩;grind;have ad:=bpF c;refine nx _ (G λk hk=>?_) D;have X:gd r (j-1)<t:=(by grind [gd,asq]);rcases jj k (j-1) with H|H;have:=AD q H (by omega);omega;grind;grind [bP,bw,aNN,aoz]
def aCq{Y:ae}{b:Id}{l:List Int}(f:jC l)(c:box Y b=V ⟨3,1,U,I,l.map ci⟩)(o:L Y=4096)(s:L l<1000):∃e g,(e= .m b (L l)/\g=Y)/\cZ aS GG 217 [.m b<|L l] Y e g:=by refine aMy o ?_;have d:fS Y (.m b<|L l)=V (iv<|L l):=(by simp[fS,c]);simp only[JN,d,u0,u1,↓uL];refine⟨λh=>by simp[aNN,aoz],λh=>?_⟩;show lV [iv ((1:Nat):Int)] _ _;refine AI (α:=Unit) (λ_ i=>[iv i]) 0 (L l) 1 (by grind) (λi _ Y'=>1<=i/\Y'=Y) (s0:=()) ⟨by omega,rfl⟩ ?_;rintro i _ Y' r ⟨q,rfl⟩;simp only[qz 37,aI,au,d,u0,u1,↓uL];refine⟨λj=>?_,λj=>by simp[aNN,aoz]⟩;have a:=aL j;have p:dq.wrap ((i:Int)-1)=((i-1:Nat):Int):=(by grind [eM]);have k:Q (gd l i=gd l (i-1))=I:=(by have:=AD f (show i-1<i by omega) a;simp;omega);simp only[mx c<|dJ a,bh,ml c a,u0,u1,p,mx c<|dJ<|show i-1<L l by omega,ml c (show i-1<L l by omega),k,eE,aQ6,be8,GL,↓uL];exact yU a ⟨by omega,rfl⟩
def alB{Y:ae}{d:Nat}{K:be}{b:Id}{t x:Int}{e:TypeId}(c:box Y b=V ⟨e,1,U,U,[[iv t]]⟩)(g:L Y=4096)(a:K (bv<|Q<|x=t) Y):cF (.f 219 [] [.p b 0 0]) [iv x] Y d K:=by simp only[cF,rn];rw[j5 (show¬GG.nw 219=U by decide),lC<|show GG.imp 219=U by decide];refine(aS2 rfl (aK2 g ?_) a:cB 219 [iv x, .p b 0 0] Y d K);simp only[Ij,u0,u1,c,iF,aNN,aoz,J3,↓uL];grind [Fx.refl]
def aCv{Y:ae}{b c:Id}{l:List Int}{t:Int}{e:TypeId}(g:box Y b=V ⟨3,1,U,I,l.map ci⟩)(r:box Y c=V ⟨e,1,U,U,[[iv t]]⟩)(o:L Y=4096)(w:L l<1000):∃d i,(d=iv (oW l t)/\Fx Y i [])/\cZ aS GG 113 [.m b<|L l, .f 219 [] [.p c 0 0]] Y d i:=by refine aMB o ?_;have q:fS Y (.m b<|L l)=V (iv<|L l):=(by simp[fS,g]);simp only[JQ,q,u0,u1,↓uL];refine yV (L l) (λk _ Y'=>Y'=Y/\∀j,j<k->gd l j≠t) ⟨rfl,by simp⟩ ?_;rintro k _ Y' v ⟨rfl,u⟩;simp only[qz 19,aI,au,u0,u1,↓uL];refine⟨λh=>?_,λh=>?_⟩;have a:=aL h;simp only[mx g<|dJ a,bh,ml g a,aY,↓uL];refine alB r o ?_;simp only[u0,u1,↓uL];refine⟨λs=>?_,λs=>yU a<|by grind⟩;grind [aNN,aoz,anR,Fx.refl];grind [aNN,aoz,anS,bkb,bw,Fx.refl]
def gH(s:aW)(f8 amt:Int)(k:Nat):Int:=if eh s f8 k=[] then-1 else if amt∈eh s f8 k then amt else gd (eh s f8 k) 0
theorem AN{s:aW}{f8 x:Int}{k:Nat}:x∈eh s f8 k↔∃i:Nat,i<k/\pe s f8 i=U/\x=i:=by grind [eh]
theorem Li{s:aW}{f8:Int}{k:Nat}(h:eh s f8 k≠[]):0<=gd (eh s f8 k) 0/\gd (eh s f8 k) 0<k:=by grind [asq,eh,aqS,AN]
def axd{s:aW}{f8 amt:Int}{k:Nat}(h:0<=gH s f8 amt k):gH s f8 amt k<k/\eh s f8 k≠[]:=by grind [gH,AN,Li]
def axe{s:aW}{f8 amt:Int}{k:Nat}:gH s f8 amt (k+1)=if(pe s f8 k&&(Q (gH s f8 amt k<0)||Q ((k:Int)=amt)))=U then(k:Int) else gH s f8 amt k:=by have hs:=vc s f8 k;cases i:pe s f8 k with|false=>grind [eE,gH]|true=>rw[i,lC rfl] at hs;simp only[iw];by_cases c:eh s f8 k=[];have e:gH s f8 amt k= -1:=(by grind [gH]);rw[e,lC (by simp),gH,hs,c];simp only[dW,List.cons_ne_nil,brW,cE];split;omega;rfl;have j:¬gH s f8 amt k<0:=(by rw[gH,j5 c];split;grind [AN];simp_all [Li]);rw[show Q (gH s f8 amt k<0)=I by grind,lG];rw[gH,hs,j5<|by simp];by_cases g:(k:Int)=amt;simp_all;rw[j5 (show¬Q ((k:Int)=amt)=U by simpa using g),gH,j5 c];have d:amt∈eh s f8 k++[(k:Int)]↔amt∈eh s f8 k:=(by grind);have f:gd (eh s f8 k++[(k:Int)]) 0=gd (eh s f8 k) 0:=Dt<|aqS.2 c;by_cases a:amt∈eh s f8 k;rw[lC<|d.2 a,lC a];rw[j5<|λh=>a<|d.1 h,j5 a,f]
def giT{Y:ae}{a:AV}{l:List aoC}{k:Nat}{K:j4}(d:bc Y 138 3 a<|l.map aoC.c)(g:k<L l):(rV (cz 3 Y a<|iv k) λt=>rV (vp (V 3) Y t) K)=K (.a (gd l k).c):=by rcases d with⟨e,_⟩|⟨b,rfl,f⟩;simp_all;simp_all [cz,rV,vp,iE,aN,bT,aoC.c]
def DB{Y:ae}{a:AV}{l:List aoC}{i:Int}{j:Nat}{x:Value}{K:AV->be}(r:bc Y 138 3 a<|l.map aoC.c)(e:aF (L l) i)(y:j<3)(g:aoC)(v:(gd l i.toNat).c.set j (.s x)=g.c)(t:∀b Y',aA a=[b]->Fx Y Y' (aA a)->bc Y' 138 3 a ((l.set i.toNat g).map aoC.c)->K (.p b i.toNat 0) (.p b i.toNat j) Y'):rV (cz 3 Y a<|iv i) λp=>rV (iQ j Y p) λq=>sV (aK 1 Y q<|.s x) (K p q):=by have o:i.toNat<L l:=(by have:=e.1;have:=e.2;omega);rcases r with⟨w,_⟩|⟨b,rfl,d⟩;simp_all;have f:cz 3 Y (.m b<|L<|l.map aoC.c) (iv i)=V (.p b i.toNat 0):=(by simp[cz,e.1,d,o]);rw[f];simp only[rV,rR,d,df,aj];have u:(l.map aoC.c)[i.toNat]?=V (gd l i.toNat).c:=(by grind [eC,bT]);refine wL d u (by grind [aoC.c]) λY' h k=>t b Y' rfl h ?_;rw[v] at k;refine .inr ⟨b,by simp,?_⟩;simp_all
def aCD(s:aW)(f8 amt:Int){x1 x2 g:AV}{Y:ae}(E:L Y=4096)(hn:L s.ay<1000)(W:bc Y 138 3 g<|s.ay.map aoC.c):∃r e,(r=iv (gH s f8 amt<|L s.ay)/\bc e 138 3 g ((if 0<=gH s f8 amt (L s.ay) then s.ay.set (gH s f8 amt<|L s.ay).toNat {gd s.ay (gH s f8 amt<|L s.ay).toNat with cQ:=4} else s.ay).map aoC.c)/\Fx Y e (aA g))/\cZ aS GG 220 [.a [x1,iv s.tx,x2,g],iv f8,iv amt] Y r e:=by refine aK7 E rfl λt v3 v ad nf x=>?_;have u:=v.fx [];have A:=W.fx u (by simp);have H:L t=4096:=v.len.trans E;simp only[Ir,u0,u1,x,aj,iF,nM,J3,lnI A,bJ,↓uL];refine jD (α:=Int) (λa i=>[iv a,iv i]) 1 (L s.ay) (λk a Y'=>a=gH s f8 amt k/\Fx t Y' []) (s0:= -1) ⟨by simp[gH,eh],Fx.refl _ _⟩ ?_;rintro k _ e hk ⟨rfl,f⟩;have B:=A.fx f (by simp);have G:L e=4096:=f.len.trans H;have S:=f.kq x;simp only[qz 25,aI,au,ck,u0,u1,di,↓uL];refine⟨λh=>?_,λh=>?_⟩;have o:=aL h;refine bsK (λd=>∀(a:Int) (y:ae),a=gH s f8 amt (k+1)->Fx t y []->d [iv a] y) ?_ λd nx=>?_;rintro a y rfl F;simp only[qz 45,aI,au,ck,u0,u1,↓uL];exact dR (mk:=λa i=>[iv a,iv i]) (p:=1) (s:=gH s f8 amt k) (s':=gH s f8 amt<|k+1) (λ_ _=>rfl) o (by omega) ⟨rfl,F⟩;simp only[qz 47,qy 4,au,ck,giT B o,↓uL];refine ic G λZ Y2 O N2 T=>?_;refine cy (cs:=aoC.c<|gd s.ay k) T rfl rfl (by decide) λw P z=>?_;have q:box w (9,Z)=V ⟨138,3,U,U,[aoC.c<|gd s.ay k]⟩:=z;have j:Fx e w []:=(O.trans P).mono (by grind [ig.no]);have ab:=axe (s:=s) (f8:=f8) (amt:=amt) (k:=k);have M:(Q ((gd s.ay k).cQ=3)&&Q ((gd s.ay k).cond=f8))=pe s f8 k:=rfl;simp+contextual only[qz 6,u0,u1,q,rk,ar,ut,aj,au,ck,M,↓uL];refine⟨λX=>nx _ _ ?_<|f.trans j,λX=>nx _ _ ?_<|f.trans j⟩;simp_all;simp_all;obtain rfl:k=L s.ay:=(by grind);have R:Fx Y e []:=(u.trans f).mono (by simp);simp only[qz 65,qy 8,au,ck,u0,u1,↓uL];refine⟨λD=>?_,λD=>?_⟩;have m:=aNR D;have C:=(axd m).1;simp only[S,u0,u1,aj,iF,nM,J3,↓uL];refine DB B ⟨m,C⟩ (by decide) {gd s.ay (gH s f8 amt<|L s.ay).toNat with cQ:=4} rfl λb Y' ac N g'=>?_;simp only[qz 63,aI,au,aNN,aoz,↓uL];refine⟨trivial,?_,(R.trans N).mono<|by simp_all⟩;simp_all;simp only[qz 63,aI,au,aNN,aoz,↓uL];grind [Fx.mono]
abbrev mH(s:aW)(l:List Int):aW:=l.foldl (λs u=>ni s u {fA s u with cQ:=4}) s
def anr:∀(l:List Int) (s:aW),L (mH s l).ay=L s.ay
 |[],s=>rfl
 |u::l,s=>by
  show L (mH (ni s u _) l).ay=_
  rw[anr l];simp[ni]
theorem anq:∀(l:List Int) (s:aW) (k:Nat),(∀u∈l,u.toNat≠k)->gd (mH s l).ay k=gd s.ay k
 |[],s,k,_=>rfl
 |u::l,s,k,h=>by
  show gd (mH (ni s u _) l).ay k=_
  rw[anq l _ k<|by simp_all]
  grind [ni,gd]
def aD2(s:aW)(l:List Int)(u:Int):mH s (l++[u])=ni (mH s l) u {fA (mH s l) u with cQ:=4}:=by simp[mH]
def aCE(s:aW)(f8:Int){x1 x2 d:AV}{Y:ae}(F:L Y=4096)(hn:L s.ay<1000)(u:bc Y 138 3 d<|s.ay.map aoC.c):∃r f,(r=iv (L<|fO s f8)/\bc f 138 3 d ((mH s<|fO s f8).ay.map aoC.c)/\Fx Y f (aA d))/\cZ aS GG 221 [.a [x1,iv s.tx,x2,d],iv f8] Y r f:=by refine aK8 F rfl λO v3 z ah nf o=>?_;have y:=z.fx [];have C:=u.fx y (by simp);have H:L O=4096:=z.len.trans F;have v:∀{P:ae} {l:List aoC} {w:Id} {x:bY},bc P 138 3 d (l.map aoC.c)->box P w=V x->x.var=U->w∉aA d:=λu hw hx hm=>(by rcases u with⟨_,rfl⟩|⟨b,rfl,m⟩;simp[aA] at hm;grind [aA,cE]);simp only[Is,u0,u1,o,aj,iF,nM,J3,lnI C,bJ,↓uL];refine jD (α:=Int) (λa i=>[iv a,iv i]) 1 (L s.ay) (λk a Y'=>a=(L (eh s f8 k):Int)/\bc Y' 138 3 d ((mH s<|eh s f8 k).ay.map aoC.c)/\Fx O Y' (aA d)) (s0:=0) (by grind [eh,Fx.refl]) ?_;rintro k _ f hk ⟨rfl,t,g⟩;have G:L f=4096:=g.len.trans H;have W:=g.keep _ _ (v C o rfl) o;have M:=anr (eh s f8 k) s;have ag:=wU s f8 k;simp only[qz 25,aI,au,ck,u0,u1,di,↓uL];refine⟨λh=>?_,λh=>?_⟩;have j:=aL h;have E:gd (mH s<|eh s f8 k).ay k=gd s.ay k:=(by grind [anq,AN]);simp only[qz 47,qy 4,au,ck,giT t (by rw[M];exact j),E,↓uL];refine ic G λv9 Y2 S N2 Z=>?_;refine cy (cs:=aoC.c<|gd s.ay k) Z rfl rfl (by decide) λA T B=>?_;have q:box A (7,v9)=V ⟨138,3,U,U,[aoC.c<|gd s.ay k]⟩:=B;have e:Fx f A []:=(S.trans T).mono (by grind [ig.no]);have D:=t.fx e (by simp);have X:=e.kq W;have hs:=vc s f8 k;have N:(Q ((gd s.ay k).cQ=3)&&Q ((gd s.ay k).cond=f8))=pe s f8 k:=rfl;simp+contextual only[qz 6,qy 8,u0,u1,q,rk,ar,ut,aj,au,ck,N,↓uL];refine⟨λm=>?_,λm=>?_⟩;rw[m,lC rfl] at hs;simp only[X,u0,u1,aj,iF,nM,J3,↓uL];refine DB D (by grind [dJ]) (by decide) {fA (mH s<|eh s f8 k) k with cQ:=4} rfl λb Y' af R g'=>?_;simp only[qz 45,aI,au,ck,u0,u1,↓uL];refine dR (mk:=λa i=>[iv a,iv i]) (p:=1) (s:=(L (eh s f8 k):Int)) (s':=dq.wrap<|(L (eh s f8 k):Int)+1) (λ_ _=>rfl) j (by omega) ?_;refine⟨?_,?_,(g.trans<|e.trans R).mono<|by simp_all⟩;grind [fX];rw[hs,aD2];exact g';rw[m] at hs;simp only[eE,brW,cL] at hs;simp only[qz 45,aI,au,ck,u0,u1,↓uL];refine dR (mk:=λa i=>[iv a,iv i]) (p:=1) (s:=(L (eh s f8 k):Int)) (s':=(L (eh s f8 k):Int)) (λ_ _=>rfl) j (by omega) ?_;rw[hs];exact⟨rfl,D,(g.trans e).mono<|by simp_all⟩;obtain rfl:k=L s.ay:=(by grind);simp only[aNN,aoz];exact⟨rfl,t,(y.trans g).mono<|by simp_all⟩
def apl:dO:=apn
def yR:eJ apl:=wR
def aBn:=@ut
def atE:=lA 13 [(4,([13],[1,2,3,11,12]))]
def Iq a b R:=(.mk _:NS apl atE Tryz.f215 [.u] [a] b R).p
def aK6{c0:List AV}{s0:ae}{R:be}(hs:L s0=4096)(l0:L c0=4)(h:HB1 36 4 1 c0 s0 λc b=>Iq c b R):EB 215 [.a c0] s0 R:=zB1 atE yR Tryz.func215 hs l0 h
def avc:=lA 34 [(2,([1,2,3,8,9],[0])),(10,([3],[0,1,2,8,9,10])),(14,([11,12],[0,1,2,3,8,9,10])),(18,([],[0,1,2,3,8,9,10,11]))]
def JU a a1 b c s0 R:=(.mk _:NS apl avc Tryz.f253 [a,a1,b,c] [] s0 R).p
def aMF{a a1 b c:AV}{s0:ae}{R:be}(hs:L s0=4096)(h:JU a a1 b c s0 R):EB 253 [a,a1,b,c] s0 R:=zB avc yR Tryz.func253 h
def ava:=lA 1 []
def JS a s0 R:=(.mk _:NS apl ava Tryz.f216 [a] [] s0 R).p
def aMD{a:AV}{s0:ae}{R:be}(hs:L s0=4096)(h:JS a s0 R):EB 216 [a] s0 R:=zB ava yR Tryz.func216 h
def au7:=lA 16 [(7,([5,6],[0,1])),(10,([5],[0,1,6]))]
def JO a a1 s0 R:=(.mk _:NS apl au7 Tryz.f218 [a,a1] [] s0 R).p
def aMA{a a1:AV}{s0:ae}{R:be}(hs:L s0=4096)(h:JO a a1 s0 R):EB 218 [a,a1] s0 R:=zB au7 yR Tryz.func218 h
def atB:=lA 12 []
def In b a c d e f R:=(.mk _:NR apl atB Tryz.f210 [.u, .u,c,d,e] [b,a] f R).p
def aK3{c0:List AV}{b:List AV}{c d e:AV}{R:j4}(l0:L c0=6)(l1:L b=4)(h:H2 31 6 5 c0 36 4 6 b λia f g=>In ia f c d e g R):Ct 210 [.a c0, .a b,c,d,e] R:=z2 atB yR Tryz.func210 l0 l1 h
def aCG{Y:ae}{b:Id}{r:List Int}{t d:Int}(e:jC r)(k:t∉r)(j:L r<12)(i:box Y b=V ⟨3,1,U,I,(r++[t]).map ci⟩)(f:L Y=4096):∃a c,(a= .t []/\box c b=V ⟨3,1,U,I,(fk r t).map ci⟩/\Fx Y c [b])/\cZ aS GG 253 [.m b<|L r+1,iv 0,iv ((L r+1:Nat):Int),iv d] Y a c:=by refine aMF f ?_;simp only[JU];refine⟨λvs Y'=>vs=[iv 0,iv ((L r+1:Nat):Int),iv d,bv U,bv U]/\Y'=Y,λ_ _=>0,⟨rfl,rfl⟩,?_⟩;rintro vs Y' ⟨rfl,rfl⟩;have g:Q (((L r+1:Nat):Int)<=12)=U:=(by simp;omega);simp only[qz 13,qy 2,aI,au,u0,u1,Int.sub_zero,eM (x:=((L r+1:Nat):Int)) (by omega) (by omega),g,↓iC];refine jH rfl (aCw e k j i f) ?_;rintro a c ⟨rfl,l,h⟩;exact⟨h.len,by grind [aNN,aoz]⟩
def aCO{Y:ae}{b:Id}{r:List Int}{t:Int}(d:jC r)(l:t∉r)(j:L r<12)(e:box Y b=V ⟨3,1,U,I,(r++[t]).map ci⟩)(g:L Y=4096):∃a c,(a= .t []/\box c b=V ⟨3,1,U,I,(fk r t).map ci⟩/\Fx Y c [b])/\cZ aS GG 216 [.m b<|L r+1] Y a c:=by refine aMD g ?_;have h:fS Y (.m b<|L r+1)=V (iv ((L r+1:Nat):Int)):=(by simp[fS,e]);have f:sO (V .u64) (iv ((L r+1:Nat):Int))=V (.s<|.int .u64 ((L r+1:Nat):Int)):=(by show V (AV.s<|.int .u64<|IntKind.u64.wrap _)=_;grind [IntKind.wrap_u64]);simp only[JS,qy 2,h,aY,f,ar,ut];refine⟨by omega,?_⟩;rintro k ⟨n,rfl⟩;refine⟨.inl rfl,?_⟩;refine jH rfl (aCG d l j e g) ?_;rintro a c ⟨rfl,o,i⟩;exact⟨i.len,by grind [aNN,aoz]⟩
def apJ{l:List Int}{t:Int}{j:Nat}(h:j<L l):fJ (l.take<|j+1) t=fJ (l.take j) t++if gd l j≠t then[gd l j] else[]:=by grind [fJ,iJ,bT]
def aE6{l:List Int}{t:Int}(h:t∈l):∃i:Nat,oW l t=i/\i<L l/\gd l i=t/\∀j,j<i->gd l j≠t:=by have hs:(l.findIdx? λx=>Q<|x=t).isSome=U:=(by simp_all);grind [zz,List.findIdx?_eq_some_iff_getElem,oW,bT]
def aCs{Y:ae}{b c:Id}{l:List Int}{t:Int}{e:TypeId}(hm:t∈l)(B:box Y b=V ⟨3,1,U,I,l.map ci⟩)(D:box Y c=V ⟨e,1,U,U,[[iv t]]⟩)(z:L Y=4096)(hn:L l<1000):∃x n,(x= .m b (L<|fJ l t)/\box n b=V ⟨3,1,U,I,(fJ l t++er (L l-L (fJ l t)) 0).map ci⟩/\Fx Y n [b])/\cZ aS GG 218 [.m b<|L l, .f 219 [] [.p c 0 0]] Y x n:=by refine aMA z ?_;have C:c≠b:=(by grind);simp only[JO];refine aS2 rfl (aCv B D z hn) ?_;obtain⟨v,hp,N,M,ac⟩:=aE6 hm;rw[hp];have R:Q ((v:Int)= -1)=I:=(by simp);simp only[qz 2,u0,u1,R,eE,aQ6,be8,GL];rw[fX<|by omega];have X:fJ (l.take<|v+1) t=l.take v:=(by rw[apJ N,j5 (by simp[M]),cL,fJ,GA];grind [ou,bT]);refine AI (α:=Nat) (λa i=>[iv (a:Int),iv i]) 1 (L l) (v+1) (by omega) (λj a Y'=>∃d:List Int,a=L (fJ (l.take j) t)/\a<j/\L d=L l/\d.take a=fJ (l.take j) t/\d.drop j=l.drop j/\box Y' b=V ⟨3,1,U,I,d.map ci⟩/\Fx Y Y' [b]) (s0:=v) ⟨l,?_,by omega,rfl,?_,rfl,B,Fx.refl _ _⟩ ?_;grind;rw[X];rintro j a n hj ⟨d,A,ak,F,W,K,o,r⟩;have O:L n=4096:=r.len.trans z;have c1:=r.keep _ _ (by simpa using C) D;have P:fS n (.m b<|L l)=V (iv<|L l):=(by simp[fS,o]);simp only[qz 43,aI,au,P,u0,u1];refine⟨λh=>?_,λh=>?_⟩;have q:=aL h;have H:gd d j=gd l j:=(by have h1:(d.drop j)[0]?=(l.drop j)[0]?:=(by rw[K]);grind [eC,bT]);have w:=apJ (t:=t) q;simp only[qz 65,qy 6,au,ck,mx o<|dJ q,bh,ml o (show j<L d by omega),aY,H];refine alB c1 O ?_;simp only[u0,u1];refine⟨λhv=>?_,λhv=>?_⟩;have u:gd l j≠t:=(by grind);rw[lC u] at w;simp only[mx o<|dJ<|show a<L l by omega,bh];refine Qo o (by omega) λY2 Z b2=>?_;simp only[qz 63,aI,au,u0,u1];rw[fX (k:=a)<|by omega];refine dR (mk:=λ(a:Nat) i=>[iv (a:Int),iv i]) (p:=1) (s:=a) (s':=a+1) (λ_ _=>rfl) q (by omega) ?_;refine⟨d.set a<|gd l j,by simp_all,by omega,by simp[F],?_,?_,b2,(r.trans Z).mono<|by simp⟩;grind [iJ,List.take_set_of_le];rw[List.drop_set_of_lt<|by omega];have:d.drop (j+1)=(d.drop j).drop 1:=(by simp);simp_all;have u:gd l j=t:=(by grind);rw[j5 (by simp[u]),cL] at w;simp only[qz 63,aI,au,u0,u1];refine dR (mk:=λ(a:Nat) i=>[iv (a:Int),iv i]) (p:=1) (s:=a) (s':=a) (λ_ _=>rfl) q (by omega) ?_;refine⟨d,by simp_all,by omega,F,by simp_all,?_,o,r⟩;have:d.drop (j+1)=(d.drop j).drop 1:=(by simp);simp_all;obtain rfl:j=L l:=(by grind);rw[gV] at A W;have T:fo 1 n (.m b<|L l) (V<|iv (a:Int)) J J=V (.g 2 b a<|L l-a):=(by simp only[fo,lM];grind [qY,bh]);simp only[T,aY];have E:pA (.int .i64 0) n (.g 2 b a<|L l-a)=V (wr n b ⟨3,1,U,I,(d.take a++er (L l-a) 0++d.drop (L l)).map ci⟩):=(by simp only[pA,o];rw[lC ⟨trivial,by omega⟩];congr 3;rw[show a+(L l-a)=L l by omega];simp);simp only[E,aoq,qz 8,au];have y:=lO (x':=⟨3,1,U,I,(d.take a++er (L l-a) 0++d.drop (L l)).map ci⟩) o;have S:fo 1 (wr n b ⟨3,1,U,I,(d.take a++er (L l-a) 0++d.drop (L l)).map ci⟩) (.m b<|L l) J (V<|iv (a:Int)) J=V (.m b a):=(by simp only[fo,lM];rw[lC<|by omega];simp only[qY,y,aQd,bh,mi];rw[lC ⟨trivial,trivial,by omega⟩]);simp only[S,aY,aNN,aoz];have G:d.drop (L l)=[]:=(by grind);rw[G,cL,W] at y;subst A;rw[show d.take (L<|fJ l t)++er (L l-L (fJ l t)) 0++d.drop (L l)=fJ l t++er (L l-L (fJ l t)) 0 by simp_all];exact⟨rfl,y,(r.trans<|wc o).mono<|by simp⟩
def anf{Y a:ae}{b:Id}{x:bY}(c:Fx Y a [b])(h:box a b=V x):LoC b x Y a:=⟨c.len,c.I6,(by grind [Fx.keep]),h⟩
def awP{Y:ae}{d:Nat}{K:be}{b:Id}{l:List Int}(e:jC l)(c:box Y b=V ⟨3,1,U,I,l.map ci⟩)(j:L Y=4096)(k:L l<1000)(i:∀Y',Fx Y Y' [b]->box Y' b=V ⟨3,1,U,I,l.map ci⟩->K (.m b<|L l) Y'):cN 217 [.m b<|L l] Y d K:=by refine .inr (.inl ⟨.m b<|L l,b,_,⟨3,1,U,I,l.map ci⟩,L l,rfl,c,(by grind [qA,gY]), .inr ⟨_,rfl⟩,λg f n=>?_,i _ (wc c)<|lO c⟩);have a:box g b=V ⟨3,1,U,I,l.map ci⟩:=(by grind [nQ,pP,dC,dK]);obtain⟨r,o,⟨rfl,rfl⟩,h⟩:=aCq e a (f.trans j) k;exact⟨_,h,anf (Fx.refl _ _) a⟩
def awR{Y:ae}{d:Nat}{K:be}{b c:Id}{l:List Int}{t:Int}{e:TypeId}(u:t∈l)(a:box Y b=V ⟨3,1,U,I,l.map ci⟩)(z:box Y c=V ⟨e,1,U,U,[[iv t]]⟩)(s:L Y=4096)(v:L l<1000)(q:∀Y',Fx Y Y' [b]->box Y' b=V ⟨3,1,U,I,(fJ l t++er (L l-L (fJ l t)) 0).map ci⟩->K (.m b<|L<|fJ l t) Y'):cN 218 [.m b<|L l, .f 219 [] [.p c 0 0]] Y d K:=by have x:L (fJ l t)<=L l:=fZ _ _;refine .inr (.inl ⟨.m b<|L<|fJ l t,b,_,⟨3,1,U,I,(fJ l t++er (L l-L (fJ l t)) 0).map ci⟩,L l,rfl,a,(by grind [qA,gY]), .inr ⟨_,rfl⟩,λg k w=>?_,q _ (wc a)<|lO a⟩);have i:box g b=V ⟨3,1,U,I,l.map ci⟩:=(by grind [nQ,pP,dC,dK]);have j:box g c=V ⟨e,1,U,U,[[iv t]]⟩:=(by grind [nQ,pP,dC,dK]);obtain⟨r,y,⟨rfl,n,o⟩,h⟩:=aCs u i j (k.trans s) v;exact⟨_,h,anf o n⟩
theorem Ny{x:Int}{l:List Int}:jC (x::l)↔(∀y∈l.head?,x<y)/\jC l:=by constructor;intro h;refine⟨λy a=>?_,λi b=>by have:=h (i+1) (by simp;omega);grind [gd]⟩;(cases l with|nil=>simp at a|cons z l=>simp only[List.head?_cons,Option.mem_def,bE] at a;subst a;have:=h 0 (by simp);grind [gd]);rintro⟨d,c⟩ i b;cases i with|zero=>(cases l with|nil=>simp at b|cons z l=>simp_all [gd])|succ i=>have:=c i (by simp_all);grind [gd]
def aE9{l:List Int}{t:Int}:∀y∈(fk l t).head?,y=t\/y∈l.head?:=by cases l with|nil=>simp[fk]|cons x l=>grind [fk]
theorem Nz:∀{l:List Int} {t:Int},jC l->jC (fk l t)
 |[],t,_=>by intro i c;simp[fk] at c
 |x::l,t,h=>by
  have b:=Ny.1 h
  simp only[fk]
  split
  ·rename_i d
   refine Ny.2 ⟨λy a=>?_,Nz b.2⟩
   rcases aE9 y a with rfl|a
   ·exact d
   simp_all
  grind [Ny]
def an0:∀{l:List Int} {t:Int},(∀x∈l,x<t)->fk l t=l++[t]
 |[],t,_=>rfl
 |x::l,t,h=>by
  simp only[fk,lC<|h x<|by simp,zn]
  rw[an0<|by simp_all]
def an3{l:List Int}(h:jC l):∀k,k<=L l->jh [] l k=l.take k
 |0,_=>rfl
 |k+1,e=>by
  have a:k<L l:=by omega
  have hs:jh [] l (k+1)=fk (jh [] l k) (gd l k):=by
   grind [jh,iJ,bT]
  rw[hs,an3 h k (by omega),iJ a,<-bT a]
  refine an0 λx c=>?_
  obtain⟨j,d,rfl⟩:=ou c
  have b:j<k:=by grind
  have:=AD h b a
  grind [bT]
theorem Ro{l:List Int}{t:Int}(h:jC l):mP l [t]=fk l t:=by show jh (jh [] l<|L l) [t] 1=_;rw[an3 h _<|dA _,gV];rfl
def io(n:Nat)(f:Nat->List AV):List (List AV):=(aH n).map f
theorem aH0{n:Nat}{f:Nat->List AV}:L (io n f)=n:=by simp[io]
def uU{n:Nat}{f:Nat->List AV}{k:Nat}(h:k<n):(io n f)[k]?=V (f k):=by simp[io,h]
def yC{n:Nat}{f g:Nat->List AV}(h:∀i,i<n->f i=g i):io n f=io n g:=ja λi a=>h i<|fq.1 a
def Bl{n:Nat}{f:Nat->List AV}{k:Nat}{x:List AV}:(io n f).set k x=io n λi=>if i=k then x else f i:=by refine biF (by simp[io]) λj a b=>?_;grind [io]
def Q0{n:Nat}{x:List AV}:er n x=io n λ_=>x:=by refine biF (by simp[io]) λj a b=>?_;simp[io]
def aH1{α:Type}[Inhabited α]{l:List α}{g:α->List AV}:(l.map g)=io (L l) λi=>g (gd l i):=by refine biF (by simp[io]) λj a b=>?_;grind [io,bT]
def qg(Y:ae)(e:TypeId)(z:Nat)(a:AV)(bA:List<|List AV):Prop:=(bA=[]/\a= .l [] U U)\/∃b c,a= .m b (L bA)/\box Y b=V ⟨e,z,U,I,c⟩/\c.take (L bA)=bA
theorem qg.fx{Y Y':ae}{ks:List Id}{e:TypeId}{z:Nat}{a:AV}{bA:List (List AV)}(i:qg Y e z a bA)(g:Fx Y Y' ks)(j:∀b∈aA a,b∉ks):qg Y' e z a bA:=by rcases i with h|⟨b,c,rfl,d,f⟩;exact .inl h;exact .inr ⟨b,c,rfl,g.keep b _ (j b<|by simp[aA]) d,f⟩
def bc.x{Y:ae}{e:TypeId}{z:Nat}{a:AV}{bA:List (List AV)}(d:bc Y e z a bA):qg Y e z a bA:=by rcases d with h|⟨b,rfl,c⟩;exact .inl h;exact .inr ⟨b,bA,rfl,c,gV⟩
theorem qg.ids{Y:ae}{e:TypeId}{z:Nat}{a:AV}{bA:List (List AV)}(d:qg Y e z a bA):∀k∈aA a,∃c,box Y k=V ⟨e,z,U,I,c⟩:=by rcases d with⟨_,rfl⟩|⟨b,c,rfl,f,g⟩;simp[aA];grind [aA,cE]
theorem qg.ce{Y:ae}{e:TypeId}{z:Nat}{a:AV}{bA:List (List AV)}(c:qg Y e z a bA):eY a=V [a]:=by rcases c with⟨_,rfl⟩|⟨b,_,rfl,_⟩<;>rfl
theorem qg.fr{Y:ae}{e:TypeId}{a:AV}{l:List Int}(f:qg Y e 1 a<|l.map ci):frN Y a=sl ci l:=by rcases f with⟨h,rfl⟩|⟨b,g,rfl,c,d⟩;simp at h;subst h;rfl;simp only[frN,aOn,c,aPI,gK];rw[d];rfl
def vC(Y:ae)(a:AV)(ls:List cg):Prop:=∃(b:Id) (f:Nat->AV),a= .m b (L ls)/\box Y b=V ⟨184,2,U,U,io (L ls) λi=>[iv (gd ls i).awG,f i]⟩/\(∀i,i<L ls->bc Y 3 1 (f i) ((gd ls i).bk.map ci))/\(∀i j,i<L ls->j<L ls->i≠j->∀k∈aA (f i),k∉aA (f j))/\∀i,i<L ls->∀k∈aA (f i),k.1=24
def sC(Y:ae)(a:AV)(ls:List cg):Prop:=∃(b:Id) (f:Nat->AV),a= .m b (L ls)/\box Y b=V ⟨184,2,U,U,io (L ls) λi=>[iv (gd ls i).awG,f i]⟩/\(∀i,i<L ls->qg Y 3 1 (f i) ((gd ls i).bk.map ci))/\∀i j,i<L ls->j<L ls->i≠j->∀k∈aA (f i),k∉aA (f j)
def Bp{Y:ae}{b:Id}{i j z y:Nat}{e:TypeId}{o:Bool}{bA:List (List AV)}{r cs:List AV}{x:AV}{K:ae->Prop}(a:box Y b=V ⟨e,z,o,U,bA⟩)(g:bA[i]?=V r)(h:eY x=V cs)(k:L cs=y)(f:j+y<=L r)(d:∀Y',Fx Y Y' [b]->box Y' b=V ⟨e,z,o,U,bA.set i<|r.take j++cs++r.drop (j+y)⟩->K Y'):sV (aK y Y (.p b i j) x) K:=by have c:aK y Y (.p b i j) x=V (wr Y b ⟨e,z,o,U,bA.set i<|r.take j++cs++r.drop (j+y)⟩):=(by grind [aK,aBG,pW]);rw[c];exact d _ (wc a)<|lO a
def AP{e:TypeId}{zs:List AV}{by' d n:Nat}{Y:ae}{K:be}(i:0<L zs)(h:zs.all eN=U)(a:d<L Y)(j:n*(by'+1)<=1099511627776)(g:∀b Y',b.1=d->ig Y b->Fx Y Y' []->box Y' b=V ⟨e,L zs,U,uj zs,er n<|mz zs⟩->K (.m b n) Y'):eV (qO e zs by' Y d (iv n)<|iv n) K:=by have c:qO e zs by' Y d (iv n) (iv n)=V (.m (zt Y d) n,put Y d ⟨e,L zs,U,uj zs,er n<|mz zs⟩):=(by have f:(n:Int)*((by':Int)+1)<=((1099511627776:Nat):Int):=(by grind);simp only[qO];rw[lC ⟨by omega,Int.le_refl _,i,h,by simp[aRI,a],f⟩];simp);rw[c];exact g _ _ rfl (qQ Y d) (kH a)<|be7 a
def aqw(s:aW)(r:AV)(e Y:ae):Prop:=∃a1 d b,r= .a [a1,iv s.tx,d,b]/\vC Y a1 s.ak/\bc Y 4 1 d (s.done.map cb)/\bc Y 138 3 b (s.ay.map aoC.c)/\(∀k∈aA a1++aA d++aA b,ig e k)/\∀k∈aA b,k.1≠7/\k.1≠8
def aCp(s:aW){Y:ae}(hl:L Y=4096)(hp:L s.ak<1000/\L s.done<1000/\L s.ay<1000/\∀l∈s.ak,L l.bk<1000):∃r Y1,(aqw s r Y Y1/\Fx Y Y1 [])/\cZ aS GG 215 [.a s.c] Y r Y1:=by refine aK6 hl rfl λs2 n K2 bw bz b1=>?_;have D:Fx Y s2 []:=K2.fx [];have an:L s2=4096:=K2.len.trans hl;simp only[Iq];refine ic an λK Y2 N N2 b2=>?_;have d1:=N.kq b1;have a0:L Y2=4096:=N.len.trans an;simp only[qz 4,u0,u1,d1,rk,aj];refine AP (by decide) (by decide) (by omega) (by omega) λd Y3 bt NL F3 aQ=>?_;have hL:box Y3 d=V ⟨184,2,U,U,io (L s.ak) λ_=>[iv 0, .l [] U U]⟩:=(by rw[aQ,Q0];rfl);have e1:=F3.kq d1;simp only[qz 6,u0,u1,e1,rk,aj];refine yV (L s.ak) (λk _ Y'=>Fx Y2 Y' []/\∃f:Nat->AV,box Y' d=V ⟨184,2,U,U,io (L s.ak) λi=>if i<k then[iv (gd s.ak i).awG,f i] else[iv 0, .l [] U U]⟩/\(∀i,i<k->bc Y' 3 1 (f i) ((gd s.ak i).bk.map ci))/\(∀i j,i<k->j<k->i≠j->∀q∈aA (f i),q∉aA (f j))/\(∀i,i<k->∀q∈aA (f i),q≠d)/\∀i,i<k->∀q∈aA (f i),q.1=24) (by simp_all) ?_;rintro k _ A hk ⟨E,f,aT,T,aP,bs,aR⟩;have W:L A=4096:=E.len.trans a0;have g1:=E.kq d1;have g2:=E.kq b2;simp only[qz 25,qy 8,aI,au,u0,u1,ix,rk,bh,g1,aj];refine⟨λh=>⟨u7 h,?_⟩,λh=>?_⟩;have X:=aL h;refine ic W λv5 Y5 o N5 b5=>?_;refine cy (cs:=cg.c<|gd s.ak k) b5 rfl rfl (by decide) λZ t P=>?_;have aN:box Z (5,v5)=V ⟨184,2,U,U,[cg.c<|gd s.ak k]⟩:=P;have C:Fx A Z []:=(o.trans t).mono (by grind [ig.no]);have bu:L Z=4096:=C.len.trans W;simp only[qz 10,u0,u1,aN,rk,aj];refine Kr (bA:=(gd s.ak k).bk.map ci) rfl fF (by grind [asq]) (by simp[gY]) (by omega) λG Y7 g7 u N7=>?_;have aU:bM btg bmK [(0,iv (gd s.ak k).awG),(1,G)]=V (.a [iv (gd s.ak k).awG,G]):=(by simp[bM,aly,ms g7,zU]);have am:=u.kq<|C.kq aT;have aV:cz 2 Y7 (.m d<|L s.ak) (iv k)=V (.p d k 0):=(by simp[cz,am,X]);simp only[qz 12,aU,aY,aV,au];refine Bp am (uU X) (x:= .a [iv (gd s.ak k).awG,G]) rfl rfl (by simp) λY8 F R=>?_;simp only[qz 14];refine dT rfl ?_;simp only[au,u0,u1];have bm:∀q∈aA G,q≠d:=(by grind);have bn:∀i,i<k->∀q∈aA (f i),q∉aA G:=λi y q g a4=>(by obtain⟨v,b⟩:=(T i y).x.ids q g;exact(N7 q a4).1.no _<|C.kq b);have aC:Fx A Y8 [d]:=(C.trans<|u.trans F).mono (by simp);refine yU X ⟨(E.trans aC).mono (by grind [ig.no]),λi=>if i=k then G else f i,?_,?_,?_,?_,?_⟩;rw[R,Bl];congr 2;refine yC λi y=>?_;grind;intro i y;by_cases h1:i=k;grind [bc.fx];grind [bc.fx];grind;grind;grind;obtain rfl:k=L s.ak:=(by grind);have aB:box A d=V ⟨184,2,U,U,io (L s.ak) λi=>[iv (gd s.ak i).awG,f i]⟩:=(by simp_all [yC]);have n1:d≠(1,n):=(NL.ne d1).symm;refine cy (cs:=[.m d<|L s.ak]) g1 rfl rfl (by simp[aW.c]) λY5 o b5=>?_;have ah:box Y5 (1,n)=V ⟨36,4,U,U,[[.m d<|L s.ak,iv s.tx,sl cb s.done,sl aoC.c s.ay]]⟩:=b5;have a1:L Y5=4096:=o.len.trans W;simp only[qz 16,u0,u1,ah,aj,iF,nM,J3];refine aw2 (bA:=s.done.map cb) rfl (by grind) (by simp;omega) (by simp[gY]) (by omega) λB Z g6 t N6=>?_;have P:=t.kq ah;simp only[qz 18,u0,u1,P,aj];refine cy (cs:=[B]) P (ms g6) rfl (by simp) λY7 u b7=>?_;have al:box Y7 (1,n)=V ⟨36,4,U,U,[[.m d<|L s.ak,iv s.tx,B,sl aoC.c s.ay]]⟩:=b7;have bv:L Y7=4096:=u.len.trans<|t.len.trans a1;simp only[qz 20,u0,u1,al,aj,iF,nM,J3];refine aw1 (bA:=s.ay.map aoC.c) rfl (qW (f:=aoC.c) λ_=>rfl) (by simp;omega) (by simp[gY,aoC.c]) (by omega) λH Y8 g8 F N8=>?_;have R:=F.kq al;simp only[qz 22,u0,u1,R,aj];refine cy (cs:=[H]) R (ms g8) rfl (by simp) λY9 F9 b9=>?_;have aO:box Y9 (1,n)=V ⟨36,4,U,U,[[.m d<|L s.ak,iv s.tx,B,H]]⟩:=b9;have ad:Fx A Y9 [(1,n)]:=(o.trans<|t.trans<|u.trans<|F.trans F9).mono (by simp);have bx:(2,K)≠(1,n):=(by simp);have g9:=ad.kq g2;simp only[qz 24,qy 26,u0,u1,aO,uS];refine cy (cs:=[.m d<|L s.ak,iv s.tx,B,H]) g9 rfl rfl (by decide) λag M aM=>?_;have ar:box ag (2,K)=V ⟨36,4,U,U,[[.m d<|L s.ak,iv s.tx,B,H]]⟩:=aM;simp only[u0,u1,ar,uS,aNN,aoz];have af:Fx Y A []:=(D.trans<|N.trans E).mono (by simp);have O:Fx A ag [(1,n),(2,K)]:=(ad.trans M).mono (by simp);have hv:∀{q:Id} {e:TypeId} {z:Nat} {v:List (List AV)} {τ:ae},box τ q=V ⟨e,z,U,I,v⟩->∀{w:Id} {x:bY},box τ w=V x->x.var=U->q≠w:=(by grind);have k1:∀i,i<L s.ak->∀q∈aA (f i),q∉[(1,n),(2,K)]:=λi y q g=>(by obtain⟨v,b⟩:=(T i y).x.ids q g;simp only[eW,ql,bjz,not_or];grind);have i2:∀q∈aA B,q∉[(1,n)]/\q∉[(2,K)]:=λq g=>(by obtain⟨v,b⟩:=g6.x.ids q g;have S:=t.kq<|o.kq g2;exact⟨by simpa using hv b P rfl,by simpa using hv b S rfl⟩);have i3:∀q∈aA H,q∉[(1,n)]/\q∉[(2,K)]:=λq g=>(by obtain⟨v,b⟩:=g8.x.ids q g;have S:=F.kq<|u.kq<|t.kq<|o.kq g2;exact⟨by simpa using hv b R rfl,by simpa using hv b S rfl⟩);refine⟨⟨_,B,H,rfl,⟨d,f,rfl,?_,λi y=>(T i y).fx O<|k1 i y,aP,aR⟩,?_,?_,?_,λk hk=>by have:=(N8 k hk).2;omega⟩,?_⟩;refine O.keep _ _ ?_ aB;simp only[eW,ql,bjz,not_or];grind;exact((g6.fx u λq g=>(i2 q g).1).fx F<|by simp).fx (F9.trans M) (by grind);exact g8.fx (F9.trans M) (by grind);intro q g;simp only[dF,aA,cE] at g;rcases g with(rfl|g)|g;exact NL.old<|D.trans N;exact rC (gl (af.I6 _)<|o.I6 _) (N6 q g).1;exact rC (gl (af.I6 _)<|gl (o.I6 _)<|gl (t.I6 _)<|u.I6 _) (N8 q g).1;refine((D.trans N).trans<|E.trans O).mono ?_;simp only[dW,eW,ql,bjz];rintro q (rfl|rfl);grind;exact .inr λx hx=>N2.no _<|D.kq hx
def Ov(w:J9)(s:aW)(t kind f8:Int)(v:lh w s=U/\L w.bC<=2/\(∀l∈s.ak,L l.bk<100000)):Ct 210 [.a w.c, .a s.c,iv t,iv kind,iv f8] (·=bv (jm w s t kind f8)):=by refine aK3 rfl rfl λK G h i D=>?_;obtain⟨b,k,n⟩:=v;obtain⟨z,A,B,C⟩:=iY b;simp+contextual only[In,qy 6,u0,u1,ut,ar,h,i,rk,ix,aj,b,k,lG,aOe];rcases g:dh t (L w.ay) with _|_;simp[jm,g];rcases d:named w kind f8 with _|_;simp[jm,g,d];have f:aF (L s.ay) t:=(by grind [dX]);simp only[fh,kz,f,GL,eE,aQ6,be8];refine eF rfl rfl (by decide) (by omega) λY F o=>?_;have p:box Y (5,1)=_:=F.bt h;have q:box Y (6,1)=_:=F.bt i;have m:jm w s t kind f8=lc w s t kind f8:=(by simp[jm,b,g,d]);rw[m,axG];simp+contextual only[qz 8,↓iS,u0,u1,ut,ar,o,p,q,rk,ix,aj];obtain⟨x,H,r,M,y⟩:=D0 b d;refine⟨λu=>?_,λu=>⟨λe=>?_,λe=>⟨λ_=>⟨b,d,f,n⟩,?_⟩⟩⟩;rfl;have:=aNR e;have j:=r (by omega) (by omega);exact⟨λ_ _=>j,λ_ _=>x j,rfl⟩;simp only[bkl];rcases E:Q ((gd s.ay t.toNat).cQ=2) with _|_<;>simp_all
def BU:FT:=bpg Ov
def ays{w s t kind f8 Lw K}:=KQ BU Ov w s t kind f8 Lw K
def Rm:dO:=(210,BU)::apl
def ape:eJ Rm:=ve (Rt Ov)<|yR
def aml:=ai @ays<|@aBn
def ak9:=lA 31 [(6,([15],[7,12])),(10,([42],[4,5,6,7,8,12,15,27])),(12,([51],[4,5,6,7,8,12,15,27]))]
def Ii c b a d e f g R:=(.mk _:NR Rm ak9 Tryz.f150 [.u, .u, .u,d,e,f] [c,b,a] g R).p
def aK1{c0:List AV}{e:List AV}{d f g i:AV}{R:j4}(l0:L c0=6)(l1:L e=4)(y:eY d=V [d])(h:∀b:ae,L b=4096->box b (6,1)=V ⟨31,6,U,U,[c0]⟩->box b (7,1)=V ⟨36,4,U,U,[e]⟩->box b (8,1)=V ⟨3,1,U,U,[[d]]⟩->(∀k,k≠6->k≠7->k≠8->aZ b k=mO)->Ii (.p (6,1) 0 0) (.p (7,1) 0 0) (.p (8,1) 0 0) f g i b R):Fn aS GG 150 [.a c0, .a e,d,f,g,i] R:=by refine uq ready ape Tryz.func150 (an:=ak9) (by kernel_rfl) (aND (show ZF aS GG Rm ak9 Tryz.f150 [.a c0, .a e,d,f,g,i] R=(eV (bxA 31 6 (ly Tryz.f150) 6<|.a c0) λo l=>eV (bxA 36 4 l 7<|.a e) λn m=>eV (bxA 3 1 m 8 d) λc b=>Ii o n c f g i b R) by kernel_rfl) ?_);refine mY (N:=4096) rfl l0 (by decide) (by decide) uB (by rw[i8]) λl z q C g0=>?_;refine mY (N:=4096) rfl l1 (by decide) (by decide) z (by rw[g0 _ (by decide),i8]) λm A r t g1=>?_;refine mY (N:=4096) y rfl (by decide) (by decide) A (by rw[g1 _ (by decide),g0 _ (by decide),i8]) λb B s j u=>?_;exact h b B (by rw[j _ _ (by decide),t _ _<|by decide];exact q) (by rw[j _ _<|by decide];exact r) s (λk v w x=>by rw[u k x,g1 k w,g0 k v];exact i8 _ k)
def aCn{B:aG}{A:(aG)->Prop}(Q:aG)(b:∀a,(∀vs Y',Q vs Y'->a vs Y')->A a)(c:∀vs Y',Q vs Y'->B vs Y'):A B:=b B c
structure Sz(Y:ae)(s:aW)(a1 a2 a3:AV):Prop where
 bx:box Y (7,1)=V ⟨36,4,U,U,[[a1,iv s.tx,a2,a3]]⟩
 g1:sC Y a1 s.ak
 g2:bc Y 4 1 a2 (s.done.map cb)
 g3:bc Y 138 3 a3 (s.ay.map aoC.c)
theorem bc.ids{Y:ae}{e:TypeId}{z:Nat}{a:AV}{bA:List (List AV)}(c:bc Y e z a bA):∀k∈aA a,box Y k=V ⟨e,z,U,I,bA⟩:=by rcases c with⟨_,rfl⟩|⟨b,rfl,d⟩;simp[aA];grind [aA,cE]
def vC.g{Y:ae}{a:AV}{ls:List cg}(h:vC Y a ls):sC Y a ls:=by obtain⟨b,f,c,d,e,j,_⟩:=h;exact⟨b,f,c,d,λi k=>(e i k).x,j⟩
theorem vC.fx{Y Y':ae}{ks:List Id}{a:AV}{ls:List cg}(h:vC Y a ls)(c:Fx Y Y' ks)(p:∀k∈ks,(∃x,box Y k=V x/\((x.var=U/\x.elem≠184)\/(x.var=I/\x.elem≠3)))\/∀x,box Y k≠V x):vC Y' a ls:=by obtain⟨b,f,rfl,m,d,g,j⟩:=h;refine⟨b,f,rfl,c.keep _ _ (λn=>?_) m,λi e=>(d i e).fx c λq o n=>?_,g,j⟩;grind;have l:=(d i e).ids q o;grind
theorem sC.fx{Y Y':ae}{ks:List Id}{a:AV}{ls:List cg}(e:sC Y a ls)(c:Fx Y Y' ks)(m:∀k∈ks,(∃x,box Y k=V x/\((x.var=U/\x.elem≠184)\/(x.var=I/\x.elem≠3)))\/∀x,box Y k≠V x):sC Y' a ls:=by obtain⟨b,f,rfl,h,g,d⟩:=e;refine⟨b,f,rfl,c.keep _ _ (λl=>?_) h,λi j=>(g i j).fx c λq n l=>?_,d⟩;grind;grind [qg.ids]
theorem sC.fr{Y:ae}{a:AV}{ls:List cg}(j:sC Y a ls):dQ Y a= .l (ls.map cg.c) I U:=by obtain⟨b,f,rfl,o,e,n⟩:=j;have m:∀i,i<L ls->([iv (gd ls i).awG,f i].map<|frN Y)=cg.c (gd ls i):=λi d=>(by simp only[ji,mU,(e i d).fr,cg.c];rfl);have p:(io (L ls) λi=>[iv (gd ls i).awG,f i]).map (·.map (frN Y))=ls.map cg.c:=(by rw[aH1 (l:=ls) (g:=cg.c)];grind [io,vA,ja]);have k:((io (L ls) λi=>[iv (gd ls i).awG,f i]).all λr=>r.all λc=>eN<|frN Y c)=U:=(by rw[List.all_eq_true];intro r h;simp only[io,dN,fq] at h;obtain⟨i,d,rfl⟩:=h;simp only[List.all_cons,List.all_nil,(e i d).fr,Bool.and_true];rfl);have q:(io (L ls) λi=>[iv (gd ls i).awG,f i]).take (L ls)=io (L ls) λi=>[iv (gd ls i).awG,f i]:=(by grind [oB,aH0]);grind [dQ]
def bc.frD{Y:ae}{e:TypeId}{z:Nat}{a:AV}{bA:List (List AV)}(c:bc Y e z a bA):∃t o,dQ Y a= .l bA t o:=by rcases c with⟨rfl,rfl⟩|⟨b,rfl,d⟩;exact⟨_,_,rfl⟩;simp_all [dQ]
section
variable{Y:ae}{s:aW}{a1 a2 a3:AV}
theorem Sz.fx{Y':ae}(S:Sz Y s a1 a2 a3)(a:Fx Y Y' []):Sz Y' s a1 a2 a3:=⟨a.kq S.bx,S.g1.fx a (by simp),S.g2.fx a (by simp),S.g3.fx a<|by simp⟩
theorem Sz.th{i:Int}{j:Nat}{x:Value}{K:AV->be}(S:Sz Y s a1 a2 a3)(n:aF (L s.ay) i)(o:j<3)(d:aoC)(r:(gd s.ay i.toNat).c.set j (.s x)=d.c)(m:∀b Y',Fx Y Y' (aA a3)->Sz Y' (ni s i d) a1 a2 a3->aA a3=[b]->K (.p b i.toNat 0) (.p b i.toNat j) Y'):rV (cz 3 Y a3<|iv i) λp=>rV (iQ j Y p) λq=>sV (aK 1 Y q<|.s x) (K p q):=by refine DB S.g3 n o d r λb Y' h a l=>m b Y' a ⟨?_,?_,?_,l⟩ h;refine a.keep _ _ (λf=>?_) S.bx;have:=S.g3.ids _ f;rw[S.bx] at this;cases this;exact S.g1.fx a λk e=> .inl ⟨_,S.g3.ids k e, .inr ⟨rfl,by simp⟩⟩;exact S.g2.fx a λk e f=>by have g:=S.g2.ids _ e;rw[S.g3.ids _ f] at g;cases g
theorem Sz.lk{i o:Int}{K:AV->be}(S:Sz Y s a1 a2 a3)(e:aF (L s.ak) i)(r:∀b Y',Fx Y Y' (aA a1)->Sz Y' (I9 s i {cH s i with awG:=o}) a1 a2 a3->aA a1=[b]->K (.p b i.toNat 0) (.p b i.toNat 0) Y'):rV (cz 2 Y a1<|iv i) λp=>rV (iQ 0 Y p) λq=>sV (aK 1 Y q<|iv o) (K p q):=by have h:i.toNat<L s.ak:=(by have:=e.1;have:=e.2;omega);obtain⟨b,f,rfl,d,w,v⟩:=S.g1;have j:cz 2 Y (.m b<|L s.ak) (iv i)=V (.p b i.toNat 0):=(by simp[cz,e.1,d,h]);rw[j];simp only[rV,rR,d,df,aj];refine Bp d (uU h) (x:=iv o) rfl rfl (by simp) λY' c l=>r b Y' c ⟨?_,?_,?_,?_⟩ rfl;refine c.keep _ _ (λg=>?_) S.bx;simp only[cE] at g;have:=S.bx;simp_all;refine⟨b,f,by simp[I9],?_,λk a=>?_,?_⟩;rw[l,Bl];simp only[I9,zq];congr 2;refine yC λk a=>?_;grind [gd,cH,oq];have t:k<L s.ak:=(by grind [I9]);have u:(gd (I9 s i {cH s i with awG:=o}).ak k).bk=(gd s.ak k).bk:=(by grind [I9,cH,gd,oq]);grind [qg.fx,qg.ids];grind [I9];exact S.g2.fx c λk a g=>(by have n:=S.g2.ids _ a;simp_all);exact S.g3.fx c λk a g=>by have n:=S.g3.ids _ a;simp_all
theorem Sz.dn{i:Int}{v:Bool}{K:ae->Prop}(S:Sz Y s a1 a2 a3)(e:aF (L s.done) i)(g:∀Y',Fx Y Y' (aA a2)->Sz Y' {s with done:=s.done.set i.toNat v} a1 a2 a3->K Y'):rV (cz 1 Y a2<|iv i) λp=>sV (aK 1 Y p<|bv v) K:=by have n:i.toNat<L s.done:=(by have:=e.1;have:=e.2;omega);refine ixI S.g2 (by grind) λb d h=>?_;have l:(s.done.map cb)[i.toNat]?=V (cb<|gd s.done i.toNat):=(by grind [eC,bT]);refine wL h l (by simp) λY' f m=>?_;have F:Fx Y Y' (aA a2):=(by rw[d];exact f);refine g Y' F ⟨?_,?_,?_,?_⟩;grind [Fx.keep,bc.ids,Sz.g2,Sz.bx];exact S.g1.fx F λk a=> .inl ⟨_,S.g2.ids k a, .inr ⟨rfl,by simp⟩⟩;refine .inr ⟨b,by rw[d];simp,?_⟩;simp_all;exact S.g3.fx F λk a j=>by have c:=S.g3.ids _ a;rw[S.g2.ids _ j] at c;cases c
theorem Sz.tx{x:Int}{K:ae->Prop}(S:Sz Y s a1 a2 a3)(e:∀Y',Fx Y Y' [(7,1)]->Sz Y' {s with tx:=x} a1 a2 a3->K Y'):sV (aK 1 Y (.p (7,1) 0 1)<|iv x) K:=by refine cy (cs:=[iv x]) S.bx rfl rfl (by simp) λY' F c=>e Y' F ⟨c,?_,?_,?_⟩;exact S.g1.fx F (by grind [Sz.bx]);exact S.g2.fx F λk a b=>(by simp only[cE] at b;have d:=S.g2.ids _ a;grind [Sz.bx]);exact S.g3.fx F λk a b=>by simp only[cE] at b;have d:=S.g3.ids _ a;grind [Sz.bx]
end
theorem sC.ids{Y:ae}{a:AV}{ls:List cg}(c:sC Y a ls):∀k∈aA a,∃bA,box Y k=V ⟨184,2,U,U,bA⟩:=by obtain⟨b,f,rfl,d,_⟩:=c;grind [aA,cE]
theorem Sz.no{Y:ae}{s:aW}{a1 a2 a3:AV}(S:Sz Y s a1 a2 a3){c:Id}{x:bY}(b:box Y c=V x)(e:x.var=U)(d:x.elem≠184):c∉aA a1/\c∉aA a2/\c∉aA a3:=by refine⟨λh=>?_,λh=>?_,λh=>?_⟩;obtain⟨bA,a⟩:=S.g1.ids _ h;grind;have a:=S.g2.ids _ h;grind;have a:=S.g3.ids _ h;grind
def Bk{a b c d:AV}:aN J ([a,b,c,d].drop 3)=V d:=rfl
def aHW{a b c d:AV}:aN J ([a,b,c,d].drop 2)=V c:=rfl
def Ou(w:J9)(s:aW)(t kind f8 amt:Int)(hp:jm w s t kind f8=U/\L w.bC<=2/\(∀l∈s.ak,L l.bk<12)/\(∀l∈s.ak,jC l.bk)/\L s.ak<1000/\L s.done<1000/\L s.ay<1000):Ct 150 [.a w.c, .a s.c,iv t,iv kind,iv f8,iv amt] (λr=>∃f,r= .t [.a<|eD (cU w s t kind f8 amt).1 f,iv (cU w s t kind f8 amt).2,bv U]):=by refine aK1 rfl rfl rfl λs6 hl b1 b2 b3 h0=>?_;obtain⟨he,cA,bb,cF,du,dv,bF⟩:=hp;have bq:=he;simp only[jm,bN] at bq;obtain⟨hf,hi,hn,ad⟩:=bq;obtain⟨f1,f2,f3,f4⟩:=iY hf;obtain⟨mI,lk,cd,th,dn⟩:=D0 hf hn;have af:aF (L s.ay) t:=(by grind [dX]);simp only[Ii];refine mo hl λs8 F8 b8=>?_;have c1:box s8 (6,1)=_:=F8.bt b1;have c2:box s8 (7,1)=V ⟨36,4,U,U,[s.c]⟩:=(by grind [Fr.box]);have c3:box s8 (8,1)=V ⟨3,1,U,U,[[iv t]]⟩:=(by grind [Fr.box]);have bs:L s8=4096:=(by rw[F8.1,hl]);generalize(aZ s6 12).I6+1=Z at*;have b9:lh w s=U/\L w.bC<=2/\∀l∈s.ak,L l.bk<100000:=⟨hf,cA,λl hl=>by have:=bb l hl;omega⟩;simp+contextual only[qz 8,u0,u1,c1,c2,c3,rk,iF,J3,ar,aml,he,eE,aQ6,be8];refine⟨b9,?_⟩;refine jH rfl (aCp s bs<|by grind) ?_;rintro r Y1 ⟨⟨a1,a2,a3,rfl,g1,g2,g3,hN,bD⟩,F1⟩;refine⟨F1.len,?_⟩;have d1:=F1.kq c1;have d2:=F1.kq c2;have d3:=F1.kq c3;have d8:=F1.kq b8;simp only[qz 12];refine cy (cs:=[a1,iv s.tx,a2,a3]) d2 rfl rfl (by simp[aW.c]) λB F2 e2=>?_;have bo:vC B a1 s.ak:=(by grind [vC.fx]);have S:Sz B s a1 a2 a3:=(by refine⟨e2,g1.g.fx F2 λk W=>?_,g2.fx F2 λk W H=>?_,g3.fx F2 λk W H=>?_⟩;simp_all;simp only[cE] at H;have y:=g2.ids _ W;simp_all;grind);have e1:box B (6,1)=_:=F2.kq d1;have e3:=F2.kq d3;have e8:box B (12,Z)=V ⟨36,4,U,U,[aNC]⟩:=F2.kq d8;have aw:L B=4096:=F2.len.trans<|F1.len.trans bs;simp only[qz 14,di];refine aCn (λvs Y'=>vs=[iv (cU w s t kind f8 amt).2]/\Sz Y' (cU w s t kind f8 amt).1 a1 a2 a3/\∃bA,box Y' (12,Z)=V ⟨36,4,U,U,[bA]⟩/\L bA=4) (λo hJ=>?_) ?_;have ap:∀(sv:aW×Int) Y',cU w s t kind f8 amt=sv->Sz Y' sv.1 a1 a2 a3->(∃bA,box Y' (12,Z)=V ⟨36,4,U,U,[bA]⟩/\L bA=4)->o [iv sv.2] Y':=(by grind);have r0:∃bA,box B (12,Z)=V ⟨36,4,U,U,[bA]⟩/\L bA=4:=⟨_,e8,rfl⟩;have rK:∀{Y Y':ae} {s':aW} {ks:List Id},Sz Y s' a1 a2 a3->(∃bA,box Y (12,Z)=V ⟨36,4,U,U,[bA]⟩/\L bA=4)->Fx Y Y' ks->(ks=aA a1\/ks=aA a2\/ks=aA a3\/ks=[(7,1)])->(∃bA,box Y' (12,Z)=V ⟨36,4,U,U,[bA]⟩/\L bA=4):=(by rintro Y Y' s' ks N ⟨bA,y,A⟩ F ds;obtain⟨n1,n2,n3⟩:=N.no y rfl (by simp);refine⟨bA,F.keep _ _ ?_ y,A⟩;grind);simp+contextual only[qz 41,qy 16,qy 18,u0,u1,S.bx,e3,aj,Bk,iF,J3];refine⟨λk1=>?_,λk1=>⟨λk2=>?_,λk2=>?_⟩⟩;have dw:=aNR k1;exact S.th af (by decide) {fA s t with cQ:=2} rfl (by grind [cU]);have dx:=aNR k2;exact S.th af (by decide) {fA s t with cQ:=5} rfl (by grind [cU]);simp only[qz 65,iM,aY,sw];simp+contextual only[qz 63,qy 20,aI,au,u0,u1,S.bx,e3,aj,iF,J3];refine⟨λk6=>?_,λk6=>?_⟩;simp only[fH,yp] at k6;exact S.lk (by grind) (by grind [cU]);simp only[qz 77,iM,aY,sw];simp+contextual only[qz 75,qy 22,qy 24,qy 38,qy 40,qy 42,qy 44,qy 58,qy 60,qy 62,qy 64,aI,au,u0,u1,S.bx,e1,e3,aj,Bk,aHW,iF,J3];refine⟨λk7=>?_,λk7=>?_⟩;simp only[fH,yp] at k7;exact S.lk (by grind) (by grind [cU]);refine⟨λk8=>?_,λk8=>⟨λk9=>?_,λk9=>⟨λbG=>?_,λbG=>⟨λbH=>?_,λbH=>⟨λbI=>?_,λbI=>⟨λbK=>?_,λbK=>⟨λbM=>?_,λbM=>⟨λbO=>?_,λbO=>⟨λbR=>?_,λbR=>⟨λbS=>?_,λbS=>⟨λbT=>?_,λbT=>⟨λbU=>?_,λbU=>?_⟩⟩⟩⟩⟩⟩⟩⟩⟩⟩⟩⟩;have k:=aNR k8;have M:=lk (by omega) (by omega);have G:f8.toNat<L s.ak:=qI M;obtain⟨C,f,rfl,P,hX,hD,hP⟩:=bo;have hc:=hX _ G;have aL:=cF _<|ii M;have bd:=bb _<|ii M;have bB:t∉(gd s.ak f8.toNat).bk:=(by rw[lc] at ad;simp[k] at ad;exact ad.2.2);have a9:cz 2 B (.m C<|L s.ak) (iv f8)=V (.p C f8.toNat 0):=(by simp[cz,M.1,P,G]);have ba:vp J B (.p C f8.toNat 1)=V (f f8.toNat):=(by simp only[vp,iE,P,aQd,uU G,df];rfl);simp only[a9,aY,rR,P,df,aj,ba,iz,bQ];refine gD (new:=[ci t]) hc rfl (by decide) (by omega) fF (by simp) (by simp;omega) λa' R an D cC cD=>?_;have cu:(gd s.ak f8.toNat).bk.map ci++[ci t]=((gd s.ak f8.toNat).bk++[t]).map ci:=(by simp);rw[cu] at an;obtain⟨z,rfl,a5⟩:∃z,a'= .m z (L (gd s.ak f8.toNat).bk+1)/\box R z=V ⟨3,1,U,I,((gd s.ak f8.toNat).bk++[t]).map ci⟩:=(by rcases an with⟨y,_⟩|⟨z,y,A⟩;simp at y;exact⟨z,by rw[y];simp,A⟩);have a7:z.1≠7:=(by rcases cD z (by simp[aA]) with h|h;grind;omega);have bp:z∈aA (f f8.toNat)\/ig B z:=cC z (by simp[aA]);simp only[qz 26];refine dT (by simp[eL,lb,m8,dC,dK]) ?_;refine jH rfl (aCO aL bB bd a5<|D.len.trans aw) ?_;rintro r Y4 ⟨rfl,cw,F4⟩;refine⟨F4.len,?_⟩;have nv:∀{q:Id} {x:bY},box B q=V x->x.elem≠3\/x.var=U->q∉aA (f f8.toNat)/\q≠z:=λ{q x} v X=>(by have y:q∉aA (f f8.toNat):=λH=>(by rw[hc.ids _ H] at v;grind);grind [ig.no]);have bW:∀{q:Id} {x:bY},box B q=V x->x.elem≠3\/x.var=U->box Y4 q=V x:=λ{q x} v X=>(by obtain⟨n1,n2⟩:=nv v X;exact F4.keep _ _ (by simpa using n2)<|D.keep _ _ n1 v);simp only[qz 28,u0,u1,bW S.bx<|.inl<|by simp,aj,J3,iF];have cg:L (fk (gd s.ak f8.toNat).bk t)=L (gd s.ak f8.toNat).bk+1:=(by have:=QK (gd s.ak f8.toNat).bk t;have h0:∀{l:List Int} {t:Int},t∉l->L (fk l t)=L l+1:=(by intro l;induction l with|nil=>intro t _;rfl|cons x l ih=>intro t ht;simp only[eW,not_or] at ht;simp only[fk];split;simp[ih ht.2];grind);exact h0 bB);have bw:=λK=>awP (d:=76) (K:=K) (Nz aL) cw (F4.len.trans<|D.len.trans aw) (by omega);simp only[cg] at bw;refine bw _ λY5 F5 cx=>?_;have bX:∀{q:Id} {x:bY},box B q=V x->x.elem≠3\/x.var=U->box Y5 q=V x:=λ{q x} v X=>F5.keep _ _ (by simpa using(nv v X).2) (bW v X);have aG:=bX P (.inl<|by simp);have ce:cz 2 Y5 (.m C<|L s.ak) (iv f8)=V (.p C f8.toNat 0):=(by simp[cz,M.1,aG,G]);simp only[qz 30,ce,aY,rR,aG,df,aj];refine Bp aG (uU G) (x:= .m z<|L (gd s.ak f8.toNat).bk+1) rfl rfl (by simp) λY6 F6 a6=>?_;simp only[qz 32];have nL:∀{q:Id} {x:bY},box B q=V x->x.elem≠184->q≠C:=(by grind);have O:∀{q:Id} {x:bY},box B q=V x->x.elem≠3\/x.var=U->x.elem≠184->box Y6 q=V x:=λ{q x} v X hL=>F6.keep _ _ (by simpa using nL v hL)<|bX v X;have aC:z≠C:=(by grind);have S6:Sz Y6 (I9 s f8 {cH s f8 with bk:=mP (cH s f8).bk [t]}) (.m C<|L s.ak) a2 a3:=(by refine⟨O S.bx (.inr rfl) (by simp),⟨C,λi=>if i=f8.toNat then .m z (L (gd s.ak f8.toNat).bk+1) else f i,by simp[I9],?_,λi hi=>?_,λi j hi hj bz q v=>?_⟩,?_,?_⟩;rw[a6,Bl];simp only[I9,zq];congr 2;refine yC λi hi=>?_;by_cases h:i=f8.toNat;subst h;simp[gd,G,cH];have:gd (s.ak.set f8.toNat {cH s f8 with bk:=mP (cH s f8).bk [t]}) i=gd s.ak i:=(by simp only[gd,eI];rw[oq<|λe=>h e.symm]);grind;have E:i<L s.ak:=(by simpa[I9] using hi);by_cases h:i=f8.toNat;subst h;have:(gd (I9 s f8 {cH s f8 with bk:=mP (cH s f8).bk [t]}).ak f8.toNat).bk=fk (gd s.ak f8.toNat).bk t:=(by rw[show gd (I9 s f8 {cH s f8 with bk:=mP (cH s f8).bk [t]}).ak f8.toNat={cH s f8 with bk:=mP (cH s f8).bk [t]} from by simp[I9,gd,G]];exact Ro aL);simp only[this,↓reduceIte];refine .inr ⟨z,(fk (gd s.ak f8.toNat).bk t).map ci,by grind,F6.keep _ _ (by simpa using aC) cx,gV⟩;have:gd (I9 s f8 {cH s f8 with bk:=mP (cH s f8).bk [t]}).ak i=gd s.ak i:=(by simp only[I9,gd,eI];rw[oq<|λe=>h e.symm]);simp only[this,j5 h];have q0:∀q∈aA (f i),q∉aA (f f8.toNat)/\q≠z/\q≠C:=λq v=>(by have y:=hD i f8.toNat E G h q v;have A:=(hX i E).ids q v;refine⟨y,?_,by grind⟩;rintro rfl;rcases bp with h3|h3;exact y h3;exact h3.no _ A);exact((((hX i E).fx D λq v=>(q0 q v).1).fx F4 λq v=>by simpa using(q0 q v).2.1).fx F5 λq v=>by simpa using(q0 q v).2.1).fx F6 (λq v=>by simpa using(q0 q v).2.2)|>.x;have E:i<L s.ak:=(by simpa[I9] using hi);have aN:j<L s.ak:=(by simpa[I9] using hj);have av:∀m,m<L s.ak->m≠f8.toNat->z∉aA (f m):=λm H bu v=>(by rcases bp with h3|h3;grind;exact h3.no _<|(hX m H).ids _ v);by_cases y:i=f8.toNat;have A:j≠f8.toNat:=(by omega);simp only[lC y,aA,cE] at v;subst v;simp only[j5 A];exact av j aN A;simp only[j5 y] at v;by_cases A:j=f8.toNat;simp only[lC A,aA,cE];rintro rfl;exact av i E y v;simp only[j5 A];exact hD i j E aN bz q v;rcases S.g2 with h|⟨q,y,A⟩;exact .inl h;exact .inr ⟨q,y,O A (.inl<|by simp) (by simp)⟩;rcases S.g3 with h|⟨q,y,A⟩;exact .inl h;exact .inr ⟨q,y,O A (.inl<|by simp) (by simp)⟩);obtain⟨bA,r1,r2⟩:=r0;refine dT (by simp[eL,lb,m8,dC,dK,a7.symm]) (ap (_,0) Y6 (by simp[cU,I9,k]) S6 ⟨bA,O r1 (.inr rfl) (by simp),r2⟩);have k:=aNR k9;have M:=lk (by omega) (by omega);have G:f8.toNat<L s.ak:=qI M;obtain⟨C,f,rfl,P,hX,hD,hP⟩:=bo;have hc:=hX _ G;have bd:=bb _<|ii M;have H:t∈(gd s.ak f8.toNat).bk:=(by rw[lc] at ad;simp[k] at ad;exact ad.2);obtain⟨z,br,a5⟩:∃z,f f8.toNat= .m z (L (gd s.ak f8.toNat).bk)/\box B z=V ⟨3,1,U,I,(gd s.ak f8.toNat).bk.map ci⟩:=(by rcases hc with⟨y,_⟩|⟨z,y,A⟩;simp at y;grind;grind);have a8:aA (f f8.toNat)=[z]:=(by rw[br];rfl);have a7:z.1≠7:=(by grind);have a9:cz 2 B (.m C<|L s.ak) (iv f8)=V (.p C f8.toNat 0):=(by simp[cz,M.1,P,G]);have ba:vp J B (.p C f8.toNat 1)=V (f f8.toNat):=(by simp only[vp,iE,P,aQd,uU G,df];rfl);simp only[a9,aY,rR,P,df,aj,ba,br];refine awR H a5 e3 aw (by omega) λR D cv=>?_;have nv:∀{q:Id} {x:bY},box B q=V x->x.elem≠3\/x.var=U->q≠z:=(by grind);have bV:∀{q:Id} {x:bY},box B q=V x->x.elem≠3\/x.var=U->box R q=V x:=λ{q x} v X=>D.keep _ _ (by simpa using nv v X) v;have aD:=bV P (.inl<|by simp);have cc:cz 2 R (.m C<|L s.ak) (iv f8)=V (.p C f8.toNat 0):=(by simp[cz,M.1,aD,G]);simp only[qz 34,cc,aY,rR,aD,df,aj];refine Bp aD (uU G) (x:= .m z<|L<|fJ (gd s.ak f8.toNat).bk t) rfl rfl (by simp) λY6 F6 a6=>?_;simp only[qz 36];have nL:∀{q:Id} {x:bY},box B q=V x->x.elem≠184->q≠C:=(by grind);have O:∀{q:Id} {x:bY},box B q=V x->x.elem≠3\/x.var=U->x.elem≠184->box Y6 q=V x:=λ{q x} v X hL=>F6.keep _ _ (by simpa using nL v hL)<|bV v X;have aC:z≠C:=(by grind);have S6:Sz Y6 (I9 s f8 {cH s f8 with bk:=fJ (cH s f8).bk t}) (.m C<|L s.ak) a2 a3:=(by refine⟨O S.bx (.inr rfl) (by simp),⟨C,λi=>if i=f8.toNat then .m z (L<|fJ (gd s.ak f8.toNat).bk t) else f i,by simp[I9],?_,λi hi=>?_,λi j hi hj bz q v=>?_⟩,?_,?_⟩;rw[a6,Bl];simp only[I9,zq];congr 2;refine yC λi hi=>?_;by_cases h:i=f8.toNat;subst h;simp[gd,G,cH];have:gd (s.ak.set f8.toNat {cH s f8 with bk:=fJ (cH s f8).bk t}) i=gd s.ak i:=(by simp only[gd,eI];rw[oq<|λe=>h e.symm]);grind;have E:i<L s.ak:=(by simpa[I9] using hi);by_cases h:i=f8.toNat;subst h;have:(gd (I9 s f8 {cH s f8 with bk:=fJ (cH s f8).bk t}).ak f8.toNat).bk=fJ (gd s.ak f8.toNat).bk t:=(by simp[I9,gd,G,cH]);simp only[this,↓reduceIte];refine .inr ⟨z,_,by simp,F6.keep _ _ (by simpa using aC) cv,?_⟩;simp;have:gd (I9 s f8 {cH s f8 with bk:=fJ (cH s f8).bk t}).ak i=gd s.ak i:=(by simp only[I9,gd,eI];rw[oq<|λe=>h e.symm]);simp only[this,j5 h];have q0:∀q∈aA (f i),q≠z/\q≠C:=λq v=>(by have y:=hD i f8.toNat E G h q v;rw[a8] at y;have A:=(hX i E).ids q v;grind);exact(((hX i E).fx D<|by grind).fx F6<|λq v=>by simpa using(q0 q v).2).x;have E:i<L s.ak:=(by simpa[I9] using hi);have aN:j<L s.ak:=(by simpa[I9] using hj);have av:∀m,m<L s.ak->m≠f8.toNat->z∉aA (f m):=λm H bu v=>hD m f8.toNat H G bu _ v (by grind);by_cases y:i=f8.toNat;have A:j≠f8.toNat:=(by omega);simp only[lC y,aA,cE] at v;subst v;simp only[j5 A];exact av j aN A;simp only[j5 y] at v;by_cases A:j=f8.toNat;simp only[lC A,aA,cE];rintro rfl;exact av i E y v;grind;rcases S.g2 with h|⟨q,y,A⟩;exact .inl h;exact .inr ⟨q,y,O A (.inl<|by simp) (by simp)⟩;rcases S.g3 with h|⟨q,y,A⟩;exact .inl h;exact .inr ⟨q,y,O A (.inl<|by simp) (by simp)⟩);obtain⟨bA,r1,r2⟩:=r0;refine dT (by simp[eL,lb,m8,dC,pP,dK,a7.symm]) (ap (_,0) Y6 (by simp[cU,I9,k]) S6 ⟨bA,O r1 (.inr rfl) (by simp),r2⟩);have k:=aNR bG;exact S.tx (by grind [cU]);have k:=aNR bH;exact S.tx (by grind [cU]);have k:=aNR bI;exact S.th af (by decide) {fA s t with atomic:=U} rfl (by grind [cU]);have k:=aNR bK;exact S.th af (by decide) {fA s t with atomic:=I} rfl (by grind [cU]);have k:=aNR bM;have T:=cd (by omega) (by omega);simp only[rk,ix,u0,u1];refine⟨T,?_⟩;refine S.lk (mI T) λb Y' F' N a8=>?_;have n:=S.no e3 rfl (by simp);have a0:=F'.keep _ _ n.1 e3;simp only[qz 46,u0,u1,N.bx,a0,aj,Bk,iF,J3];refine N.th (by grind [I9]) (by decide) {fA s t with cQ:=3} rfl λb3 R D S3 aK=>?_;simp only[qz 48];refine S3.th (by grind [I9,ni]) (by decide) {fA s t with cQ:=3,cond:=f8} (by simp only[ni,I9];rw[Af af];rfl) λb4 Y4 F4 S4 cb=>?_;simp only[qz 50];refine dT ?_ (ap (_,0) Y4 ?_ S4<|rK S3 (rK N (rK S r0 F'<|by simp) D<|by simp) F4<|by simp);have:=bD b3 (by rw[aK];simp);simp[eL,lb,m8,dC,dK,this.1.symm,this.2.symm];simp[cU,k,ni,I9];have k:=aNR bO;have T:=cd (by omega) (by omega);simp only[rk,ix,u0,u1];refine⟨T,?_⟩;refine S.lk (mI T) λb Y' F' N a8=>?_;have n:=S.no e3 rfl (by simp);have a0:=F'.keep _ _ n.1 e3;simp only[qz 52,u0,u1,N.bx,a0,aj,Bk,iF,J3];refine N.th (by grind [I9]) (by decide) {fA s t with cQ:=2} rfl λb3 R D S3 aK=>?_;simp only[qz 54];refine S3.th (by grind [I9,ni]) (by decide) {fA s t with cQ:=2,cond:=0} (by simp only[ni,I9];rw[Af af];rfl) λb4 Y4 F4 S4 cb=>?_;simp only[qz 56];refine dT ?_ (ap (_,0) Y4 ?_ S4<|rK S3 (rK N (rK S r0 F'<|by simp) D<|by simp) F4<|by simp);have:=bD b3 (by rw[aK];simp);simp[eL,lb,m8,dC,dK,this.1.symm,this.2.symm];simp[cU,k,ni,I9];have k:=aNR bR;simp only[uS,aY];refine jH rfl (aCD s f8 amt aw bF S.g3) ?_;rintro r R ⟨rfl,an,D⟩;have dr:∀x:aW,x.ak=s.ak->x.tx=s.tx->x.done=s.done->bc R 138 3 a3 (x.ay.map aoC.c)->Sz R x a1 a2 a3:=λx q1 q2 q3 q4=>(by have n:=S.no S.bx rfl (by simp);refine⟨by grind [Fx.keep,Sz.bx],by rw[q1];exact S.g1.fx D λk W=> .inl ⟨_,S.g3.ids k W, .inr ⟨rfl,by simp⟩⟩,?_,q4⟩;rw[q3];exact S.g2.fx D λk W H=>by have y:=S.g2.ids _ W;rw[S.g3.ids _ H] at y;cases y);refine⟨D.len,?_⟩;by_cases hw:fO s f8=[];have hc:gH s f8 amt (L s.ay)= -1:=(by rw[gH];exact lC hw);grind [cU];have hc:gH s f8 amt (L s.ay)=tD s f8 amt:=(by rw[gH];exact j5 hw);have h0:0<=tD s f8 amt:=(by rw[<-hc,gH,j5<|show¬eh s f8 (L s.ay)=[] from hw];split;grind [AN];exact(Li hw).1);grind [cU,ni,tD,fA];have k:=aNR bS;simp only[uS,aY];refine jH rfl (aCE s f8 aw bF S.g3) ?_;rintro r R ⟨rfl,an,D⟩;have n:=S.no S.bx rfl (by simp);have H:∀(l:List Int) (s:aW),(mH s l).ak=s.ak/\(mH s l).tx=s.tx/\(mH s l).done=s.done:=(by intro l;induction l with|nil=>simp|cons u l ih=>grind [ni]);obtain⟨q1,q2,q3⟩:=H (fO s f8) s;refine⟨D.len,?_⟩;refine ap (mH s<|fO s f8,L<|fO s f8) R (by simp[cU,k]) ⟨?_,?_,?_,an⟩ (rK S r0 D<|by simp);grind [Fx.keep,Sz.bx];rw[q1];exact S.g1.fx D λk W=> .inl ⟨_,S.g3.ids k W, .inr ⟨rfl,by simp⟩⟩;rw[q3];exact S.g2.fx D λk W H=>(by have y:=S.g2.ids _ W;rw[S.g3.ids _ H] at y;cases y);have k:=aNR bT;exact S.th (by grind) (by decide) {fA s f8 with cQ:=1} rfl (by grind [cU]);have k:=aNR bU;exact S.dn (by grind) (by grind [cU]);grind [cP,decide_eq_false_iff_not,cU];rintro vs Y' ⟨rfl,N,bA,r1,r2⟩;have dt:(7:Nat)≠12:=(by decide);simp only[qz 39,aI,u0,u1,N.bx,uS];refine cy (cs:=[a1,iv (cU w s t kind f8 amt).1.tx,a2,a3]) r1 rfl rfl (by omega) λac aU dp=>?_;have co:box ac (12,Z)=V ⟨36,4,U,U,[[a1,iv (cU w s t kind f8 amt).1.tx,a2,a3]]⟩:=(by simp_all);have n:=N.no r1 rfl (by simp);have y:=N.g1.fx aU (by simp_all);have A:=N.g2.fx aU (by grind);have h3:=N.g3.fx aU (by grind);simp only[qz 66,u0,u1,co,uS];obtain⟨t2,o2,q2⟩:=A.frD;obtain⟨t3,o3,q3⟩:=h3.frD;have hr:jS ac [.a [a1,iv (cU w s t kind f8 amt).1.tx,a2,a3],iv (cU w s t kind f8 amt).2,bv U]= .t [.a<|eD (cU w s t kind f8 amt).1 (I,U,t2,o2,t3,o3),iv (cU w s t kind f8 amt).2,bv U]:=(by show AV.t [.a [dQ ac a1,dQ ac<|iv (cU w s t kind f8 amt).1.tx,dQ ac a2,dQ ac a3],_,_]=_;rw[y.fr,q2,q3];rfl);unfold aE;rw[hr];exact⟨rfl,_,rfl⟩
def BT:FT:=BL Ou
def ayr{w s t kind f8 amt Lw K}:=al4 BT Ou w s t kind f8 amt Lw K
def aYa:dO:=(150,BT)::Rm
def Bv:eJ aYa:=ve (apO Ou)<|ape
def rX:=ai @ayr<|@aml
def alc:=lA 21 [(8,([8],[3,4,5,6])),(15,([],[5,6,12]))]
def JW c b a d R:=(.mk _:NR aYa alc Tryz.f149 [.u, .u, .u] [c,b,a] d R).p
def aMI{c0:List AV}{b:List AV}{c:List AV}{R:j4}(l0:L c0=6)(l1:L b=7)(d:L c=7)(h:H3 31 6 3 c0 40 7 4 b 62 7 5 c λf g i e=>JW f g i e R):Ct 149 [.a c0, .a b, .a c] R:=z3 alc Bv Tryz.func149 l0 l1 d h
def asv:=lA 21 [(13,([62],[1,60,61]))]
def Sw a b R:=(.mk _:NR aYa asv Tryz.f73 [.u] [a] b R).p
def aJW{c0:List AV}{R:j4}(l0:L c0=6)(h:H1 31 6 1 c0 λia b=>Sw ia b R):Ct 73 [.a c0] R:=z1 asv Bv Tryz.func73 l0 h
def NG(w:J9)(C:mQ w=U):Ct 73 [.a w.c] (·=bv U):=by refine aJW rfl λO B g M=>?_;have u:=C;simp only[mQ,bN,eH] at u;obtain⟨d,f⟩:=u;obtain⟨l,b⟩:∃l,lY w=V l:=(by grind);rw[b] at f;simp only[bN,yp] at f;obtain⟨q,s,K⟩:=f;have H:=anD b;have p:(jv w.cells (L w.cells) 0 []).isSome=U/\l=wB w (zV w.cells):=(by unfold lY at b;unfold zV;cases A:jv w.cells (L w.cells) 0 [] with|none=>simp_all|some r=>rw[A] at b;simp only[df,bE] at b;exact⟨rfl,b.symm⟩);obtain⟨n,rfl⟩:=p;simp only[wJ,cP,aNK] at d;obtain⟨⟨⟨⟨⟨⟨z1,z2⟩,z3⟩,D⟩,E⟩,F⟩,G⟩:=d;simp+contextual only[Sw,u0,u1,g,rk,aj,z1,z2,z3,D,E,F,G,bq0,eE,aQ6,be8,GL,ar,rX,n];refine⟨by omega,?_⟩;rintro r ⟨t,o,rfl⟩;refine⟨.inl rfl,?_⟩;simp+contextual only[oJ,pG,u0,u1,ar,rX,eE,aQ6,be8];refine⟨⟨q,by omega⟩,?_⟩;refine pQ (L w.bC) [6] (λk=>True) trivial λk Y N _ i=>?_;have h:box Y (1,1)=_:=i.bt g;simp+contextual only[qz 79,qy 4,u0,u1,h,rk,ix,bh];refine⟨λe=>⟨u7 e,?_⟩,λe=>?_⟩;refine eF rfl rfl (by decide) (by rw[i.1,B];decide) λx v y=>?_;have z:box x (1,1)=_:=v.bt h;have j:=s k<|aL e;simp only[uh,cP,aNK] at j;have m:dh (gd w.bC k).eg (L w.ak)=U:=(by rw[dX];exact⟨by omega,by omega⟩);simp+contextual only[qz 6,↓iS,u0,u1,y,z,rk,aj,ar,rX,m,j.2,beq_self_eq_true,eE,aQ6,be8];grind [oL,aL,Fr.trans];simp+contextual only[u1,ar,rX];grind
def EU:FT:=mT NG
def axU{w Lw K}:=f110 EU NG w Lw K (j:=by simp+contextual only[ij,j9])
structure kQ(n:Nat)(s:aW):Prop where
 lo:L s.ak<=4
 dn:L s.done<=2
 th:L s.ay<=4
 rd:∀l∈s.ak,jC l.bk/\∀x∈l.bk,aF n x
def aB2{l:List Int}{n:Nat}(h:jC l)(b:∀x∈l,aF n x):∀i:Nat,i<L l->(i:Int)<=gd l i:=by intro i;induction i with|zero=>intro a;exact(b _<|asq a).1|succ i c=>intro a;have:=h i a;omega
def AC{l:List Int}{n:Nat}(h:jC l)(a:∀x∈l,aF n x):L l<=n:=by rcases oD (L l) with b|b;omega;have c:=aB2 h a (L l-1) (by omega);have d:=(a _<|asq<|show L l-1<L l by omega).2;omega
structure vL(w:gz):Prop where
 wo:kB w
 th:L w.aQ.ay<=4
 sy:∀k:Nat,k<L w.ac->kQ (L w.aQ.ay) (cY w k).gp
def Kk{w:gz}(h:vL w){k:Nat}(c:k<L w.ac):jm w.aQ (cY w k).gp (gd w.ac k).aq (gd w.ac k).kind (gd w.ac k).f8=U/\L w.aQ.bC<=2/\(∀l∈(cY w k).gp.ak,L l.bk<12)/\(∀l∈(cY w k).gp.ak,jC l.bk)/\L (cY w k).gp.ak<1000/\L (cY w k).gp.done<1000/\L (cY w k).gp.ay<1000:=by have d:=(h.wo.en k c).2;have a:=h.sy k c;have:=h.th;have:=a.lo;have:=a.dn;have:=a.th;refine⟨?_,h.wo.co,λl b=>by have:=AC (a.rd l b).1 (a.rd l b).2;omega,λl b=>(a.rd l b).1,by omega,by omega,by omega⟩;grind [be3,aOL,eH,cP,fK]
def aoF{w:gz}(h:vL w){k:Nat}(a:k<L w.ac):(cY w<|k+1).gp=(cU w.aQ (cY w k).gp (gd w.ac k).aq (gd w.ac k).kind (gd w.ac k).f8<|og<|gd w.ac k).1:=by have b:=(h.wo.en k a).2;grind [cY,nD,oc]
def Dw{Y:ae}{e:TypeId}{a:AV}{l:List Int}{i:Int}{K:j4}(f:bc Y e 1 a<|l.map ci)(c:aF (L l) i):(rV (cz 1 Y a<|iv i) λt=>rV (vp J Y t) K)=K (iv<|gd l i.toNat):=by have d:i.toNat<L l:=(by have:=c.1;have:=c.2;omega);rcases f with⟨h,_⟩|⟨b,rfl,g⟩;simp_all;simp[cz,c.1,g,d,rV,vp,iE,aN,bT d]
def DA{Y:ae}{e:TypeId}{a:AV}{l:List Int}{i v:Int}{K:be}(j:bc Y e 1 a<|l.map ci)(c:aF (L l) i)(k:∀p Y',Fx Y Y' (aA a)->bc Y' e 1 a ((l.set i.toNat v).map ci)->K p Y'):rV (cz 1 Y a<|iv i) λp=>sV (aK 1 Y p<|iv v) (K p):=by have h:i.toNat<L l:=(by have:=c.1;have:=c.2;omega);rcases j with⟨q,_⟩|⟨b,rfl,d⟩;simp_all;have f:cz 1 Y (.m b<|L<|l.map ci) (iv i)=V (.p b i.toNat 0):=(by simp[cz,c.1,d,h]);rw[f];simp only[rV];have n:(l.map ci)[i.toNat]?=V [iv<|gd l i.toNat]:=(by grind [eC,bT]);refine wL d n (by simp) λY' g o=>k _ Y' g ?_;refine .inr ⟨b,by simp,?_⟩;simp_all
def PR(w:J9)(s:sA)(e:aP)(hp:be3 w s e=U/\L w.bC<=2/\L w.ay<=4/\kQ (L w.ay) s.gp/\L s.cells<1000/\L s.bU<1000/\L s.count<1000/\vo e):Ct 149 [.a w.c, .a s.c, .a e.c] (λr=>∃cs,r= .t [.a cs,bv U]/\Lk cs (oc w s e).c):=by refine aMI rfl rfl rfl λs6 n b1 b2 b3 h0=>?_;obtain⟨a1,p1,p2,p3,p4,p5,p6,p7⟩:=hp;have D:=a1;simp only[be3,eH,cP] at D;obtain⟨q1,q2,q3,q4,q5⟩:=D;have ag:=q1;simp only[aOL,cP,fK,aNK] at ag;obtain⟨⟨⟨⟨hf,hi⟩,aZ⟩,a0⟩,aW⟩:=ag;obtain⟨aX,hn⟩:lh w s.gp=U/\named w e.kind e.f8=U:=(by grind [jm]);have ac:=dX.1 hi;obtain⟨m1,m2,m3⟩:L s.cells=L w.cells/\L s.bU=L w.bU/\L s.count=L w.ay:=(by grind [fN]);have ab:aF (L s.count) e.aq:=(by simp_all);have z1:¬e.aq<0:=(by have:=ac.1;omega);have z2:¬((L w.ay:Int)<=e.aq):=(by have:=ac.2;omega);simp only[bip,cP,fK,yp] at q5;obtain⟨⟨n1,n2⟩,n3⟩:=q5;have a2:∀l∈s.gp.ak,L l.bk<12:=λl n=>(by have:=AC (p3.rd l n).1 (p3.rd l n).2;omega);have hP:yM w e=I/\yN e=I/\lZ e.dI (gd s.count e.aq.toNat)/\lZ e.ep (gd s.count e.aq.toNat)/\aF (L s.count) e.aq/\(e.kind=3\/e.kind=4->aF (L w.cells) e.f8)/\vo e:=(by grind [qP]);have hV:aO8 s e=U/\L s.gp.ay<1000000/\(e.kind=3->aF (L s.cells) e.f8)/\(e.kind=23->aF (L s.bU) e.f8):=(by grind [kQ.th,qP,oU]);have hE:lh w s.gp=U/\L w.bC<=2/\(∀l∈s.gp.ak,L l.bk<100000):=⟨aX,p1,λl n=>by have:=a2 l n;omega⟩;have hA:jm w s.gp e.aq e.kind e.f8=U/\L w.bC<=2/\(∀l∈s.gp.ak,L l.bk<12)/\(∀l∈s.gp.ak,jC l.bk)/\L s.gp.ak<1000/\L s.gp.done<1000/\L s.gp.ay<1000:=(by grind [kQ.rd,kQ.lo,kQ.dn,kQ.th]);simp only[JW];refine ic n λv7 A G N7 b7=>?_;have c1:box A (3,1)=_:=G.kq b1;have c2:box A (4,1)=_:=G.kq b2;have O:box A (5,1)=_:=G.kq b3;have ad:L A=4096:=G.len.trans n;simp+contextual only[qz 8,qy 10,qy 12,u0,u1,c1,c2,O,rk,aj,ar,rX,hf,p1,hE,aW,hP,hV,q2,z1,z2,aZ,a0,aOe,bq0,eE,aQ6,be8];refine⟨λ_ _=>trivial,(by simp),(by simp),?_⟩;refine bsp (λb=>b [iv<|og e]) ?_ λb R=>(by simp+contextual only[qz 53,u0,u1,O,rk,aj];refine⟨λh=>?_,λh=>?_⟩;simp only[yp] at h;rw[og,lC h] at R;exact R;simp only[aNK] at h;rw[og,j5 h] at R;exact R);simp only[qz 51,qy 14,aI,au,u0,u1,c1,c2,O,rk,aj,ar,rX];refine⟨hA,?_⟩;rintro r ⟨f,rfl⟩;refine⟨.inl rfl,?_⟩;simp only[oJ,pG,KM,aY];generalize a3:(cU w s.gp e.aq e.kind e.f8<|og e).1=sy';refine ic ad λv9 Y1 F1 N1 d9=>?_;refine cy (y:=4) (cs:=eD sy' f) d9 rfl rfl (by decide) λK u aO=>?_;have aw:box K (9,v9)=V ⟨36,4,U,U,[eD sy' f]⟩:=aO;have X:Fx A K []:=(F1.trans u).mono (by grind [ig.no]);have l2:L K=4096:=X.len.trans ad;have e2:=X.kq c2;have bl:aN (V 4) (eD sy' f)=V (.a<|eD sy' f):=rfl;simp+contextual only[qz 16,qy 18,u0,u1,aw,e2,bl,rk,aj,eE,aQ6,be8,GL];refine alG (bA:=s.cells.map ci) rfl fF (by simp;omega) (by simp[gY]) (by omega) λd C g4 v P4=>?_;have f2:=v.kq e2;have l3:L C=4096:=v.len.trans l2;simp only[qz 20,u0,u1,f2,rk,aj];refine alG (bA:=s.bU.map ci) rfl fF (by simp;omega) (by simp[gY]) (by omega) λg Y4 g5 E P5=>?_;have h2:=E.kq f2;have l4:L Y4=4096:=E.len.trans l3;simp only[qz 22,u0,u1,h2,rk,aj];refine Kr (bA:=s.count.map ci) rfl fF (by simp;omega) (by simp[gY]) (by omega) λi Y5 g6 F P6=>?_;have l5:L Y5=4096:=F.len.trans l4;have aa:bM bsk anY [(0, .a<|eD sy' f),(1,d),(2,g),(3,i)]=V (.a<|eD sy' f++[d,g,i]):=(by simp[bM,aly,ms g4,ms g5,ms g6,eD,show∀x,eY (.a x)=V x fromλ_=>rfl]);have Z:∀{q:Id} {x:bY},box A q=V x->box Y5 q=V x:=λhq=>F.kq (E.kq<|by grind [Fx.keep]);simp only[qz 24,qy 26,aa,aY];refine ic l5 λbm Y6 F6 N6 aM=>?_;refine cy (y:=7) (cs:=eD sy' f++[d,g,i]) aM rfl rfl (by decide) λM aJ av=>?_;have o:box M (12,bm)=V ⟨40,7,U,U,[eD sy' f++[d,g,i]]⟩:=av;have j:Fx Y5 M []:=(F6.trans aJ).mono (by grind [ig.no]);have l7:L M=4096:=j.len.trans l5;have G4:=((g4.fx E<|by simp).fx F<|by simp).fx j (by simp);have G5:=(g5.fx F<|by simp).fx j (by simp);have G6:=g6.fx j (by simp);have i3:=j.kq<|Z O;have i7:=j.kq<|Z b7;have be:∀k∈aA d,k.1=98:=λk z=>(P4 k z).2;have bf:∀k∈aA g,k.1=101:=λk z=>(P5 k z).2;have bg:∀k∈aA i,k.1=104:=λk z=>(P6 k z).2;clear aa;simp only[qz 28];refine dT ?_ ?_;rcases g4 with⟨_,S⟩|⟨⟨k4,u4⟩,S,_⟩<;>rcases g5 with⟨_,T⟩|⟨⟨k5,u5⟩,T,_⟩<;>rcases g6 with⟨_,W⟩|⟨⟨k6,u6⟩,W,_⟩<;>(try(have h4:=be (k4,u4) (by grind [aA]);simp only at h4;subst h4))<;>(try(have h5:=bf (k5,u5) (by grind [aA]);simp only at h5;subst h5))<;>(try(have h6:=bg (k6,u6) (by grind [aA]);simp only at h6;subst h6))<;>rw[S,T,W]<;>rfl;have S:∀{x:List Int},aN J (aOz 4<|eD sy' f++[d,g,i])=V d:=rfl;have T:aN J (aOz 5<|eD sy' f++[d,g,i])=V g:=rfl;have W:aN J (aOz 6<|eD sy' f++[d,g,i])=V i:=rfl;have r7:aN (V 7) (eD sy' f++[d,g,i])=V (.a<|eD sy' f++[d,g,i]):=rfl;refine bpD (λb=>∀Y N P,Fx M Y (aA d++aA g)->bc Y 2 1 d (N.map ci)->bc Y 2 1 g (P.map ci)->N=(if e.kind=4 then s.cells.set e.f8.toNat e.value else s.cells)->P=(if e.kind=22 then s.bU.set e.f8.toNat e.value else s.bU)->b [] Y) ?_ λb m=>?_;intro Y N P H H4 H5 e4 e5;have no:∀{q:Id},q.1≠98->q.1≠101->q∉aA d++aA g:=(by grind);have m3:=H.keep _ _ (by grind) i3;have m7:=H.keep _ _ (by grind) i7;have ae:=H.keep _ _ (by grind) o;have H6:=G6.fx H λk z=>no (by grind) (by grind);simp only[qz 93,aI,u0,u1,ae,m3,rk,W,aj,Dw H6 ab];refine DA H6 ab λp K u K6=>?_;have af:∀{q:Id},q.1≠104->q∉aA i:=(by grind);have K4:=H4.fx u (by grind);have K5:=H5.fx u (by grind);have ba:=u.keep _ _ (af<|by simp) ae;have n7:=u.keep _ _ (af<|by simp) m7;simp only[qz 34,qy 36,u0,u1,ba,r7];refine cy (y:=7) (cs:=eD sy' f++[d,g,i]) n7 rfl rfl (by decide) λC v o7=>?_;have bb:box C (6,v7)=V ⟨40,7,U,U,[eD sy' f++[d,g,i]]⟩:=o7;simp only[bb,u0,u1,r7];have cu:∀{q:Id},q.1≠6->q∉[((6,v7):Id)]:=(by grind);obtain⟨x4,o4,z4⟩:=(K4.fx v<|by grind).frD;obtain⟨x5,o5,z5⟩:=(K5.fx v<|by grind).frD;obtain⟨x6,o6,z6⟩:=(K6.fx v<|by grind).frD;have aD:jS C [.a<|eD sy' f++[d,g,i],bv U]= .t [.a<|eD sy' f++[.l (N.map ci) x4 o4, .l (P.map ci) x5 o5, .l ((s.count.set e.aq.toNat<|dq.wrap<|gd s.count e.aq.toNat+1).map ci) x6 o6],bv U]:=(by show AV.t [.a<|(eD sy' f++[d,g,i]).map<|dQ C,bv U]=_;rw[dg];simp only[ji,mU,z4,z5,z6];rfl);unfold aE;rw[aD];refine⟨rfl,_,rfl,?_,rfl⟩;simp only[oc,a3,<-e4,<-e5];rfl;simp+contextual only[qz 95,qy 30,qy 32,u0,u1,i3,o,rk,S (x:=[]),T,aj];refine⟨λh=>?_,λh=>⟨λh'=>?_,λh'=>?_⟩⟩;have h4:=aNR h;refine DA G4 (by grind) λp Y8 B K4=>?_;exact m _ _ _ (B.mono<|by grind) K4 (G5.fx B<|by grind) (by grind) (by rw[j5<|by omega]);have ct:=aNR h';refine DA G5 (by grind [oU]) λp Y8 B K5=>?_;exact m _ _ _ (B.mono<|by grind) (G4.fx B<|by grind) K5 (by grind) (by grind);exact m _ _ _ (Fx.refl _ _) G4 G5 (by grind) (by grind)
def Gi:FT:=vn PR
def azD{w s e Lw K}:=f311 Gi PR w s e Lw K (j:=by simp+contextual only[ij,j9])
def apo:dO:=(73,EU)::(149,Gi)::aYa
def Rf:eJ apo:=ve (pg NG)<|ve (By PR)<|Bv
def Ac:=ai @axU<|ai @azD<|@rX
def avl:=lA 32 [(5,([23],[1,3,4,21,22])),(16,([42],[1,3,4,6,7,21,22,23,41])),(22,([47],[1,3,4,6,7,21,22,23,41,42,45,46]))]
def akJ a b R:=(.mk _:NR apo avl Tryz.f79 [.u] [a] b R).p
def aMQ{c0:List AV}{R:j4}(l0:L c0=15)(h:H1 43 15 1 c0 λia b=>akJ ia b R):Ct 79 [.a c0] R:=z1 avl Rf Tryz.func79 l0 h
def Lg{A:(be)->Prop}{Y:ae}{K:be}:gF U A Y K=A K:=rfl
structure lJ(Y:ae)(b:Id)(e1 e:TypeId)(d n:Nat)(Lw:Nat->List (List AV))(f:Nat->AV):Prop where
 bx:box Y b=V ⟨e1,1,U,U,io n λi=>[f i]⟩
 gr:∀i,i<n->bc Y e 1 (f i) (Lw i)
 dj:∀i j,i<n->j<n->i≠j->∀q∈aA (f i),q∉aA (f j)
 pl:∀i,i<n->∀q∈aA (f i),q.1=d
def lJ.ix{Y:ae}{b:Id}{c e:TypeId}{d n:Nat}{Lw:Nat->List (List AV)}{f:Nat->AV}(O:lJ Y b c e d n Lw f){i:Int}(a:aF n i):cz 1 Y (.m b n) (iv i)=V (.p b i.toNat 0):=by have g:i.toNat<n:=(by have:=a.1;have:=a.2;omega);simp[cz,a.1,O.bx,g]
def lJ.ld{Y:ae}{b:Id}{a e:TypeId}{d n:Nat}{Lw:Nat->List (List AV)}{f:Nat->AV}(O:lJ Y b a e d n Lw f){i:Nat}(c:i<n):vp J Y (.p b i 0)=V (f i):=by simp[vp,iE,O.bx,uU c,aN]
theorem lJ.ln{Y:ae}{b:Id}{a e:TypeId}{d n:Nat}{Lw:Nat->List (List AV)}{f:Nat->AV}(O:lJ Y b a e d n Lw f){i:Nat}(c:i<n):fS Y (f i)=V (iv<|L<|Lw i):=lnI<|O.gr i c
theorem lJ.keep{Y Y':ae}{b:Id}{ks:List Id}{a e:TypeId}{d n:Nat}{Lw:Nat->List (List AV)}{f:Nat->AV}(O:lJ Y b a e d n Lw f)(F:Fx Y Y' ks)(g:b∉ks)(h:∀i,i<n->∀q∈aA (f i),q∉ks):lJ Y' b a e d n Lw f:=⟨F.keep _ _ g O.bx,λi c=>(O.gr i c).fx F<|h i c,O.dj,O.pl⟩
theorem lJ.no{Y:ae}{b:Id}{a e:TypeId}{d n:Nat}{Lw:Nat->List (List AV)}{f:Nat->AV}(O:lJ Y b a e d n Lw f){q:Id}{x:bY}(g:box Y q=V x)(j:x.var=U\/x.elem≠e){i:Nat}(c:i<n):q∉aA (f i):=λh=>by
 have:=(O.gr i c).ids q h
 grind
def anO{Y:ae}{b:Id}{A e:TypeId}{d n by':Nat}{zs:List AV}{Lw:Nat->List (List AV)}{f:Nat->AV}{i:Int}{new:List (List AV)}{t o:Bool}{K:AV->be}(O:lJ Y b A e d n Lw f)(B:aF n i)(hz:L zs=1)(W:d<L Y)(Z:∀r∈Lw i.toNat,L r=1)(X:∀r∈new,L r=1)(T:(L (Lw i.toNat)+L new)*(by'+1)<=1099511627776)(S:∀a p Y' F,lJ Y' b A e d n (λj=>if j=i.toNat then Lw j++new else Lw j) F->L Y'=L Y->(∀q x,box Y q=V x->q≠b->x.var=U\/x.elem≠e->box Y' q=V x)->(∀q∈aA a,q.1=d)->p= .p b i.toNat 0->Fx Y Y' (b::aA (f i.toNat))->(∀j,j<n->∀q∈aA (F j),q∈aA (f j)\/ig Y q)->K a p Y'):eV (Gy e zs by' Y d (f i.toNat)<|.l new t o) λa u=>rV (cz 1 u (.m b n)<|iv i) λp=>sV (aK 1 u p a) (K a p):=by have v:i.toNat<n:=(by have:=B.1;have:=B.2;omega);refine gD (O.gr _ v) hz (by decide) W Z X T λa u P s y ad=>?_;have w:b∉aA (f i.toNat):=O.no O.bx (.inl rfl) v;have D:=s.keep _ _ w O.bx;have G:cz 1 u (.m b n) (iv i)=V (.p b i.toNat 0):=(by simp[cz,B.1,D,v]);rw[G];have ab:b∉aA a:=λh=>(by rcases y _ h with h|h;exact w h;exact h.no _ O.bx);have M:∀q∈aA a,q.1=d:=λq g=>(by grind [lJ.pl]);refine Bp D (uU v) (ms P) rfl (by simp) λC z R=>?_;have E:box C b=V ⟨A,1,U,U,io n λj=>[if j=i.toNat then a else f j]⟩:=(by rw[R,Bl];grind);have ac:∀j,j<n->j≠i.toNat->∀q∈aA (f j),q∉aA a:=λj c H q g N=>(by rcases y _ N with h|h;grind [lJ.dj];exact h.no _<|(O.gr j c).ids q g);refine S a _ C _ ⟨E,λj c=>?_,λj k c hk H q g=>?_,λj c q g=>?_⟩ (z.len.trans s.len) (by grind [Fx.keep,lJ.no]) M rfl ((s.trans z).mono<|by grind) λj c q g=>?_;by_cases h:j=i.toNat;grind [bc.fx];simp only[j5 h];refine((O.gr j c).fx s<|by grind [lJ.dj]).fx z λq g e=>?_;grind [lJ.no,lJ.bx];grind [lJ.dj];grind [lJ.pl];grind
def giB{Y:ae}{e:TypeId}{a:AV}{l:List Bool}{i:Int}{K:j4}(f:bc Y e 1 a<|l.map cb)(c:aF (L l) i):(rV (cz 1 Y a<|iv i) λt=>rV (vp J Y t) K)=K (bv<|gd l i.toNat):=by have d:i.toNat<L l:=(by have:=c.1;have:=c.2;omega);rcases f with⟨h,_⟩|⟨b,rfl,g⟩;simp_all;simp[cz,c.1,g,d,rV,vp,iE,aN,bT d]
def fj(l:List aP)(t:Int)(k:Nat):List Nat:=(aH k).filter λj=>Q<|(gd l j).aq=t
theorem Bb{l:List aP}{t:Int}{k:Nat}:fj l t (k+1)=fj l t k++if(gd l k).aq=t then[k] else[]:=by grind [fj,qn,gd]
theorem wF{l:List aP}{t:Int}{k:Nat}:L (fj l t k)<=k:=by grind [fZ,decide,gd,aH,fj]
def aOu(l:List aP)(k t:Nat):List Bool:=(fj l t k).map λj=>fR<|gd l j
structure xv(w:gz):Prop where
 wo:vL w
 ev:∀e∈w.ac,vo e
 sn:∀k,k<L w.ac->L (cY w k).cells<1000/\L (cY w k).bU<1000/\L (cY w k).count<1000
 ct:L w.init.count=L w.aQ.ay/\∀c∈w.init.count,0<=c/\c<=400
 rd:∀k,k<L w.ac->∀x,x∈(gd w.ac k).dI\/x∈(gd w.ac k).ep-> -1000<=x/\x<=1000/\(gd w.init.count (gd w.ac k).aq.toNat<=x->x-gd w.init.count (gd w.ac k).aq.toNat<(L (aOu w.ac k (gd w.ac k).aq.toNat):Int)/\gd (aOu w.ac k (gd w.ac k).aq.toNat) (x-gd w.init.count (gd w.ac k).aq.toNat).toNat=U)
def PZ(w:gz)(b:xv w):Ct 79 [.a w.c] (·=bv U):=by
 refine aMQ rfl λs2 hl b1 h0=>?_
 have bH:=b.wo.wo.ev
 simp only[akJ,qy 4,u0,u1,b1,rk,aj,↓uL]
 refine ic hl λK s3 F3 N3 b3=>?_
 refine cy (y:=7) (cs:=w.init.c) b3 rfl rfl (by decide) λs4 F4 b4=>?_
 have am:box s4 (3,K)=V ⟨40,7,U,U,[w.init.c]⟩:=b4
 have c1:=F4.kq<|F3.kq b1
 have l4:L s4=4096:=(F4.len.trans F3.len).trans hl
 have bM:=b.wo.th
 simp only[qz 6,u0,u1,c1,rk,aj,dc,cT,↓uL]
 refine AP (by decide) (by decide) (by rw[l4];decide) (by omega) λF s5 bF NR P b5=>?_
 have d1:=P.kq c1
 have d3:=P.kq am
 have l5:L s5=4096:=P.len.trans l4
 simp only[qz 8,u0,u1,d1,rk,aj,cT,↓uL]
 have T:((3,K):Id)≠F:=(by grind)
 have S:((1,1):Id)≠F:=(by grind)
 refine yV (L w.ac) (λk _ Y=>∃ds f,Lk ds (cY w k).c/\box Y (1,1)=V ⟨43,15,U,U,[w.c]⟩/\box Y (3,K)=V ⟨40,7,U,U,[ds]⟩/\lJ Y F 33 4 102 (L w.aQ.ay) (λt=>(aOu w.ac k t).map cb) f/\L Y=4096) ⟨w.init.c,λ_=> .l [] U U,⟨rfl,rfl⟩,d1,d3,⟨by rw[b5,Q0];rfl,λi _=>bc.nil,(by grind [aA]),by grind [aA]⟩,l5⟩ ?_
 rintro k _ Y hk ⟨ds,f,G,e1,e3,O,N⟩
 have aV:=Bi<|oC G
 simp only[qz 31,qy 10,aI,au,u0,u1,ix,rk,bh,e1,aj,↓uL]
 refine⟨λh=>⟨u7 h,?_⟩,λh=>trivial⟩
 have g:=aL h
 refine ic N λv6 Y1 F1 N1 g6=>?_
 refine cy (y:=7) (cs:=aP.c<|gd w.ac k) g6 rfl rfl (by decide) λE F2 ar=>?_
 have h6:box E (6,v6)=V ⟨62,7,U,U,[aP.c<|gd w.ac k]⟩:=ar
 have A:Fx Y E []:=(F1.trans F2).mono (by grind [ig.no])
 have h1:=A.kq e1
 have B:=A.kq e3
 have O2:=O.keep A (by simp) (by simp)
 have l2:L E=4096:=A.len.trans N
 simp only[qz 12,qy 14,u0,u1,h1,B,h6,aV,rk,aj,↓uL]
 simp only[jM,kU,jt,zN,CU,G.arg,Ac]
 obtain⟨x1,x2,x3⟩:=b.sn k g
 have aE:=(b.wo.wo.en k g).2
 refine⟨⟨aE,b.wo.wo.co,b.wo.th,b.wo.sy k g,x1,x2,x3,b.ev _<|asq g⟩,?_⟩
 rintro r ⟨v,rfl,z⟩
 refine⟨.inl ?_,?_⟩
 ·simp only[nA,List.any_cons,List.any_nil,x9 G]
  rfl
 have aJ:oc w.aQ (cY w k) (gd w.ac k)=cY w (k+1):=by grind [cY,nD]
 rw[aJ] at z
 have ad:=Bi<|oC z
 simp only[oJ,pG,aY,↓uL]
 refine ic l2 λv7 Y3 af bB g7=>?_
 refine cy (y:=7) (cs:=v) g7 rfl (oC z) (by decide) λR ah bC=>?_
 have i7:box R (7,v7)=V ⟨40,7,U,U,[v]⟩:=by
  grind
 have u:Fx E R []:=(af.trans ah).mono (by grind [ig.no])
 have i1:=u.kq h1
 have i3:=u.kq B
 have H:=u.kq h6
 have s:=O2.keep u (by simp) (by simp)
 have aT:L R=4096:=u.len.trans l2
 have n:=(b.wo.wo.named g).2
 have o:(gd w.ac k).aq.toNat<L w.aQ.ay:=by have:=n.1;have:=n.2;omega
 have M:aF (L w.init.count) (gd w.ac k).aq:=by rw[b.ct.1];exact n
 simp+contextual only[qz 16,u0,u1,H,rk,aj,fh,eE,aQ6,be8,GL,brl,↓uL]
 refine bhZ 2 (λ_=>True) trivial λj Z _=>?_
 simp+contextual only[qz 97,qy 18,aI,au,u0,u1,↓uL]
 refine⟨λaz=>?_,λaz=>?_⟩
 ·have h2:j<2:=by grind
  rw[ax2 h2]
  have hx:∀x∈(if j=0 then(gd w.ac k).dI else(gd w.ac k).ep),x∈(gd w.ac k).dI\/x∈(gd w.ac k).ep:=by
   grind
  have bg:L (if j=0 then(gd w.ac k).dI else(gd w.ac k).ep)<4611686018427387904:=by have:=b.ev _<|asq g;split;exact this.1;exact this.2
  generalize(if j=0 then(gd w.ac k).dI else(gd w.ac k).ep)=l at*
  simp only[u0,u1,cT,↓uL]
  refine bhZ (L l) (λ_=>True) trivial λm hm _=>?_
  simp+contextual only[qz 133,aI,au,u0,u1,ix,rk,i1,H,aj,bh,↓uL]
  refine⟨λB=>⟨u7 B,?_⟩,by grind [gS]⟩
  have aD:=aL B
  have aK:=b.rd k g _<|hx _<|asq aD
  have bG:=b.ct.2 _<|ii M
  generalize aC:gd l m-gd w.init.count (gd w.ac k).aq.toNat=m' at*
  have hw:dq.wrap m'=m':=(by grind [eM])
  have hO:=s.gr _ o
  simp only[u0,u1,ix,rk,dc,alr,aC,hw,↓uL]
  refine⟨M,?_⟩
  by_cases hz:0<=m'
  ·have D:Q (0<=m')=U:=brS hz
   obtain⟨y1,y2⟩:=aK.2.2 (by omega)
   have X:aF (L<|aOu w.ac k (gd w.ac k).aq.toNat) m':=⟨hz,y1⟩
   have aM:Q ((L (aOu w.ac k (gd w.ac k).aq.toNat):Int)<=m')=I:=(by simp_all)
   simp only[u0,u1,D,jA,H,rk,aj,s.ix n,s.ld o,s.ln o,bJ,aM,giB hO X,y2,fh,kz,bsm,eE,aQ6,be8,GL,↓uL]
   grind [gS]
  ·have D:Q (0<=m')=I:=bmL hz
   simp only[u0,u1,D,jN,show∀x,mL (bv I) x (bv I)=V (bv I) fromλ_=>rfl,eE,aQ6,be8,GL,↓uL]
   grind [gS]
 ·simp+contextual only[u0,u1,H,rk,aj,dc,s.ix n,s.ld o,iz,bQ,↓uL]
  have bL:L (aOu w.ac k (gd w.ac k).aq.toNat)<=k:=by grind [aOu,bJ,wF]
  refine anO (by':=1) (zs:=BE) (d:=102) (e:=4) (new:=[[bv<|fR<|gd w.ac k]]) s n rfl (by rw[aT];decide) (by intro r hr;obtain⟨y,_,rfl⟩:=dN.1 hr;rfl) (by simp) (by grind) λa p Y5 f5 O5 bO C ha bI _ _=>?_
  have j1:=C _ _ i1 S<|.inl rfl
  have j3:=C _ _ i3 T<|.inl rfl
  have W:((7,v7):Id)≠F:=(by grind)
  have j7:=C _ _ i7 W<|.inl rfl
  simp only[qz 22,↓uL]
  refine dT ?_ ?_
  ·have aG:=s.pl _ o
   rcases s.gr _ o with⟨_,r4⟩|⟨⟨k4,u4⟩,r4,_⟩
   ·rw[r4];rfl
   ·have h4:=aG (k4,u4) (by grind [aA])
    simp only at h4
    subst h4
    rw[r4];rfl
  simp only[u0,u1,j7,ad,↓uL]
  refine cy (y:=7) (cs:=v) j3 rfl (oC z) (by rw[oC G];decide) λY6 F6 o3=>?_
  have aU:box Y6 (3,K)=V ⟨40,7,U,U,[v]⟩:=by
   grind [oC]
  have o1:=F6.kq j1
  have O6:=O5.keep F6 (by grind) (λi hi q hq bK=>by
   grind [lJ.pl])
  simp only[qz 24,au,cS,aY,↓uL]
  refine yU g ⟨v,f5,z,o1,aU,?_,by grind [Fx.len]⟩
  have bD:(λj=>if j=(gd w.ac k).aq.toNat then(aOu w.ac k j).map cb++[[bv<|fR<|gd w.ac k]] else(aOu w.ac k j).map cb)=λt=>(aOu w.ac (k+1) t).map cb:=by
   funext j
   have h0:=n.1
   simp only[aOu,Bb]
   by_cases Z:j=(gd w.ac k).aq.toNat
   ·rw[lC Z,lC<|by omega];simp
   ·rw[j5 Z,j5<|by omega];simp
  grind
def Gq:FT:=mT PZ
def azL{w Lw K}:=f110 Gq PZ w Lw K (j:=by simp+contextual only[ij,j9])
def apq:dO:=(79,Gq)::apo
def Rh:eJ apq:=ve (pg PZ)<|Rf
def Do:=ai @azL<|@Ac
def akG a b R:=(.mk _:NR apq at1 Tryz.f30 [.u] [a] b R).p
def aMN{c0:List AV}{R:j4}(l0:L c0=15)(h:H1 43 15 1 c0 λia b=>akG ia b R):Ct 30 [.a c0] R:=z1 at1 Rh Tryz.func30 l0 h
def amF{l:List Int}:jC l↔l.Pairwise (·<·):=by rw[GN];refine⟨λh i j b c a=>?_,λh i b=>?_⟩;have:=AD h a c;grind [bT];grind [bT]
theorem an1:∀{l:List Int} {t x:Int},x∈fk l t->x=t\/x∈l
 |[],t,x,h=>by grind [fk]
 |y::l,t,x,h=>by
  simp only[fk] at h
  split at h
  ·rcases eW.1 h with h|h
   ·simp_all
   ·rcases an1 h with h|h
    ·exact .inl h
    simp_all
  grind
theorem kQ.ni{n:Nat}{s:aW}(h:kQ n s)(i:Int)(t:aoC):kQ n (ni s i t):=⟨h.lo,h.dn,by simp[Ab.ni];exact h.th,h.rd⟩
theorem kQ.lk{n:Nat}{s:aW}(h:kQ n s)(i:Int):jC (cH s i).bk/\∀x∈(cH s i).bk,aF n x:=by unfold cH gd;rw[eI];cases a:s.ak[i.toNat]? with|none=>exact⟨λi b=>aPo b (Nat.not_lt_zero _),λx a=>aPo a ql⟩|some x=>grind [kQ.rd]
theorem kQ.I9{n:Nat}{s:aW}(h:kQ n s)(i:Int)(l:cg)(b:jC l.bk/\∀x∈l.bk,aF n x):kQ n (I9 s i l):=by refine⟨by simp[Ab.I9];exact h.lo,h.dn,h.th,λx a=>?_⟩;simp only[Ab.I9] at a;grind [kQ.rd]
theorem kQ.marks{n:Nat}:∀{l:List Int} {s:aW},kQ n s->kQ n (l.foldl (λs u=>Ab.ni s u {fA s u with cQ:=4}) s)|[],_,h=>h|u::l,s,h=>kQ.marks (l:=l)<|h.ni u _
theorem kQ.apply{n:Nat}{s:aW}(h:kQ n s)(w:J9)(t kind f8 amt:Int)(v:aF n t):kQ n (cU w s t kind f8 amt).1:=by unfold cU;by_cases o:kind=1;grind [kQ.ni];rw[j5 o];by_cases p:kind=2;grind [kQ.ni];rw[j5 p];by_cases q:kind=6\/kind=10;grind [kQ.I9,kQ.lk];rw[j5 q];by_cases r:kind=7\/kind=11;grind [kQ.I9,kQ.lk];rw[j5 r];by_cases u:kind=8;grind [kQ.I9,kQ.lk,Ro,Nz,an1];rw[j5 u];by_cases l:kind=9;rw[lC l];refine h.I9 _ _ ⟨amF.2<|(amF.1 (h.lk f8).1).filter _,λx m=>?_⟩;exact(h.lk f8).2 x (jW.1 m).1;rw[j5 l];by_cases a:kind=12;rw[lC a];exact⟨h.lo,h.dn,h.th,h.rd⟩;rw[j5 a];by_cases b:kind=13;rw[lC b];exact⟨h.lo,h.dn,h.th,h.rd⟩;rw[j5 b];by_cases c:kind=14;grind [kQ.ni];rw[j5 c];by_cases d:kind=15;grind [kQ.ni];rw[j5 d];by_cases e:kind=16;grind [kQ.ni,kQ.I9,kQ.lk];rw[j5 e];by_cases f:kind=17;grind [kQ.ni,kQ.I9,kQ.lk];rw[j5 f];by_cases g:kind=18;grind [kQ.ni];rw[j5 g];by_cases i:kind=19;grind [kQ.marks];rw[j5 i];by_cases j:kind=20;grind [kQ.ni];rw[j5 j];by_cases k:kind=22;rw[lC k];exact⟨h.lo,by simp;exact h.dn,h.th,h.rd⟩;simp_all
theorem Bq{w:gz}(h:bcV w=U):∀k,k<=L w.ac->kQ (L w.aQ.ay) (cY w k).gp:=by obtain⟨e,hs⟩:=aQA h;obtain⟨a,u,r,s,v⟩:=tC e;intro k;induction k with|zero=>intro _;have f:=e;simp only[oh,cP,fK,aNK] at f;have d:=f.2;simp only[ny,bN,yp] at d;have t:L w.init.count=L w.aQ.ay:=(by grind [fN]);refine⟨a.sy.lo,a.sy.dn,a.sy.th,λl o=>?_⟩;have m:l∈w.init.gp.ak:=o;obtain⟨j,g,rfl⟩:=ou m;have c:=(d.1 j g).2;rw[bT g] at c;refine⟨λi b=>?_,λx p=>?_⟩;have:=(c (i+1) b).2 (by omega);simp_all;obtain⟨i,b,rfl⟩:=ou p;have:=(c i b).1;grind [nO,dX,bT]|succ k q=>intro y;have n:=hs k (by omega);simp only[cY,nD,n,bie,oc];refine(q<|by omega).apply _ _ _ _ _ ?_;grind [be3,eH,cP,aOL,fK,dX]
def vd{w:gz}(a:hU w)(h:bcV w=U):vL w:=by obtain⟨b,hs⟩:=aQA h;refine⟨Rr a h,?_,by grind [Bq]⟩;grind [oh,cP,fK,mQ,eH,wJ,decide_eq_false_iff_not]
def kJ(t:Int):List aP->Nat->List Nat|[],_=>[]|e::l,i=>(if e.aq=t then[i] else[])++kJ t l (i+1)
theorem QH{t:Int}:∀{a b:List aP} {i:Nat},kJ t (a++b) i=kJ t a i++kJ t b (i+L a)
 |[],b,i=>by simp[kJ]
 |e::a,b,i=>by
  simp only[zn,kJ,bje]
  rw[QH (a:=a)]
  grind
theorem Qz{t:Int}:∀{l:List aP} {i m:Nat},m<L (kJ t l i)->pS t l m i=((gd (kJ t l i) m:Nat):Int)
 |[],i,m,h=>by simp[kJ] at h
 |e::l,i,m,h=>by
  simp only[pS]
  by_cases a:e.aq=t
  ·rw[lC a]
   cases m with
   |zero=>simp[kJ,a,gd]
   |succ m=>
    rw[j5 (by omega),show((m+1:Nat):Int)-1=(m:Int) by omega]
    rw[Qz (l:=l) (i:=i+1) (m:=m)<|by grind [kJ]]
    simp[kJ,a,gd]
  ·rw[j5 a]
   rw[Qz (l:=l) (i:=i+1) (m:=m)<|by grind [kJ]]
   simp[kJ,a]
theorem anU{t:Int}{l:List aP}:∀{k:Nat},k<=L l->kJ t (l.take k) 0=fj l t k
 |0,_=>by simp[kJ,fj]
 |k+1,h=>by
  have a:k<L l:=by omega
  rw[iJ a,<-bT a,QH,anU (k:=k) (by omega),Bb]
  grind [gd,kJ]
def aEv{w:gz}{t:Int}{k m:Nat}(b:k<=L w.ac)(c:m<L (fj w.ac t k)):oV w t m=(gd (fj w.ac t k) m:Nat):=by have a:kJ t w.ac 0=fj w.ac t k++kJ t (w.ac.drop k) k:=(by(conv=>lhs;rw[<-List.take_append_drop k w.ac]);grind [QH,anU]);grind [oV,Qz,gd,List.getElem?_append_left]
theorem aBC{l:List Int}{i j:Nat}{v:Int}(h:i≠j):gd (l.set i v) j=gd l j:=by grind [gd,oq]
def axw{w:gz}(h:bcV w=U){t:Int}(b:aF (L w.init.count) t):∀k,k<=L w.ac->gd (cY w k).count t.toNat=gd w.init.count t.toNat+(L (fj w.ac t k):Int)/\L (cY w k).count=L w.init.count:=by obtain⟨d,hs⟩:=aQA h;obtain⟨r,n,j,m,o⟩:=tC d;intro k;induction k with|zero=>grind [cY,fj]|succ k g=>intro u;obtain⟨v,f⟩:=g (by omega);have a:=hs k (by omega);have l:=(wK d k<|by omega).cn;have q:t.toNat<L (cY w k).count:=(by have:=b.1;have:=b.2;omega);simp only[cY,nD,a,bie,oc,zq];refine⟨?_,f⟩;simp only[be3,eH,cP] at a;have c:=a.1;simp only[aOL,cP,fK] at c;have e:=dX.1 c.1.1.1.2;have i:=e.1;have p:=b.1;rw[Bb];by_cases s:(gd w.ac k).aq=t;grind [a6G,GJ,asq,gd,cY,eM];grind [aBC]
def anT{w:gz}(p:hU w)(h:bcV w=U):xv w:=by obtain⟨A,hs⟩:=aQA h;obtain⟨v,K,G,H,O⟩:=tC A;have B:=vd p h;have o:L w.init.count=L w.aQ.ay:=(by grind [fN]);have e:∀c∈w.init.count,0<=c/\c<=400:=λc C=>(by have:=v.cn c C;omega);refine⟨B,p.2.2.1,λk q=>?_,⟨o,e⟩,λk q x d=>?_⟩;grind [wK,vH.ce,vH.fu,vH.co];have g:=hs k q;simp only[be3,eH,cP] at g;have n:=g.2.2.2.2;have m:=g.1;simp only[aOL,cP,fK] at m;have z:=dX.1 m.1.1.1.2;simp only[bip,cP,fK,yp] at n;obtain⟨⟨D,E⟩,R⟩:=n;have f:aF (L w.init.count) (gd w.ac k).aq:=(by simp_all);obtain⟨y,P⟩:=axw h f k (by omega);have F:=e _<|ii f;have N:=wF (l:=w.ac) (t:=(gd w.ac k).aq) (k:=k);have u:1<=x/\x<gd (cY w k).count (gd w.ac k).aq.toNat:=(by rcases d with d|d;obtain⟨j,i,rfl⟩:=ou d;have:=D j i;grind [uJ,bT];obtain⟨j,i,rfl⟩:=ou d;have:=E j i;grind [uJ,bT]);rw[y] at u;refine⟨by omega,by omega,λM=>?_⟩;have s:(((gd w.ac k).aq.toNat:Nat):Int)=(gd w.ac k).aq:=kA z.1;have r:(x-gd w.init.count (gd w.ac k).aq.toNat).toNat<L (fj w.ac (gd w.ac k).aq k):=(by omega);have a:qU w (gd w.ac k).aq x=U:=(by grind [bcV,eH,xH,cP,fK]);simp only[qU] at a;rw[bmL (by omega),lG] at a;have b:=aEv (w:=w) (t:=(gd w.ac k).aq) (k:=k) (by omega) r;rw[kA<|by omega] at b;rw[b] at a;simp only[bN,bh] at a;refine⟨?_,?_⟩;grind [aOu,bJ];simp only[aOu,s];rw[bT (by grind),List.getElem_map,<-bT r];exact a.2
def PW(w:gz)(v:bcV w=U/\hU w):Ct 30 [.a w.c] (·=bv U):=by refine aMN rfl λS m p N=>?_;obtain⟨e,k⟩:=v;have g:=anT k e;have h:=e;simp only[bcV,bN,eH,yp] at h;obtain⟨f,D,_⟩:=h;obtain⟨d,C,B,i,E⟩:=tC f;have b:=f;simp only[oh,cP,fK,aNK] at b;obtain⟨⟨⟨⟨⟨x,y⟩,T⟩,A⟩,W⟩,n⟩:=b;have F:=k;have G:=g.wo.th;obtain⟨g1,H,q,K⟩:L w.init.count=L w.aQ.ay/\L w.init.gp.ay=L w.aQ.ay/\L w.init.gp.ak=L w.aQ.ak/\L w.init.gp.done=L w.aQ.bU:=(by grind [fN,iY]);have M:L w.init.bU=L w.aQ.bU:=(by grind [fN]);have o:=n;simp only[ny,bN,yp] at o;have z:(L w.ac:Int)<=16:=(by omega);have r15:aN (V 15) w.c=V (.a w.c):=rfl;have r:L w.ac<1000000/\L w.init.count<1000000:=(by omega);have O:=Bq e 0 (by omega);have u:uZ w=U/\(∀j,j<L w.init.gp.ay->pX w j=U)/\L w.init.count=L w.init.gp.ay/\L w.init.gp.ay<1000000/\L w.init.gp.ak=L w.aQ.ak/\(∀c∈w.aQ.bC,aF (L w.aQ.ak) c.eg):=(by simp_all);have t:ny w=U/\L w.init.gp.ak=L w.aQ.ak/\L w.aQ.ak<=4/\L w.init.gp.ay<=4/\(∀l∈w.init.gp.ak,L l.bk<=100):=⟨n,q,by have:=d.sy.lo;omega,by omega,λl m=>by have:=d.sy.rd l m;omega⟩;have s:(∀j,j<L w.init.bU->L w.init.gp.done=L w.init.bU/\(gd w.init.gp.done j=I->gd w.init.bU j=0))/\L w.init.bU=L w.init.gp.done/\L w.init.bU<1000000:=(by refine⟨λj R=>⟨by omega,λP=>?_⟩,by omega,by have:=d.fu;omega⟩;grind [Ae,Bool.not_false,decide_eq_false_iff_not]);simp+contextual only[akG,u0,u1,p,r15,rk,aj,ar,Do,x,y,A,i,z,r,u,t,s,g,aOe,brp,be8,aNV];grind
def xc:FT:=mT PW
def azI{w Lw K}:=f110 xc PW w Lw K (j:=by simp+contextual only[ij,j9])
def apr:dO:=(30,xc)::apq
def apf:eJ apr:=ve (pg PW)<|Rh
def amm:=ai @azI<|@Do
def aaG a a1 b R:=(.mk _:NR apr auF Tryz.f224 [.u,a1] [a] b R).p
def aKZ{c0:List AV}{a1:AV}{R:j4}(l0:L c0=15)(h:H1 43 15 2 c0 λia b=>aaG ia a1 b R):Ct 224 [.a c0,a1] R:=z1 auF apf Tryz.func224 l0 h
def Oq(w:gz)(q:Int)(e:bcV w=U/\hU w/\L w.ac<100000/\(aF (L w.ac) q->((gd w.ac q.toNat).kind=23->aF (L w.init.gp.done) (gd w.ac q.toNat).f8/\aF (L w.init.bU) (gd w.ac q.toNat).f8)/\((gd w.ac q.toNat).kind=3->aF (L w.init.cells) (gd w.ac q.toNat).f8))):Ct 224 [.a w.c,iv q] (λr=>∃t,r= .l ((dx w q).map ci) t U):=by refine aKZ rfl λj i b h=>?_;obtain⟨f,d,p1,g⟩:=e;have r15:aN (V 15) w.c=V (.a w.c):=rfl;simp+contextual only[aaG,u0,u1,b,r15,ar,amm,f,d,aOe,eE,aQ6,be8];refine⟨⟨p1,g⟩,?_⟩;intro t;exact⟨rfl,t,rfl⟩
def Fp:FT:=pn Oq
def ayp{w q Lw K}:=f211 Fp Oq w q Lw K
def aps:dO:=(224,Fp)::apr
def apg:eJ aps:=ve (aN0 Oq)<|apf
def Dp:=ai @ayp<|@amm
def atc:=lA 62 [(4,([3,20],[1,19])),(10,([3,26],[1,4,19,20,25])),(13,([3],[1,4,19,20,25,26])),(18,([3,43],[1,42])),(25,([3,55],[1,53,54])),(28,([3],[1,53,54,55])),(33,([3,71],[1,69,70])),(36,([3],[1,69,70,71])),(41,([3,83],[1,9,69,70,71,81,82])),(48,([3,98],[1,96,97])),(51,([3],[1,96,97,98])),(56,([3,113],[1,13,96,97,98,111,112]))]
def YE a b R:=(.mk _:NR aps atc Tryz.f157 [.u] [a] b R).p
def aKD{c0:List AV}{R:j4}(l0:L c0=15)(h:H1 43 15 1 c0 λia b=>YE ia b R):Ct 157 [.a c0] R:=z1 atc apg Tryz.func157 l0 h
abbrev uF:List Nat:=[37,50,66,92,122]
abbrev nf2:List Nat:=[37,50,66,92,122,8,10,14]
def NT(w:gz)(hp:kB w/\L w.init.gp.ay<=4/\fN w.aQ w.init=U/\bcV w=U/\hU w):Ct 157 [.a w.c] (λr=>∃t,r= .l ((cw w).map aH8.c) t U):=by refine aKD rfl λs2 hl b1 h0=>?_;obtain⟨H,bg,R,ax,ap⟩:=hp;have a9:=H.ev;simp+contextual only[YE,u0,u1,b1,rk,aj];have z:∀k m:Nat,k<=16->m<=100->k*m<=16*100:=λk m a b=>xn a b;refine iu (λa i=>[a,iv i]) 1 uF nf2 107 3 (L w.ac) (λk=>(lr (L w.ac) k).map aH8.c) (λ_=>True) trivial (.inl ⟨rfl,rfl⟩) λk a Y u _ hG hF=>?_;have c1:box Y (1,1)=_:=hF.bt b1;have P:L Y=4096:=(by rw[hF.1,hl]);simp only[qz 25,aI,u0,u1,c1,rk,aj];refine⟨λh=>?_,λh=>?_⟩;have j:=aL h;have bb:=AS (L w.ac) k;have bc:=z k (L w.ac) (by omega) (by omega);refine iu (λa i=>[a,iv i]) 1 uF nf2 107 3 (L w.ac) (λm=>(lr (L w.ac) k++nB k m).map aH8.c) (λ_=>True) trivial (by grind [nB]) λm a2 M hm _ q d=>?_;have v:L M=4096:=(by rw[d.1,P]);have bd:=Qu k m;simp only[qz 61,aI,di,u0,u1,qz 83,qy 4,qy 6,xy];refine⟨λo=>⟨λs=>?_,λs=>?_⟩,λo=>?_⟩;refine rF ⟨1,k,m⟩ q (by decide) (by omega) (by simp;omega) λW A g3 p=>?_;simp only[qz 81,aI,au,fE,cS,aY];refine bcW (mk:=λa i=>[a,iv i]) (λ_ _=>rfl) (aL o) (by omega) trivial ?_ (d.trans<|p.mono<|by decide);grind [nB,uP,bje];simp only[qz 81,aI,au,fE,cS,aY];refine bcW (mk:=λa i=>[a,iv i]) (λ_ _=>rfl) (aL o) (by omega) trivial ?_ d;grind [nB,uP];have f:m=L w.ac:=(by grind);subst f;refine bcW (mk:=λa i=>[a,iv i]) (λ_ _=>rfl) j (by omega) trivial ?_<|hF.trans d;grind [lr,tq];have e:k=L w.ac:=(by grind);subst e;have aZ:=AS (L w.ac)<|L w.ac;have a0:=z (L w.ac) (L w.ac) (by omega) (by omega);clear h u;refine iu (λa i=>[a,iv i]) 1 uF nf2 107 3 (L w.ac) (λk=>(lr (L w.ac) (L w.ac)++mK k).map aH8.c) (λ_=>True) trivial (by grind [mK]) λk a1 Y1 u _ N C=>?_;have c2:box Y1 (1,1)=_:=C.bt c1;have ad:L Y1=4096:=(by rw[C.1,P]);simp only[qz 109,qy 8,aI,u0,u1,c2,rk,aj,CW];refine⟨λh=>?_,λh=>?_⟩;refine rF ⟨2,k,0⟩ N (by decide) (by omega) (by simp[AT];omega) λW A g3 p=>?_;simp only[qz 10,au,fE,cS,aY];refine bcW (mk:=λa i=>[a,iv i]) (λ_ _=>rfl) (aL h) (by omega) trivial ?_ (C.trans<|p.mono<|by decide);grind [mK,an5,bje];have e:k=L w.ac:=(by grind);subst e;clear h u;generalize ao:lr (L w.ac) (L w.ac)++mK (L w.ac)=S at N;have aJ:L S<=1700:=(by rw[<-ao,a6G,AT];omega);refine iu (λa i=>[a,iv i]) 1 uF nf2 107 3 (L w.ac) (λk=>(S++kh w.ac k).map aH8.c) (λ_=>True) trivial (by grind [kh]) λk a2 M u _ q d=>?_;have c3:box M (1,1)=_:=d.bt c2;have v:L M=4096:=(by rw[d.1,ad]);simp only[qz 151,aI,di,qz 173,qy 12,u0,u1,c3,rk,ix,aj,bh];refine⟨λh=>⟨u7 h,?_⟩,λh=>?_⟩;refine eF rfl rfl (by decide) (by omega) λA p b3=>?_;have ba:=AU w.ac k;simp+contextual only[qz 14,qy 16,qy 18,u0,u1,b3,rk,ar,Dp,CW];refine⟨λs=>?_,λs=>?_⟩;refine rF ⟨3,k,0⟩ (q.fr p<|by decide) (by decide) (by rw[p.1,v];decide) (by simp;omega) λW B g3 F4=>?_;simp only[qz 171,aI,au,fE,cS,aY];refine bcW (mk:=λa i=>[a,iv i]) (λ_ _=>rfl) (aL h) (by omega) trivial ?_ (d.trans<|(p.mono<|by decide).trans<|F4.mono<|by decide);grind [kh,uP,bje];simp only[qz 171,aI,au,fE,cS,aY];refine bcW (mk:=λa i=>[a,iv i]) (λ_ _=>rfl) (aL h) (by omega) trivial ?_ (d.trans<|p.mono<|by decide);rw[kh,uP,s];simpa[kh] using q.fr p (by decide);have e:k=L w.ac:=(by grind);subst e;clear h u;generalize aW:S++kh w.ac (L w.ac)=G at q;have aK:L G<=1800:=(by grind [AU,a6G]);refine iu (λa i=>[a,iv i]) 1 uF nf2 107 3 (L w.ac) (λk=>(G++ki w k).map aH8.c) (λ_=>True) trivial (by grind [ki]) λk W A u _ O x=>?_;have Z:box A (1,1)=_:=x.bt c3;have E:L A=4096:=(by rw[x.1,v]);simp only[qz 199,aI,di,qz 221,qy 20,u0,u1,Z,rk,ix,aj,bh];refine⟨λh=>⟨u7 h,?_⟩,λh=>?_⟩;refine eF rfl rfl (by decide) (by omega) λT n X=>?_;have j:=aL h;have c5:box T (1,1)=_:=n.bt Z;have a8:=vU w (k:Int);have bf:=AW w k;have aw:=z k (1+L w.ac) (by omega) (by omega);have r15:aN (V 15) w.c=V (.a w.c):=rfl;simp+contextual only[qz 22,u0,u1,X,c5,r15,rk,ar,Dp,bh];refine⟨λs=>?_,λs=>?_⟩;simp only[qz 219,aI,au,fE,cS,aY];refine bcW (mk:=λa i=>[a,iv i]) (λ_ _=>rfl) j (by omega) trivial ?_ (x.trans<|n.mono<|by decide);have:dx w (k:Int)=[]:=(by grind [fR,gd,dx]);rw[ki,tq,this,mU,cL];exact O.fr n (by decide);refine⟨⟨ax,ap,by omega,λhq=>?_⟩,λt'=>?_⟩;obtain⟨be,_⟩:=H.named (k:=k) j;simp only[fN,bN,yp] at R;obtain⟨f1,f2,f3,f4⟩:=iY R.1;grind [oU,qP];refine iu (λa i=>[a,iv i]) 1 uF nf2 107 3 (L<|dx w (k:Int)) (λm=>(G++ki w k++((dx w (k:Int)).take m).map λb=>(⟨4,(k:Int),b⟩:aH8)).map aH8.c) (λ_=>True) trivial (by grind [Gr.fr]) λm a4 B hm _ y g=>?_;have F:L B=4096:=(by rw[g.1,n.1,E]);simp only[qz 247,qy 24,aI,u0,u1,tf,rk,bh,xy];refine⟨λo=>⟨u7 o,?_⟩,λo=>?_⟩;have f:=aL o;refine rF ⟨4,k,gd (dx w (k:Int)) m⟩ y (by decide) (by omega) (by simp;omega) λa5 aU g5 ae=>?_;simp only[qz 26,au,fE,cS,aY];refine bcW (mk:=λa i=>[a,iv i]) (λ_ _=>rfl) f (by omega) trivial ?_ (g.trans<|ae.mono<|by decide);grind [EC];have f:m=L (dx w (k:Int)):=(by grind);subst f;simp only[qz 219,aI,au,fE,cS,aY];refine bcW (mk:=λa i=>[a,iv i]) (λ_ _=>rfl) j (by omega) trivial ?_ (x.trans<|(n.mono<|by decide).trans g);grind [ki,tq,bje,gV];have e:k=L w.ac:=(by grind);subst e;clear h u;generalize aX:G++ki w (L w.ac)=K at O;have aM:L K<=3500:=(by grind [AW,a6G]);have hN:cw w=K++jp w (L w.ac):=(by grind [cw]);refine iu (λa i=>[a,iv i]) 1 uF nf2 107 3 (L w.ac) (λk=>(K++jp w k).map aH8.c) (λ_=>True) trivial (by grind [jp]) λk a4 B u _ y g=>?_;have c5:box B (1,1)=_:=g.bt Z;have F:L B=4096:=(by rw[g.1,E]);simp only[qz 289,aI,di,qz 311,qy 28,u0,u1,rk,ix,bh];refine⟨λh=>⟨u7 h,?_⟩,λh=>?_⟩;refine eF rfl rfl (by decide) (by omega) λT n X=>?_;have j:=aL h;have c6:box T (1,1)=_:=n.bt c5;have bj:=Qv w k;have aw:=z k (L w.init.gp.ay+L w.ac) (by omega) (by omega);simp+contextual only[qz 30,u0,u1,X,c6,rk,aj,ar,Dp];refine⟨λs=>?_,λs=>⟨(by omega),λt'=>?_⟩⟩;simp only[qz 309,aI,au,fE,cS,aY];refine bcW (mk:=λa i=>[a,iv i]) (λ_ _=>rfl) j (by omega) trivial ?_ (g.trans<|n.mono<|by decide);have:pR w k=[]:=(by grind [pR]);rw[jp,tq,this,cL];exact y.fr n (by decide);have aV:pN (gd w.ac k)=U:=(by grind);have bi:=Rp w (gd w.ac k).f8 (gd w.ac k).aq;refine iu (λa i=>[a,iv i]) 1 uF nf2 107 3 (L<|mR w (gd w.ac k).f8 (gd w.ac k).aq) (λm=>(K++jp w k++((mR w (gd w.ac k).f8 (gd w.ac k).aq).take m).map λb=>(⟨5,(k:Int),b⟩:aH8)).map aH8.c) (λ_=>True) trivial (by simpa using y.fr n (by decide)) λm a6 Y6 hm _ an D=>?_;have aP:L Y6=4096:=(by rw[D.1,n.1,F]);simp only[qz 337,qy 32,aI,u0,u1,tf,rk,bh,xy];refine⟨λo=>⟨u7 o,?_⟩,λo=>?_⟩;have f:=aL o;refine rF ⟨5,k,gd (mR w (gd w.ac k).f8 (gd w.ac k).aq) m⟩ an (by decide) (by omega) (by simp;omega) λa7 Y7 g7 F7=>?_;simp only[qz 34,au,fE,cS,aY];refine bcW (mk:=λa i=>[a,iv i]) (λ_ _=>rfl) f (by omega) trivial ?_ (D.trans<|F7.mono<|by decide);grind [EC];have f:m=L (mR w (gd w.ac k).f8 (gd w.ac k).aq):=(by grind);subst f;simp only[qz 309,aI,au,fE,cS,aY];refine bcW (mk:=λa i=>[a,iv i]) (λ_ _=>rfl) j (by omega) trivial ?_ (g.trans<|(n.mono<|by decide).trans D);simp_all [jp,tq,bje,pR,gV];have e:k=L w.ac:=(by grind);subst e;rw[hN];grind [qV]
def BQ:FT:=om NT
def ax6{w Lw K}:=f111 BQ NT w Lw K
def apt:dO:=(157,BQ)::aps
def Ey:eJ apt:=ve (rj NT)<|apg
def Lb:=ai @ax6<|@Dp
def atd:=lA 19 [(4,([24],[1,3,22,23])),(7,([],[1,3,22,23,24])),(13,([52],[3,50,51]))]
def bzk a b R:=(.mk _:NS apt atd Tryz.f82 [.u] [a] b R).p
def aKE{c0:List AV}{s0:ae}{R:be}(hs:L s0=4096)(l0:L c0=15)(h:HB1 43 15 1 c0 s0 λc b=>bzk c b R):EB 82 [.a c0] s0 R:=zB1 atd Ey Tryz.func82 hs l0 h
def Ho b a c R:=(.mk _:NS apt at1 Tryz.f95 [b, .u] [a] c R).p
def aKh{c:AV}{b:List AV}{s0:ae}{R:be}(hs:L s0=4096)(l1:L b=3)(h:HB1 107 3 3 b s0 λe d=>Ho c e d R):EB 95 [c, .a b] s0 R:=zB1 at1 Ey Tryz.func95 hs l1 h
abbrev ym:MT:=⟨U,[(0,0),(1,0),(2,0)], .int .i64<|Int.ofNat 0⟩
def bsr(x:aH8):Value:= .agg #[.int .i64 x.kind, .int .i64 x.a, .int .i64 x.b]
def mC:Nat->List aH8->List (Value×Value)|_,[]=>[]|i,x::l=>(bsr x, .int .i64 i)::mC (i+1) l
theorem amE:∀{l:List aH8} {i:Nat} {x:aH8},mC i (l++[x])=mC i l++[(bsr x, .int .i64 ((i+L l:Nat):Int))]
 |[],i,x=>rfl
 |y::l,i,x=>by
  simp only[zn,mC,bZ]
  rw[amE,show i+1+L l=i+(L l+1) by omega]
theorem Qd{x y:aH8}:pO ym (bsr x) (bsr y)=V (Q<|x=y):=by obtain⟨a,b,c⟩:=x;obtain⟨e,g,h⟩:=y;by_cases i:a=e<;>by_cases j:b=g<;>by_cases k:c=h<;>simp[pO,bsr,nW,sS,i,j,k]
def al7{x:aH8}:∀{l:List aH8} {i j:Nat},x∉l->lg ym (bsr x) (mC i l) j=V J
 |[],_,_,_=>rfl
 |y::l,i,j,h=>by
  have c:¬x=y:=(by simp_all)
  simp only[mC,lg,Qd,bmL c]
  exact al7 (by simp_all)
def al9{x:aH8}:∀{l:List aH8} {i j:Nat},x∈l->lg ym (bsr x) (mC i l) j=V (V (j+l.idxOf x, .int .i64 ((i+l.idxOf x:Nat):Int)))
 |[],_,_,h=>by simp at h
 |y::l,i,j,h=>by
  by_cases c:x=y
  ·grind [mC,lg,Qd]
  ·have g:x∈l:=by simp_all
   have e:(y::l).idxOf x=l.idxOf x+1:=by
    grind
   simp only[mC,lg,Qd,bmL c]
   rw[al9 (l:=l) (i:=i+1) (j:=j+1) g,e,show i+1+l.idxOf x=i+(l.idxOf x+1) by omega,show j+1+l.idxOf x=j+(l.idxOf x+1) by omega]
def am6{x:aH8}:ww U (.a<|aH8.c x)=V (bsr x):=rfl
def KH:∀{c:List (Value×Value)},xF (c.map ent)=V c
 |[]=>rfl
 |(k,v)::c=>by simp only[ji,ent,xF,KH];rfl
def anJ{x:aH8}:qR ym (bsr x)=U:=by simp[qR,bsr]
def luV{Y:ae}{b:Id}{t:TypeId}{x:aH8}{l:List aH8}{o n:Nat}(e:box Y b=V ⟨t,0,U,U,[(mC 0 l).map ent]⟩)(h:x∈l):oP ym Y (.g 0 b o n) (.a<|aH8.c x) I=V (iv<|l.idxOf x):=by simp only[oP,am6,e,aQd,ul,aOe,aPI,KH,anJ,al9 h,eE,brW,aj]
def muV{Y:ae}{b:Id}{t:TypeId}{x:aH8}{l:List aH8}{o n:Nat}{v:Int}{K:ae->Prop}(e:box Y b=V ⟨t,0,U,U,[(mC 0 l).map ent]⟩)(h:x∉l)(j:v=L l)(i:∀Y',Fx Y Y' [b]->box Y' b=V ⟨t,0,U,U,[(mC 0<|l++[x]).map ent]⟩->K Y'):sV (muA ym Y (.g 0 b o n) (.a<|aH8.c x)<|iv v) K:=by simp only[muA,am6,e,ul,aOe,aPI,KH,anJ,al7 h];refine i _ (wc e) ?_;grind [lO,amE]
def mmI{t:TypeId}{Y:ae}{d:Nat}{K:be}(c:d<L Y)(h:∀v Y',Fx Y Y' []->ig Y (d,v)->box Y' (d,v)=V ⟨t,0,U,U,[[]]⟩->K (.g 0 (d,v) 0 0) Y'):eV (oS t Y d) K:=by have e:oS t Y d=V (.g 0 (zt Y d) 0 0,put Y d ⟨t,0,U,U,[[]]⟩):=(by simp[oS,aRI,c]);rw[e];exact h _ _ (kH c) (qQ Y d)<|be7 c
def bxI{e:TypeId}{z d:Nat}{cs:List AV}{Y:ae}{K:be}(j:L cs=z)(i:0<z)(c:d<L Y)(h:∀v Y',Fx Y Y' []->ig Y (d,v)->box Y' (d,v)=V ⟨e,z,U,U,[cs]⟩->K (.p (d,v) 0 0) Y'):eV (bxA e z Y d<|.a cs) K:=by have g:bxA e z Y d (.a cs)=V (.p (zt Y d) 0 0,put Y d ⟨e,z,U,U,[cs]⟩):=(by grind [bxA,eY,aRI]);rw[g];exact h _ _ (kH c) (qQ Y d)<|be7 c
def pT(w:gz)(k t:Nat):List (List AV):=(fj w.ac t k).map λ(j:Nat)=>[iv j]
structure wl(Y:ae)(b:Id)(w:gz)(ns:List aH8)(out:List<|List Int)(n wk a:AV)(bm bo:Id)(f:Nat->AV):Prop where
 bx:box Y b=V ⟨157,20,U,U,[w.c++[n, .g 0 bm 0 0,wk, .m bo<|L w.aQ.ay,a]]⟩
 nm:∃t o,n= .l (ns.map aH8.c) t o
 mp:∃t,box Y bm=V ⟨t,0,U,U,[(mC 0 ns).map ent]⟩
 gw:bc Y 107 3 wk ((aR ns 5).map aH8.c)
 ow:lJ Y bo 38 3 73 (L w.aQ.ay) (pT w<|L w.ac) f
 gr:bc Y 38 1 a (out.map λc=>[sl ci c])
 le:L Y=4096
 sb:b.1=18
 sm:bm.1=11
 so:bo.1=16
 sw:∀k∈aA wk,k.1=45
 sa:∀k∈aA a,k.1=12
theorem aEl{ns:List aH8}{x:aH8}(h:x∈ns):dP ns x=(ns.idxOf x:Int)+1:=by rw[dP,lC h]
def aH4{w:gz}{k t:Nat}:∀r∈pT w k t,L r=1:=by intro r c;obtain⟨y,_,rfl⟩:=dN.1 c;rfl
def aCA{w:gz}{Y:ae}(hl:L Y=4096)(hw:bcV w=U)(hf:hU w)(cD:(cw w).Nodup)(cF:L (cw w)<100000):∃r Y1,(∃b n wk bm bo f,r= .p b 0 0/\wl Y1 b w (cw w) [] n wk (.l [] U U) bm bo f/\Fx Y Y1 []/\ig Y b/\ig Y bm/\ig Y bo)/\cZ aS GG 82 [.a w.c] Y r Y1:=by refine aKE hl rfl λs2 v1 K2 cK cM b1=>?_;have F:Fx Y s2 []:=K2.fx [];have bt:L s2=4096:=K2.len.trans hl;obtain⟨hB,hs⟩:=aQA hw;obtain⟨I0,cA,cx,cz,bC⟩:=tC hB;have hN:kB w/\L w.init.gp.ay<=4/\fN w.aQ w.init=U/\bcV w=U/\hU w:=⟨Rr hf hw,I0.sy.th,bC,hw,hf⟩;have hW:=vd hf hw;have cJ:=hW.th;have r15:aN (V 15) w.c=V (.a w.c):=rfl;simp only[bzk,u0,u1,b1,r15,ar,Lb,hN,aOe];intro t;refine⟨.inl rfl,?_⟩;refine mmI (by omega) λo s3 O N3 be=>?_;have c1:=O.kq b1;have bu:L s3=4096:=O.len.trans bt;simp only[qz 4,u0,u1,c1,rk,aj];refine AP (by decide) (by decide) (by omega) (by omega) λbo s4 bq No P bf=>?_;have d1:=P.kq c1;have dm:=P.kq be;have bv:L s4=4096:=P.len.trans bu;have bp:bM aN7 [(0,15),(15,1),(16,1),(17,1),(18,1),(19,1)] [(0, .a w.c),(1, .l ((cw w).map aH8.c) t U),(2, .g 0 (11,o) 0 0),(4, .m bo<|L w.aQ.ay)]=V (.a<|w.c++[.l ((cw w).map aH8.c) t U, .g 0 (11,o) 0 0, .l [] U U, .m bo<|L w.aQ.ay, .l [] U U]):=rfl;simp only[qz 6,bp,aY];refine bxI (by simp[gz.c]) (by decide) (by omega) λu C R N5 b5=>?_;have e1:=R.kq d1;have em:=R.kq dm;have eo:=R.kq bf;have ab:L C=4096:=R.len.trans bv;have a6:Fx s2 C []:=((O.trans P).trans R);generalize cG:cw w=ns at*;have bA:∃t' o',(AV.l (ns.map aH8.c) t U)= .l (ns.map aH8.c) t' o':=⟨_,_,rfl⟩;generalize bx:(AV.l (ns.map aH8.c) t U)=n0 at*;refine dT rfl ?_;have aC:((11,o):Id)≠bo:=(by grind);have ax:((18,u):Id)≠bo:=(by grind);simp only[aPF b5,u0,u1,b5,rkC,aj];rw[<-bx];simp only[u0,gT];refine yV (L ns) (λk _ Y'=>∃wk,Fx C Y' [(18,u),(11,o)]/\box Y' (18,u)=V ⟨157,20,U,U,[w.c++[n0, .g 0 (11,o) 0 0,wk, .m bo<|L w.aQ.ay, .l [] U U]]⟩/\box Y' (11,o)=V ⟨155,0,U,U,[(mC 0<|ns.take k).map ent]⟩/\bc Y' 107 3 wk ((aR (ns.take k) 5).map aH8.c)/\∀q∈aA wk,ig C q/\q.1=45) ⟨.l [] U U,Fx.refl _ _,b5,em,bc.nil,by simp[aA]⟩ ?_;rintro k _ Y6 hk ⟨wk,S,f5,fm,gw,pw⟩;have bw:L Y6=4096:=S.len.trans ab;simp only[qz 25,au,aI,u0,u1,qz 47,qy 10,lX,rk,bh];refine⟨λh=>⟨u7 h,?_⟩,λh=>?_⟩;have A:=aL h;refine ic bw λv7 Y7 W N7 b7=>?_;refine cy (cs:=aH8.c<|gd ns k) b7 rfl rfl (by decide) λY8 F8 b8=>?_;have ap:box Y8 (5,v7)=V ⟨107,3,U,U,[aH8.c<|gd ns k]⟩:=b8;have E:Fx Y6 Y8 []:=(W.trans F8).mono (by grind [ig.no]);have g5:=E.kq f5;have gm:=E.kq fm;have bI:aN (V 3) (aH8.c<|gd ns k)=V (.a<|aH8.c<|gd ns k):=rfl;simp only[qz 12,aPF g5,u0,u1,g5,ap,bI,rkC,aj];have bz:gd ns k∉ns.take k:=(by grind [ou,bT,List.getElem_inj]);refine muV gm bz (by simp_all) λD M cC=>?_;have af:box D (11,o)=V ⟨155,0,U,U,[(mC 0<|ns.take<|k+1).map ent]⟩:=(by grind [iJ,bT]);have h5:=M.kq g5;have h8:=M.kq ap;have G:=(gw.fx E<|by simp).fx M (by grind);have az:=Qg (ns:=ns) (kd:=5) A;have T:Fx C D [(18,u),(11,o)]:=((S.trans E).trans M).mono (by simp);have aB:L D=4096:=T.len.trans ab;simp+contextual only[qz 14,qy 16,u0,u1,h8,rk,aj];refine⟨λhb=>?_,λhb=>?_⟩;simp only[aPF h5,u0,u1,h5,rkC,aj,Db];refine gD G rfl (by decide) (by omega) uT uT (by have:=fZ (λx:aH8=>Q<|x.kind=5)<|ns.take k;simp only[bJ,bZ,aO1,aR] at*;grind) λH ao av v hi hp=>?_;have a2:((18,u):Id)∉aA wk:=(by grind);have a1:((11,o):Id)∉aA wk:=(by grind);have k5:=v.keep _ _ a2 h5;have km:=v.keep _ _ a1 af;simp only[qz 18,aPF k5,u0,u1,k5,aj];refine cy (y:=1) (j:=17) (cs:=[H]) k5 (ms av) rfl (by simp[gz.c]) λba N m5=>?_;have bD:box ba (18,u)=V ⟨157,20,U,U,[w.c++[n0, .g 0 (11,o) 0 0,H, .m bo<|L w.aQ.ay, .l [] U U]]⟩:=m5;have mm:=N.kq km;simp only[qz 20];refine dT rfl ?_;have aD:∀q∈aA H,ig C q/\q.1=45:=λq s=>(by grind [ig.old]);simp only[qz 45,au,aI,cS,aY];refine yU A ⟨H,?_,bD,mm,?_,aD⟩;refine((T.trans v).trans N).mono ?_;intro q s;simp only[dF,eW,ql,bjz] at s⊢;grind [ig.no];have:=av.fx N (λq s e=>by simp at e;subst e;have:=(aD _ s).2;simp at this);rw[az,lC<|aNR hb,dg];exact this;simp only[qz 45,au,aI,cS,aY];refine yU A ⟨wk,T,h5,af,?_,pw⟩;rw[az,j5<|bpF hb,cL];exact G;have aa:k=L ns:=(by grind);subst aa;rw[gV] at fm gw;have bi:box Y6 (1,v1)=_:=S.kq e1;simp only[bi,u0,u1,rk,aj];have cu:∀q:Id,q∈aA wk->q≠bo:=(by grind);have O6:lJ Y6 bo 38 3 73 (L w.aQ.ay) (pT w 0) (λ_=> .l [] U U):=(by refine⟨?_,(by grind [pT,fj,bc.nil]),(by grind [aA]),by grind [aA]⟩;have:=S.keep _ _ (by simp;exact⟨ax.symm,aC.symm⟩) eo;rw[this,Q0];rfl);refine yV (L w.ac) (λk _ Y'=>∃f,Fx C Y' [(18,u),(11,o),bo]/\box Y' (18,u)=V ⟨157,20,U,U,[w.c++[n0, .g 0 (11,o) 0 0,wk, .m bo<|L w.aQ.ay, .l [] U U]]⟩/\box Y' (11,o)=V ⟨155,0,U,U,[(mC 0 ns).map ent]⟩/\bc Y' 107 3 wk ((aR ns 5).map aH8.c)/\lJ Y' bo 38 3 73 (L w.aQ.ay) (pT w k) f/\∀i,i<L w.aQ.ay->∀q∈aA (f i),ig C q) ⟨_,S.mono (by simp),f5,fm,gw,O6,by grind [aA]⟩ ?_;rintro k _ Y7 cB ⟨f,W,p5,pm,aw,O7,cv⟩;have ad:L Y7=4096:=W.len.trans ab;simp only[qz 79,qy 22,au,aI,u0,u1,ix,rk,bh];refine⟨λh2=>⟨u7 h2,?_⟩,λh2=>?_⟩;have A:=aL h2;refine ic ad λv8 Y8 F8 N8 b8=>?_;refine cy (y:=7) (cs:=aP.c<|gd w.ac k) b8 rfl rfl (by decide) λD M b9=>?_;have bd:box D (7,v8)=V ⟨62,7,U,U,[aP.c<|gd w.ac k]⟩:=b9;have z:Fx Y7 D []:=(F8.trans M).mono (by grind [ig.no]);have q5:=z.kq p5;have qm:=z.kq pm;have G:=aw.fx z (by simp);have X:=O7.keep z (by simp) (by simp);have aB:L D=4096:=z.len.trans ad;have B:=(hN.1.named A).2;have ag:(gd w.ac k).aq.toNat<L w.aQ.ay:=(by have:=B.1;have:=B.2;omega);simp only[qz 24,qy 26,aPF q5,u0,u1,q5,bd,rk,rkC,aj,X.ix B,X.ld ag,iz];have cH:=wF (l:=w.ac) (t:=(gd w.ac k).aq.toNat) (k:=k);refine anO (by':=8) (zs:=fB) (d:=73) (e:=3) (new:=[[iv k]]) X B rfl (by rw[aB];decide) aH4 (by simp) (by simp only[pT,bJ,bZ,aO1];omega) λa p ao f' an cf Z ha cg v cc=>?_;have r5:=Z _ _ q5 ax<|.inl rfl;have rm:=Z _ _ qm aC<|.inl rfl;have aV:bc ao 107 3 wk ((aR ns 5).map aH8.c):=(by refine G.fx v λq s cI=>?_;grind [lJ.pl]);simp only[qz 30];refine dT ?_ ?_;have bB:=X.pl _ ag;rcases X.gr _ ag with⟨_,r4⟩|⟨⟨k4,u4⟩,r4,_⟩;rw[r4];rfl;have h4:=bB (k4,u4) (by grind [aA]);simp only at h4;subst h4;rw[r4];rfl;simp only[au,cS,aY];have bl:(λj=>if j=(gd w.ac k).aq.toNat then pT w k j++[[iv k]] else pT w k j)=pT w (k+1):=(by funext j;have h0:=B.1;simp only[pT,Bb];by_cases hj:j=(gd w.ac k).aq.toNat;rw[lC hj,lC<|by omega];simp;rw[j5 hj,j5<|by omega];simp);rw[bl] at an;refine yU A ⟨f',?_,r5,rm,aV,an,λi hi q s=>?_⟩;refine((W.trans z).trans v).mono ?_;intro q s;simp only[dF,eW,ql,bjz] at s⊢;grind [ig.no];grind [ig.old];have aa:k=L w.ac:=(by grind);subst aa;have Nb:ig Y (18,u):=N5.old<|(F.trans O).trans P;have Nm:ig Y (11,o):=N3.old F;have a8:ig Y bo:=No.old<|F.trans O;refine⟨(18,u),n0,wk,(11,o),bo,f,rfl,⟨p5,bA,⟨155,pm⟩,aw,O7,bc.nil,ad,rfl,rfl,bq,λq s=>(pw q s).2,by simp[aA]⟩,?_,Nb,Nm,a8⟩;refine((F.trans a6).trans W).mono ?_;grind [ig.no]
theorem wl.fx{Y Y':ae}{b:Id}{w:gz}{ns:List aH8}{out:List (List Int)}{n wk a:AV}{bm bo:Id}{f:Nat->AV}(C:wl Y b w ns out n wk a bm bo f)(F:Fx Y Y' []):wl Y' b w ns out n wk a bm bo f:=by obtain⟨t,c⟩:=C.mp;exact⟨F.kq C.bx,C.nm,(by grind [Fx.keep]),C.gw.fx F (by simp),C.ow.keep F (by simp) (by simp),C.gr.fx F (by simp),F.len.trans C.le,C.sb,C.sm,C.so,C.sw,C.sa⟩
section
variable{Y:ae}{b:Id}{w:gz}{ns:List aH8}{out:List (List Int)}{n wk a:AV}{bm bo:Id}{f:Nat->AV}{d:Nat}{K:be}
theorem aDD(C:wl Y b w ns out n wk a bm bo f)(u:L ns<100000){x:aH8}(m:x∈ns):∃r g,(r=iv (dP ns x)/\Fx Y g [])/\cZ aS GG 95 [.p b 0 0, .a<|aH8.c x] Y r g:=by refine aKh C.le rfl λo y j q v k=>?_;have i:Fx Y o []:=j.fx [];have e:=C.fx i;have bx:=e.bx;obtain⟨t,l⟩:=e.mp;have h:aN (V 3) (aH8.c x)=V (.a<|aH8.c x):=rfl;have s:ns.idxOf x<L ns:=(by grind);simp only[Ho,aPF bx,u0,u1,bx,rkC,k,h,aj,luV l m,aNN,aoz];grind [fX,aEl]
def lq(C:wl Y b w ns out n wk a bm bo f)(g:L ns<100000){x:aH8}(h:x∈ns)(e:K (iv<|dP ns x) Y):cB 95 [.p b 0 0, .a<|aH8.c x] Y d K:=aS2 rfl (aDD C g h) e
end
def apu:dO:=apt
def sg:eJ apu:=Ey
def Lc:=@Lb
def Hc a a1 b s0 R:=(.mk _:NS apu at1 Tryz.f40 [a,a1,b] [] s0 R).p
def aJ8{a a1 b:AV}{s0:ae}{R:be}(hs:L s0=4096)(h:Hc a a1 b s0 R):EB 40 [a,a1,b] s0 R:=zB at1 sg Tryz.func40 h
def Hj a a1 s0 R:=(.mk _:NS apu at1 Tryz.f39 [a,a1] [] s0 R).p
def aKd{a a1:AV}{s0:ae}{R:be}(hs:L s0=4096)(h:Hj a a1 s0 R):EB 39 [a,a1] s0 R:=zB at1 sg Tryz.func39 h
def Hk a a1 s0 R:=(.mk _:NS apu at1 Tryz.f92 [a,a1] [] s0 R).p
def aKe{a a1:AV}{s0:ae}{R:be}(hs:L s0=4096)(h:Hk a a1 s0 R):EB 92 [a,a1] s0 R:=zB at1 sg Tryz.func92 h
def asF:=lA 0 []
def bt9 a a1 s0 R:=(.mk _:NS apu asF Tryz.f36 [a,a1] [] s0 R).p
def aJ6{a a1:AV}{s0:ae}{R:be}(hs:L s0=4096)(h:bt9 a a1 s0 R):EB 36 [a,a1] s0 R:=zB asF sg Tryz.func36 h
def asY:=lA 7 []
def HF a a1 s0 R:=(.mk _:NS apu asY Tryz.f93 [a,a1] [] s0 R).p
def aKp{a a1:AV}{s0:ae}{R:be}(hs:L s0=4096)(h:HF a a1 s0 R):EB 93 [a,a1] s0 R:=zB asY sg Tryz.func93 h
def asZ:=lA 12 [(4,([7,13],[0,1,11,12])),(7,([7],[0,1,11,12,13]))]
def CN a(I2:aG)(c:bu) f b d:=Rg->aV (gt a 1) (iv 1) λe=>I2 [gt b 0,e] d/\c [gt b 0,e] d<c a f
def Xq a G d e a1(f:aG):=ao 1 a G (gt d 1) λH=>aM a H λK=>rV (cO a e) λi=>aB 0 a i λj=>aB 7 a j λk=>Qfl 6 a k λl=>ao 1 a l a1 λm=>aM a m λn=>aO .sub K n λc=>aO .geq c (iv 0) λb=>Qct b c λo=>Qct b e λp=>Qot b (rV<|cO a p) λq=>aT b 18 a q λr=>Qct b a1 λs=>Qot b (ao 1 a r s) λt=>Qot b (aM a t) λu=>Qot b (aJ a u) λv=>Qot b (aU o v) λw=>aD b w (bv I) λx=>ah x (rV (cO a e) λy=>Qfl 18 a y λz=>ao 1 a z a1 λA=>aM a A λB=>ao 1 a B c λC=>aM a C λD=>eV (aX bH 1 a [(0,D)]) λE g=>eV (Gy 3 fB 8 g 54 (gt d 0) E) λF h=>f [F] h)<|f [gt d 0] a
def Xr t1 d c a1 R I2 e a b:=Rg->aU (gt a 1) t1 λt4=>ah t4 (jV 7 (CN a I2 e b)<|Xq b d a c a1)<|aNN R b [gt a 0]
def HG b a1 a s0 R:=aJ s0 a λt1=>lV [.l [] U U,iv 0] s0<|Xr t1 a b a1 R
def aKq{a a1 b:AV}{s0:ae}{R:be}(hs:L s0=4096)(h:HG a a1 b s0 R):EB 91 [a,a1,b] s0 R:=zB asZ sg Tryz.func91 h
def as9:=lA 11 [(4,([5,13],[0,1,11,12])),(7,([5],[0,1,11,12,13]))]
def HW a a1 s0 R:=(.mk _:NS apu as9 Tryz.f37 [a,a1] [] s0 R).p
def aKA{a a1:AV}{s0:ae}{R:be}(hs:L s0=4096)(h:HW a a1 s0 R):EB 37 [a,a1] s0 R:=zB as9 sg Tryz.func37 h
def as8:=lA 12 [(4,([7],[0,6]))]
def HV a a1 s0 R:=(.mk _:NS apu as8 Tryz.f35 [a,a1] [] s0 R).p
def aKz{a a1:AV}{s0:ae}{R:be}(hs:L s0=4096)(h:HV a a1 s0 R):EB 35 [a,a1] s0 R:=zB as8 sg Tryz.func35 h
def as2:=lA 16 [(4,([22],[5,20,21]))]
def HL a a1 s0 R:=(.mk _:NS apu as2 Tryz.f158 [a,a1] [] s0 R).p
def aKt{a a1:AV}{s0:ae}{R:be}(hs:L s0=4096)(h:HL a a1 s0 R):EB 158 [a,a1] s0 R:=zB as2 sg Tryz.func158 h
section
variable{Y:ae}{b:Id}{w:gz}{ns:List aH8}{out:List (List Int)}{n wk a:AV}{bm bo:Id}{f:Nat->AV}{d:Nat}{K:be}
def av9{k x y:Int}:bM br8 aon [(0,iv k),(1,iv x),(2,iv y)]=V (.a<|aH8.c ⟨k,x,y⟩):=rfl
def als{k x:Int}:bM br8 aon [(0,iv k),(1,iv x)]=V (.a<|aH8.c ⟨k,x,0⟩):=rfl
def aDw(C:wl Y b w ns out n wk a bm bo f)(e:L ns<100000){x y:Int}(g:(⟨1,x,y⟩:aH8)∈ns):∃r c,(r=iv (lB ns x y)/\Fx Y c [])/\cZ aS GG 40 [.p b 0 0,iv x,iv y] Y r c:=by refine aJ8 C.le ?_;simp only[Hc,qy 2,av9,aY];exact lq C e g ⟨rfl,Fx.refl _ _⟩
def kg(C:wl Y b w ns out n wk a bm bo f)(e:L ns<100000){x y:Int}(g:(⟨1,x,y⟩:aH8)∈ns)(c:K (iv<|lB ns x y) Y):cB 40 [.p b 0 0,iv x,iv y] Y d K:=aS2 rfl (aDw C e g) c
def aDA(C:wl Y b w ns out n wk a bm bo f)(e:L ns<100000){x:Int}(g:(⟨2,x,0⟩:aH8)∈ns):∃r c,(r=iv (lE ns x)/\Fx Y c [])/\cZ aS GG 39 [.p b 0 0,iv x] Y r c:=by refine aKd C.le ?_;simp only[Hj,qy 2,als,aY];exact lq C e g ⟨rfl,Fx.refl _ _⟩
def gq(C:wl Y b w ns out n wk a bm bo f)(e:L ns<100000){x:Int}(g:(⟨2,x,0⟩:aH8)∈ns)(c:K (iv<|lE ns x) Y):cB 39 [.p b 0 0,iv x] Y d K:=aS2 rfl (aDA C e g) c
def aDB(C:wl Y b w ns out n wk a bm bo f)(e:L ns<100000){x:Int}(g:(⟨3,x,0⟩:aH8)∈ns):∃r c,(r=iv (lF ns x)/\Fx Y c [])/\cZ aS GG 92 [.p b 0 0,iv x] Y r c:=by refine aKe C.le ?_;simp only[Hk,qy 2,als,aY];exact lq C e g ⟨rfl,Fx.refl _ _⟩
def AQ(C:wl Y b w ns out n wk a bm bo f)(e:L ns<100000){x:Int}(g:(⟨3,x,0⟩:aH8)∈ns)(c:K (iv<|lF ns x) Y):cB 92 [.p b 0 0,iv x] Y d K:=aS2 rfl (aDB C e g) c
theorem wl.ne{q:Id}{x:bY}(C:wl Y b w ns out n wk a bm bo f)(c:box Y q=V x)(e:x.var=U\/x.elem≠38):q∉aA a:=λh=>by
 have:=C.gr.ids q h
 grind
def wl.na(C:wl Y b w ns out n wk a bm bo f):b∉aA a:=C.ne C.bx<|.inl rfl
theorem wl.upd{Y':ae}{out':List (List Int)}{e:AV}(C:wl Y b w ns out n wk a bm bo f)(F:Fx Y Y'<|aA a++[b])(p:box Y' b=V ⟨157,20,U,U,[w.c++[n, .g 0 bm 0 0,wk, .m bo<|L w.aQ.ay,e]]⟩)(r:bc Y' 38 1 e<|out'.map λc=>[sl ci c])(o:∀k∈aA e,k.1=12):wl Y' b w ns out' n wk e bm bo f:=by obtain⟨t,s⟩:=C.mp;have j:∀{q:Id} {x:bY},box Y q=V x->x.var=U\/x.elem≠38->q.1≠18->q∉aA a++[b]:=(by grind [wl.ne,wl.sb]);refine⟨p,C.nm,(by grind [Fx.keep,wl.sm]),C.gw.fx F λq h=>j (C.gw.ids q h) (.inr<|by simp) (by grind [wl.sw]),C.ow.keep F (j C.ow.bx (.inl rfl)<|by rw[C.so];decide)<|λi l q h=>j ((C.ow.gr i l).ids q h) (.inr<|by simp)<|by rw[C.ow.pl i l q h];decide,r,F.len.trans C.le,C.sb,C.sm,C.so,C.sw,o⟩
theorem aDu(C:wl Y b w ns out n wk a bm bo f)(ho:L out<1000000000){x:AV}{c:List Int}(hx:dG Y x= .l (c.map ci) I I)(hc:L c<1000000)(hp:(∃r t o,x= .l r t o)\/∃k m,x= .m k m/\k.1≠18):∃r A,(∃a1,r= .t []/\wl A b w ns (out++[c]) n wk a1 bm bo f/\Ad Y A b a a1)/\cZ aS GG 36 [.p b 0 0,x] Y r A:=by refine aJ6 C.le ?_;have bx:=C.bx;simp only[bt9,aPF bx,u0,u1,bx,rkC,aj];refine Kr (bA:=c.map ci) hx fF (by grind) (by simp[gY]) (by rw[C.le];decide) λB A g1 P F=>?_;have C1:=C.fx P;simp only[qz 2,qy 4];rw[show aYp=[.l [] I I] from rfl];refine bsI g1 λT F2=>?_;have am:∀k∈aA a,k∉aA B:=λk N z=>(F k z).1.no _<|C.gr.ids k N;have al:b∉aA B:=λz=>(F b z).1.no _ C.bx;have D:Fx Y T []:=(P.trans F2).mono (by grind [ig.no]);have i:=C.fx D;refine gD i.gr rfl (by decide) (by rw[i.le];decide) (by simp) (by simp) (by simp;omega) λs Y3 X R hi hs=>?_;have H:=R.keep _ _ i.na i.bx;simp only[qz 6,aPF H,u0,u1,H,aj];refine cy (y:=1) (j:=19) (cs:=[s]) H (ms X) rfl (by simp[gz.c]) λG S b4=>?_;have W:box G b=V ⟨157,20,U,U,[w.c++[n, .g 0 bm 0 0,wk, .m bo<|L w.aQ.ay,s]]⟩:=b4;simp only[qz 8];have E:Fx T G (aA a++[b]):=R.trans S;have M:∀q∈aA s,q∉[b]:=λq O e=>(by simp at e;subst e;rcases hi q O with h|h;exact C.na h;exact h.no _ i.bx);have C4:=i.upd E W (out':=out++[c]) (by rw[dg];exact X.fx S M) (λq O=>(hs q O).elim (i.sa q) id);have hA:Ad Y G b a s:=(by refine⟨(D.trans E).mono ?_,by grind [ig.old]⟩;grind);refine dT ?_ ⟨s,rfl,C4,hA⟩;have u:=C.sb;obtain⟨b1,b2⟩:=b;simp only at u;subst u;have Z:(∃r t o,B= .l r t o)\/∃v m,B= .m (10,v) m:=(by rcases g1 with⟨_,h⟩|⟨⟨k1,k2⟩,h,_⟩;grind;have:=(F (k1,k2)<|by rw[h];simp[aA]).2;grind);rcases hp with⟨r,t,o,rfl⟩|⟨⟨k1,k2⟩,m,rfl,N⟩<;>rcases Z with⟨r',t',o',rfl⟩|⟨v,m',rfl⟩<;>simp[eL,lb,m8,dC,dK]<;>(try exactλe=>N e)<;>(omega)
def anw(C:wl Y b w ns out n wk a bm bo f)(s:L out<1000000000){x:AV}{c:List Int}(v:dG Y x= .l (c.map ci) I I)(q:L c<1000000)(u:(∃r t o,x= .l r t o)\/∃k m,x= .m k m/\k.1≠18)(j:∀g e,wl e b w ns (out++[c]) n wk g bm bo f->Ad Y e b a g->K (.t []) e):cB 36 [.p b 0 0,x] Y d K:=by refine jH rfl (aDu C s v q u) ?_;rintro r e ⟨g,rfl,i,h⟩;exact⟨h.fx.len,j g e i h⟩
def boV(C:wl Y b w ns out n wk a bm bo f)(j:L out<1000000000)(c:List Int)(i:L c<1000000){t o:Bool}(h:∀g e,wl e b w ns (out++[c]) n wk g bm bo f->Ad Y e b a g->K (.t []) e):cB 36 [.p b 0 0, .l (c.map ci) t o] Y d K:=anw C j rfl i (by simp) h
def avK{e:TypeId}{z:Nat}{x:AV}{bA:List (List AV)}(h:bc Y e z x bA):dG Y x= .l bA I I:=by rcases h with⟨rfl,rfl⟩|⟨k,rfl,c⟩;rfl;simp[dG,eR,gi,c,nrm,gK]
theorem qB{x:AV}{l:List aH8}{k:Nat}{K:j4}(e:bc Y 107 3 x<|l.map aH8.c)(i:k<L l):(rV (cz 3 Y x<|iv k) λt=>rV (vp (V 3) Y t) K)=K (.a<|aH8.c<|gd l k):=by rcases e with⟨g,_⟩|⟨b,rfl,h⟩;simp_all;simp_all [cz,rV,vp,iE,aN,bT,aH8.c]
def gO(ns l:List aH8)(y:Int):List Int:=(l.filter λv=>Q<|v.b=y).map<|dP ns
theorem aMV{ns l:List aH8}{y:Int}{k:Nat}(h:k<L l):gO ns (l.take<|k+1) y=gO ns (l.take k) y++(if(gd l k).b=y then[dP ns<|gd l k] else[]):=by grind [iJ,gO,bT]
theorem aDX(C:wl Y b w ns out n wk a bm bo f)(S:L ns<100000)(y:Int):∃r g,(bc g 3 1 r ((gO ns (aR ns 5) y).map ci)/\Fx Y g []/\∀b∈aA r,ig Y b)/\cZ aS GG 37 [.p b 0 0,iv y] Y r g:=by refine aKA C.le ?_;have bx:=C.bx;have A:L (aR ns 5)<=L ns:=fZ _ _;have q:∀x∈aR ns 5,x∈ns:=λx T=>(jW.1 T).1;simp only[HW,aPF bx,u0,u1,bx,rkC,aj,lnI C.gw,bJ];have o:=C.gw;generalize aR ns 5=l at A q o;refine jD (α:=AV) (λa i=>[a,iv i]) 1 (L l) (λk r Y'=>bc Y' 3 1 r ((gO ns (l.take k) y).map ci)/\Fx Y Y' []/\∀b∈aA r,ig Y b) (s0:= .l [] U U) ⟨bc.nil,Fx.refl _ _,by simp[aA]⟩ ?_;rintro k r g R ⟨g1,j,u⟩;have B:L g=4096:=j.len.trans C.le;simp only[qz 25,au,aI,u0,u1,qz 47,qy 2];refine⟨λh=>?_,λh=>?_⟩;have e:=aL h;rw[qB (o.fx j<|by simp) e];refine ic B λv Y2 E Z M=>?_;refine cy (cs:=aH8.c<|gd l k) M rfl rfl (by decide) λt G N=>?_;have z:box t _=V ⟨107,3,U,U,[aH8.c<|gd l k]⟩:=N;have m:Fx g t []:=(E.trans G).mono (by grind [ig.no]);have F:Fx Y t []:=j.trans m;have O:=g1.fx m (by simp);have W:=aMV (ns:=ns) (y:=y) e;have D:aN (V 3) (aH8.c<|gd l k)=V (.a<|aH8.c<|gd l k):=rfl;simp+contextual only[qz 4,u0,u1,z,D,rk,aj];have X:L (gO ns (l.take k) y)<=k:=(by grind [gO]);refine⟨λP=>?_,λP=>?_⟩;refine lq (C.fx F) S (q _<|asq e) ?_;simp only[qz 6,qy 8,qy 10,iz,bQ,au];refine gD (new:=[[iv<|dP ns<|gd l k]]) O rfl (by decide) (by rw[F.len,C.le];decide) fF (by simp) (by grind) λa4 Y4 g4 H hi _=>?_;simp only[qz 45,au,aI,u0,u1];refine dR (mk:=λa i=>[a,iv i]) (s:=r) (λ_ _=>rfl) e (by omega) ⟨?_,(F.trans H).mono (by grind [ig.no]),λk R=>?_⟩;simp_all;grind [ig.old];simp only[qz 45,au,aI,u0,u1];refine dR (mk:=λa i=>[a,iv i]) (s:=r) (λ_ _=>rfl) e (by omega) ⟨?_,F,u⟩;simp_all;rw[oB<|bw h] at g1;exact⟨g1,j,u⟩
def anC(C:wl Y b w ns out n wk a bm bo f)(e:L ns<100000)(y:Int)(c:∀t,K (.l ((gO ns (aR ns 5) y).map ci) t U) Y):cB 37 [.p b 0 0,iv y] Y d K:=bwW rfl (aDX C e y) c
theorem aDO(C:wl Y b w ns out n wk a bm bo f)(hw:L w.ac<1000000){j:Int}(T:aF (L w.ac) j):∃r m,(r=iv (kr w j)/\Fx Y m [])/\cZ aS GG 158 [.p b 0 0,iv j] Y r m:=by refine aKt C.le ?_;have bx:=C.bx;simp only[HL,qy 2,aPF bx,u0,u1,bx,rkC,rk,ix,aj];refine⟨T,?_⟩;refine ic C.le λW s3 F N3 M=>?_;refine cy (y:=7) (cs:=aP.c<|gd w.ac j.toNat) M rfl rfl (by decide) λt G N=>?_;have A:box t (5,W)=V ⟨62,7,U,U,[aP.c<|gd w.ac j.toNat]⟩:=N;have l:Fx Y t []:=(F.trans G).mono (by grind [ig.no]);have u:=C.fx l;have q:=u.bx;simp only[qz 4,aPF q,u0,u1,q,rkC,aj];refine yV (L w.ac) (λk _ Y'=>Fx t Y' []/\∀i,i<k->pV (gd w.ac j.toNat) (gd w.ac i)=I) ⟨Fx.refl _ _,by simp⟩ ?_;rintro k _ m hk ⟨e,R⟩;have B:L m=4096:=e.len.trans u.le;have O:=e.kq A;simp+contextual only[qz 25,qy 6,au,aI,u0,u1,ix,rk,bh];refine⟨λh=>⟨u7 h,?_⟩,λh=>?_⟩;have D:=aL h;refine ic B λv Y2 E N2 H=>?_;refine cy (y:=7) (cs:=aP.c<|gd w.ac k) H rfl rfl (by decide) λo x z=>?_;have s:box o (7,v)=V ⟨62,7,U,U,[aP.c<|gd w.ac k]⟩:=z;have g:Fx m o []:=(E.trans x).mono (by grind [ig.no]);have P:=g.kq O;simp+contextual only[qz 8,u0,u1,s,P,rk,aj,aNN,aoz];have Z:Fx Y o []:=(l.trans e).trans g;have X:pV (gd w.ac j.toNat) (gd w.ac k)=U->iv (k:Int)=iv (kr w j)/\Fx Y o []:=(by grind [kr,KW]);refine⟨(by grind [pV]),λh1=>⟨(by grind [pV]),λh2=>⟨(by grind [pV]),λh3=>?_⟩⟩⟩;exact yU D ⟨e.trans g,by grind [pV]⟩;have:=KX (p:=λi=>pV (gd w.ac j.toNat)<|gd w.ac i) (n:=L w.ac) (λi S=>R i<|bkb S<|bw h);simp only[kr,this,aNN,aoz];exact⟨trivial,l.trans e⟩
theorem aDW(C:wl Y b w ns out n wk a bm bo f)(hw:L w.ac<1000000){k:Int}(o:aF (L w.ac) k)(B:aF (L w.init.gp.ay) (gd w.ac k.toNat).aq)(S:L w.init.gp.ay<1000000):∃r e,((∃v,r= .t [iv v,bv (bh0 w k).2]/\((bh0 w k).2=U->v=(bh0 w k).1))/\Fx Y e [])/\cZ aS GG 35 [.p b 0 0,iv k] Y r e:=by refine aKz C.le ?_;have bx:=C.bx;have N:=o.1;have O:=o.2;have P:=B.1;have R:=B.2;simp only[HV,aPF bx,u0,u1,bx,rkC,rk,ix,aj];refine⟨o,?_⟩;rw[eM (by omega)<|by omega];refine⟨λvs Y'=>∃i:Nat,vs=[iv<|(i:Int)-1]/\i<=k.toNat/\Fx Y Y' []/\btc w.ac (gd w.ac k.toNat).aq i=btc w.ac (gd w.ac k.toNat).aq k.toNat,λvs _=>match vs with|[.s (.int _ i)]=>(i+1).toNat|_=>0,(by grind [Fx.refl]),?_⟩;rintro vs e ⟨i,rfl,Z,m,X⟩;have q:=C.fx m;have j:=q.bx;simp only[qz 25,qy 2,au,aI,aPF j,u0,u1,j,rkC,rk,ix,aj,dc];refine⟨λh=>?_,λh=>?_⟩;simp only[yp] at h;obtain⟨i,rfl⟩:∃M,i=M+1:=⟨i-1,by omega⟩;have H:((i+1:Nat):Int)-1=(i:Int):=(by omega);rw[H];have A:aF (L w.ac) (i:Int):=⟨by omega,by omega⟩;refine⟨A,?_⟩;rw[bh];refine ic q.le λv W D T F=>?_;refine cy (y:=7) (cs:=aP.c<|gd w.ac i) F rfl rfl (by decide) λu E G=>?_;have x:box u (8,v)=V ⟨62,7,U,U,[aP.c<|gd w.ac i]⟩:=G;have g:Fx e u []:=(D.trans E).mono (by grind [ig.no]);simp+contextual only[qz 4,u0,u1,x,rk,aj,aNN,aoz];refine⟨λz=>?_,λz=>?_⟩;simp only[bN,yp] at z;have l:btc w.ac (gd w.ac k.toNat).aq k.toNat=V i:=(by grind [btc]);refine⟨⟨(i:Int),?_,λ_=>?_⟩,m.trans g⟩;simp[bh0,l];simp[bh0,l];rw[eM (by omega)<|by omega];refine⟨⟨i,rfl,by omega,m.trans g,?_⟩,by omega⟩;grind [btc];simp only[aNK] at h;obtain rfl:i=0:=(by omega);grind [btc,eM,aNN,aoz,bh0]
def awL{fn:Nat}{xs:List AV}{Q:j4}(l:uQ.elem fn=U)(k:∀r,Q r->∃v u,r= .t [.s v, .s u])(h:∃r c,(Q r/\Fx Y c [])/\cZ aS GG fn xs Y r c)(j:∀r,Q r->K r Y):cB fn xs Y d K:=by obtain⟨r,c,⟨e,g⟩,i⟩:=h;obtain⟨v,u,rfl⟩:=k r e;refine⟨_,c,i,g.len,?_⟩;rw[lC<|show GG.rd fn=U from l];exact⟨g.kp,rfl,j _ e⟩
def aEi(C:wl Y b w ns out n wk a bm bo f)(g:L w.ac<1000000){j:Int}(e:aF (L w.ac) j)(c:K (iv<|kr w j) Y):cB 158 [.p b 0 0,iv j] Y d K:=aS2 rfl (aDO C g e) c
theorem anB(C:wl Y b w ns out n wk a bm bo f)(h:L w.ac<1000000){k:Int}(e:aF (L w.ac) k)(g:aF (L w.init.gp.ay) (gd w.ac k.toNat).aq)(c:L w.init.gp.ay<1000000)(i:∀v,((bh0 w k).2=U->v=(bh0 w k).1)->K (.t [iv v,bv (bh0 w k).2]) Y):cB 35 [.p b 0 0,iv k] Y d K:=awL (Q:=λr=>∃v,r= .t [iv v,bv (bh0 w k).2]/\((bh0 w k).2=U->v=(bh0 w k).1)) rfl (by simp_all) (aDW C h e g c) (by simp_all)
def aRQ(l:List aP)(t:Int)(k:Nat):List Int:=(fj l t k).map λ(j:Nat)=>(j:Int)
theorem wE{l:List aP}{t:Int}{k:Nat}:L (aRQ l t k)=L (fj l t k):=by simp[aRQ]
theorem Ba{l:List aP}{t:Int}{k:Nat}:aRQ l t (k+1)=aRQ l t k++if(gd l k).aq=t then[(k:Int)] else[]:=by grind [aRQ,Bb]
theorem btL{w:gz}{k t:Nat}:pT w k t=(aRQ w.ac t k).map ci:=by simp[pT,aRQ,vA,Function.comp_def]
theorem QC{l:List aP}{t:Int}{j:Nat}:∀{k:Nat},j<=k->∃r,aRQ l t k=aRQ l t j++r
 |0,h=>(by simp_all)
 |k+1,h=>by
  rcases jj j (k+1) with c|c
  ·obtain⟨r,e⟩:=QC (l:=l) (t:=t) (show j<=k by omega)
   grind [Ba]
  ·exact⟨[],by grind⟩
def aEY{l:List aP}{t:Int}{k:Nat}:∀x∈aRQ l t k,0<=x/\x<k:=by intro x e;obtain⟨j,c,rfl⟩:=dN.1 e;have:=fq.1 (jW.1 c).1;omega
theorem QI{l:List aP}{t:Int}:∀{k:Nat},qT l t k=if 0<L (aRQ l t k) then gd (aRQ l t k) (L (aRQ l t k)-1) else-1
 |0=>by simp[qT,aRQ,fj]
 |k+1=>by
  rw[qT,Ba]
  by_cases h:(gd l k).aq=t
  ·grind [gd]
  ·rw[j5 h,j5 h,cL]
   exact QI
theorem aE5{A r:List Int}{x:Int}(h:x∉A):oW (A++x::r) x=L A:=by grind [oW]
theorem aDL(C:wl Y b w ns out n wk a bm bo f)(B:L w.ac<1000000){j:Int}(k:aF (L w.ac) j)(e:aF (L w.aQ.ay) (gd w.ac j.toNat).aq):∃r o,(r=iv (lw w.ac j)/\Fx Y o [])/\cZ aS GG 93 [.p b 0 0,iv j] Y r o:=by refine aKp C.le ?_;have bx:=C.bx;have g:(gd w.ac j.toNat).aq.toNat<L w.aQ.ay:=(by have:=e.1;have:=e.2;omega);have v:(((gd w.ac j.toNat).aq.toNat:Nat):Int)=(gd w.ac j.toNat).aq:=kA e.1;have i:=C.ow.gr _ g;rw[btL,v] at i;have s:=k.1;have z:=k.2;have u:((j.toNat:Nat):Int)=j:=kA s;obtain⟨r,c⟩:=QC (l:=w.ac) (t:=(gd w.ac j.toNat).aq) (show j.toNat+1<=L w.ac by omega);rw[Ba,lC rfl,bje,u] at c;have m:oW (aRQ w.ac (gd w.ac j.toNat).aq<|L w.ac) j=L (aRQ w.ac (gd w.ac j.toNat).aq j.toNat):=(by rw[c];exact aE5 λy=>by have:=(aEY _ y).2;omega);have x:L (aRQ w.ac (gd w.ac j.toNat).aq<|L w.ac)<=L w.ac:=(by rw[wE];exact wF);have A:L (aRQ w.ac (gd w.ac j.toNat).aq j.toNat)<=j.toNat:=(by rw[wE];exact wF);simp only[HF,aPF bx,u0,u1,bx,rkC,rk,ix,aj];refine⟨k,?_⟩;simp only[C.ow.ix e,C.ow.ld g,aY,jM,kU,jt,tW,avK i];rw[show AV.l ((aRQ w.ac (gd w.ac j.toNat).aq<|L w.ac).map ci) I I=sl ci (aRQ w.ac (gd w.ac j.toNat).aq<|L w.ac) from rfl];simp only[Lc,AL,GL,m,u0,u1];refine⟨by omega,λh=>?_,λh=>?_⟩;simp only[yp] at h;rw[eM (by omega)<|by omega];have q:aF (L<|aRQ w.ac (gd w.ac j.toNat).aq<|L w.ac) ((L (aRQ w.ac (gd w.ac j.toNat).aq j.toNat):Int)-1):=(by rw[c];simp only[a6G,bZ];exact⟨by omega,by omega⟩);simp only[Dw i q,aNN,aoz];refine⟨?_,Fx.refl _ _⟩;rw[lw,QI,lC (by omega),c];congr 1;have:(((L (aRQ w.ac (gd w.ac j.toNat).aq j.toNat):Int)-1).toNat)=L (aRQ w.ac (gd w.ac j.toNat).aq j.toNat)-1:=(by omega);grind [gd];grind [aNN,aoz,Fx.refl,lw,QI]
def anA(C:wl Y b w ns out n wk a bm bo f)(h:L w.ac<1000000){j:Int}(e:aF (L w.ac) j)(g:aF (L w.aQ.ay) (gd w.ac j.toNat).aq)(c:K (iv<|lw w.ac j) Y):cB 93 [.p b 0 0,iv j] Y d K:=aS2 rfl (aDL C h e g) c
theorem alO{l:List aP}{u:Int}:∀{k:Nat},k<=L l->lU l u k=L (aRQ l u k)
 |0,_=>by simp[lU,aRQ,fj]
 |k+1,h=>by
  rw[alN (by omega),Ba,a6G,alO<|by omega]
  grind
theorem Q7{p:Nat->Bool}{k:Nat}:fw p (k+1)=fw p k++if p k=U then[(k:Int)] else[]:=by grind [fw,qn]
theorem Er{w:gz}{u x:Int}:∀{k:Nat},k<=L w.ac->fw (lm w u x) k=if 0<=x-gd w.init.count u.toNat/\x-gd w.init.count u.toNat<(L (aRQ w.ac u k):Int) then[gd (aRQ w.ac u k) (x-gd w.init.count u.toNat).toNat] else[]
 |0,_=>by simp[fw,aRQ,fj]
 |k+1,h=>by
  have i:=Er (w:=w) (u:=u) (x:=x) (k:=k) (by omega)
  have e:=alO (l:=w.ac) (u:=u) (k:=k) (by omega)
  generalize o:x-gd w.init.count u.toNat=m at i⊢
  rw[Ba]
  by_cases c:(gd w.ac k).aq=u
  ·rw[lC c,a6G,GJ]
   by_cases j:m=L (aRQ w.ac u k)
   ·have g:lm w u x k=U:=by simp only[lm,c,e,brp,iw,yp];omega
    rw[Q7,lC g,i,j5 (by omega),lC (by omega),j]
    simp[gd]
   ·have g:lm w u x k=I:=by simp only[lm,c,e,brp,iw,aNK];omega
    grind [Q7,gd]
  grind [lm,Q7]
theorem DT{w:gz}{u:Int}{l:List Int}{k:Nat}(h:k<L l):bqV w u l (k+1)=bqV w u l k++fw (lm w u<|gd l k) (L w.ac):=by grind [bqV,iJ,bT]
theorem aDM(C:wl Y b w ns out n wk a bm bo f)(hw:L w.ac<=16){u:Int}{l:List Int}(hl:L l<100000)(y:aF (L w.aQ.ay) u)(X:L w.init.count=L w.aQ.ay)(W:0<=gd w.init.count u.toNat/\gd w.init.count u.toNat<=400)(T:∀x∈l,-1000<=x/\x<=1000):∃r g,(bc g 3 1 r ((fg w u l).map ci)/\Fx Y g []/\∀b∈aA r,ig Y b)/\cZ aS GG 91 [.p b 0 0,iv u,sl ci l] Y r g:=by refine aKq C.le ?_;have A:u.toNat<L w.aQ.ay:=(by have:=y.1;have:=y.2;omega);have H:((u.toNat:Nat):Int)=u:=kA y.1;simp only[HG,u0,u1,↓uL];refine jD (α:=AV) (λa i=>[a,iv i]) 1 (L l) (λk r Y'=>bc Y' 3 1 r ((bqV w u l k).map ci)/\L (bqV w u l k)<=k/\Fx Y Y' []/\∀b∈aA r,ig Y b) (s0:= .l [] U U) ⟨bc.nil,by simp[bqV],Fx.refl _ _,by simp[aA]⟩ ?_;rintro k r g R ⟨g1,Z,v,D⟩;have j:=C.fx v;have bx:=j.bx;have aa:L g=4096:=j.le;have B:=j.ow.gr _ A;rw[btL,H] at B;have M:aF (L w.init.count) u:=(by simp_all);simp only[Xr,au,aI,u0,u1,Xq,ix,rk,aPF bx,bx,rkC,bh,aj,dc,↓uL];refine⟨λh=>⟨u7 h,M,?_⟩,λh=>?_⟩;have c:=aL h;have ab:=T _<|asq c;have e:=Er (w:=w) (u:=u) (x:=gd l k) (k:=L w.ac)<|dA _;have S:L (aRQ w.ac u<|L w.ac)<=L w.ac:=(by rw[wE];exact wF);generalize hm:gd l k-gd w.init.count u.toNat=m at e⊢;have N:dq.wrap m=m:=(by grind [eM]);rw[N];have F:fS g (f u.toNat)=V (iv<|L<|aRQ w.ac u<|L w.ac):=(by rw[lnI B,bJ]);have z:¬(0<=m/\m<(L (aRQ w.ac u<|L w.ac):Int))->CN [r,iv k] (yI (λa i=>[a,iv i]) (L l) λk r Y'=>bc Y' 3 1 r ((bqV w u l k).map ci)/\L (bqV w u l k)<=k/\Fx Y Y' []/\∀b∈aA r,ig Y b) (gM 1<|L l) g [r] g:=(by intro G;simp only[CN,au,aI,u0,u1,↓uL];refine dR (mk:=λa i=>[a,iv i]) (s:=r) (λ_ _=>rfl) c (by omega) ⟨?_,?_,v,D⟩;rw[DT c,e,j5 G,cL];exact g1;rw[DT c,e,j5 G,cL];omega);by_cases q:0<=m;have t:Q (0<=m)=U:=brS q;simp only[u0,u1,t,aPF bx,bx,rkC,aj,j.ow.ix y,j.ow.ld A,F];refine⟨λE=>?_,λE=>z<|by simp_all⟩;have o:aF (L<|aRQ w.ac u<|L w.ac) m:=⟨q,by simpa using E⟩;simp only[Dw B o,iz,bQ];refine gD (new:=[[iv<|gd (aRQ w.ac u<|L w.ac) m.toNat]]) g1 rfl (by decide) (by omega) fF (by simp) (by grind) λa4 Y4 P O hi _=>?_;simp only[CN,au,aI,u0,u1,↓uL];refine dR (mk:=λa i=>[a,iv i]) (s:=r) (λ_ _=>rfl) c (by omega) ⟨?_,?_,(v.trans O).mono (by grind [ig.no]),λk R=>?_⟩;rw[DT c,e,lC ⟨q,o.2⟩,dg];exact P;rw[DT c,e,lC ⟨q,o.2⟩];simp;omega;grind [ig.old];have t:Q (0<=m)=I:=bmL q;simp only[u0,t,jN,show∀x,mL (bv I) x (bv I)=V (bv I) fromλ_=>rfl,eE,aQ6,be8,GL];exact z (by omega);have:k=L l:=(by grind);subst this;exact⟨g1,v,D⟩
def Qp(C:wl Y b w ns out n wk a bm bo f)(j:L w.ac<=16){u:Int}{l:List Int}(h:L l<100000)(i:aF (L w.aQ.ay) u)(e:L w.init.count=L w.aQ.ay)(c:0<=gd w.init.count u.toNat/\gd w.init.count u.toNat<=400)(k:∀x∈l,-1000<=x/\x<=1000)(g:∀t,K (.l ((fg w u l).map ci) t U) Y):cB 91 [.p b 0 0,iv u,sl ci l] Y d K:=bwW rfl (aDM C j h i e c k) g
end
def apv:dO:=apu
def tB:eJ apv:=sg
def aBo:=@Lc
def asX:=lA 32 [(3,([16],[0,2,15])),(9,([4],[0,2,3,15,16])),(15,([39],[0,2,38])),(18,([],[0,2,38,39])),(24,([66],[0,65])),(27,([],[0,65,66]))]
def HC a s0 R:=(.mk _:NS apv asX Tryz.f83 [a] [] s0 R).p
def aKo{a:AV}{s0:ae}{R:be}(hs:L s0=4096)(h:HC a s0 R):EB 83 [a] s0 R:=zB asX tB Tryz.func83 h
def as3:=lA 26 [(2,([],[0,4,5,6])),(8,([55],[0,4,5,6,53,54])),(15,([11],[0,4,5,6,10])),(18,([85],[0,4,5,6,10,11,83,84])),(21,([],[0,4,5,6,10,11,83,84,85]))]
def HM b a c R:=(.mk _:NS apv as3 Tryz.f168 [b, .u] [a] c R).p
def aKu{c:AV}{b:List AV}{s0:ae}{R:be}(hs:L s0=4096)(l1:L b=3)(h:HB1 107 3 3 b s0 λe d=>HM c e d R):EB 168 [c, .a b] s0 R:=zB1 as3 tB Tryz.func168 hs l1 h
def Hl c a b d R:=(.mk _:NS apv auF Tryz.f159 [c, .u, .u] [a,b] d R).p
def aKf{d:AV}{b:List AV}{c:List AV}{s0:ae}{R:be}(hs:L s0=4096)(l1:L b=4)(e:L c=4)(h:HB2 220 4 4 b 220 4 5 c s0 λg i f=>Hl d g i f R):EB 159 [d, .a b, .a c] s0 R:=zB2 auF tB Tryz.func159 hs l1 e h
def asK:=lA 6 []
def Hg c a b d R:=(.mk _:NS apv asK Tryz.f160 [c, .u, .u] [a,b] d R).p
def aKb{d:AV}{b:List AV}{c:List AV}{s0:ae}{R:be}(hs:L s0=4096)(l1:L b=4)(e:L c=4)(h:HB2 220 4 4 b 220 4 5 c s0 λg i f=>Hg d g i f R):EB 160 [d, .a b, .a c] s0 R:=zB2 asK tB Tryz.func160 hs l1 e h
def asJ:=lA 12 [(1,([12],[0,10,11])),(7,([24],[0,2,10,11,12,22,23]))]
def Hf a s0 R:=(.mk _:NS apv asJ Tryz.f90 [a] [] s0 R).p
def aKa{a:AV}{s0:ae}{R:be}(hs:L s0=4096)(h:Hf a s0 R):EB 90 [a] s0 R:=zB asJ tB Tryz.func90 h
def asG:=lA 19 [(1,([14],[0,12,13])),(4,([],[0,12,13,14])),(13,([46],[0,2,4,12,13,14,44,45])),(16,([],[0,2,4,12,13,14,44,45,46]))]
def bua a s0 R:=(.mk _:NS apv asG Tryz.f88 [a] [] s0 R).p
def aJ7{a:AV}{s0:ae}{R:be}(hs:L s0=4096)(h:bua a s0 R):EB 88 [a] s0 R:=zB asG tB Tryz.func88 h
def asI:=lA 31 [(2,([4],[0,3])),(7,([4,5,43],[0,3,41,42])),(10,([4,5],[0,3,41,42,43])),(12,([4],[0,3,5,7,41,42,43])),(18,([8,98],[0,3,4,5,96,97])),(25,([114],[0,3,4,112,113]))]
def buc b a c R:=(.mk _:NS apv asI Tryz.f166 [b, .u] [a] c R).p
def aJ9{c:AV}{b:List AV}{s0:ae}{R:be}(hs:L s0=4096)(l1:L b=3)(h:HB1 107 3 3 b s0 λe d=>buc c e d R):EB 166 [c, .a b] s0 R:=zB1 asI tB Tryz.func166 hs l1 h
structure jb(w:gz)(ns:List aH8):Prop where
 ln:L ns<100000
 bf:∀x y:Int,aF (L w.ac) x->aF (L w.ac) y->x≠y->(⟨1,x,y⟩:aH8)∈ns
 ex:∀x:Int,aF (L w.ac) x->(⟨2,x,0⟩:aH8)∈ns
 fx:∀x:Int,aF (L w.ac) x->fR (gd w.ac x.toNat)=U->(⟨3,x,0⟩:aH8)∈ns
def anX{l:List aP}{t:Int}:∀{k:Nat},qT l t k<k
 |0=>by simp[qT]
 |k+1=>by
  rw[qT]
  split
  ·omega
  ·have:=anX (l:=l) (t:=t) (k:=k);omega
def anW{w:gz}{j:Nat}:lw w.ac j<j:=by simp_all [anX,lw]
def azY{p:Nat->Bool}:∀{n:Nat},0<=uo p n->uo p n<n/\p (uo p n).toNat=U:=by intro n h;by_cases m:∃i,i<n/\p i=U;obtain⟨i,o,q⟩:=m;have c:∃k,k<n/\p k=U/\∀j,j<k->p j=I:=(by induction i using Nat.strongRecOn with|_ i r=>grind);obtain⟨k,l,g,e⟩:=c;rw[KW l g e];simp_all;grind [KX]
def aIp{w:gz}{j:Nat}(h:0<=kr w j):aF (L w.ac) (kr w j)/\kr w j≠j:=by obtain⟨c,g⟩:=azY h;refine⟨⟨h,c⟩,λe=>?_⟩;grind [pV,kr]
section
variable{Y:ae}{b:Id}{w:gz}{ns:List aH8}{out:List (List Int)}{n wk a:AV}{bm bo:Id}{f:Nat->AV}{d:Nat}{K:be}
def bsW(Y:ae)(b:Id)(w:gz)(ns:List aH8)(out cl:List<|List Int)(n wk a:AV)(bm bo:Id)(f:Nat->AV):be:=λr c=>∃a1,r= .t []/\wl c b w ns (out++cl) n wk a1 bm bo f/\Ad Y c b a a1
def bsi{fn:Nat}{xs:List AV}{cl:List (List Int)}(k:uQ.elem fn=I)(h:∃r c,bsW Y b w ns out cl n wk a bm bo f r c/\cZ aS GG fn xs Y r c)(j:∀e c,wl c b w ns (out++cl) n wk e bm bo f->Ad Y c b a e->K (.t []) c):cB fn xs Y d K:=by refine jH k h ?_;rintro r c ⟨e,rfl,i,g⟩;exact⟨g.fx.len,j e c i g⟩
theorem aDK(C:wl Y b w ns out n wk a bm bo f)(M:jb w ns)(ak:∀k,k<L w.ac->aF (L w.aQ.ay) (gd w.ac k).aq)(hw:L w.ac<=16)(ho:L out+L (bqD ns w)<1000000000):∃r E,bsW Y b w ns out (bqD ns w) n wk a bm bo f r E/\cZ aS GG 83 [.p b 0 0] Y r E:=by have e:=M.ln;refine aKo C.le ?_;have bx:=C.bx;simp only[bqD,a6G] at ho;simp only[HC,aPF bx,u0,u1,bx,rkC,aj];refine yV (L w.ac) (λk _ Y'=>∃g,wl Y' b w ns (out++(aH k).flatMap (jy ns<|L w.ac)) n wk g bm bo f/\Ad Y Y' b a g) (by grind [Ad.refl]) ?_;rintro k _ E v ⟨a1,C1,A1⟩;have l1:=fU (f:=jy ns<|L w.ac) v;simp only[qz 19,au,aI,u0,u1];refine⟨λh=>?_,λh=>?_⟩;have O:=aL h;rw[fX<|by omega];have S:=fU (f:=jy ns<|L w.ac) (show k+1<=L w.ac by omega);rw[aNG,a6G] at S;have al:L ((aH<|L w.ac).flatMap<|my ns k)=L (jy ns (L w.ac) k):=rfl;refine AI (α:=Unit) (λ_ i=>[iv i]) 0 (L w.ac) (k+1) (by omega) (λj _ Y'=>∃g,wl Y' b w ns (out++(aH k).flatMap (jy ns<|L w.ac)++(aH j).flatMap (my ns k)) n wk g bm bo f/\Ad Y Y' b a g/\k<j) (s0:=()) (by grind [aol,my]) ?_;rintro j _ W hj ⟨F,s,t,ag⟩;have l2:=fU (f:=my ns k) hj;simp only[qz 55,au,aI,u0,u1];refine⟨λm=>?_,λm=>?_⟩;have N:=aL m;refine kg s e (M.bf _ _ ⟨by omega,by omega⟩ ⟨by omega,by omega⟩<|by omega) ?_;simp only[qz 2,au];refine kg s e (M.bf _ _ ⟨by omega,by omega⟩ ⟨by omega,by omega⟩<|by omega) ?_;simp only[qz 4,fi,bQ,qz 6];refine boV s (by grind) [_,_] (by simp) λu G l q=>?_;simp only[qz 8,au,u0,u1];refine yU N ⟨u,?_,t.trans q,by omega⟩;grind [aNG,my];refine yU O ⟨F,?_,t⟩;grind [aNG,jy];have o:k=L w.ac:=(by grind);subst o;refine yV (L w.ac) (λk _ Y'=>∃g,wl Y' b w ns (out++(aH<|L w.ac).flatMap (jy ns<|L w.ac)++(aH k).flatMap (kY ns w)) n wk g bm bo f/\Ad Y Y' b a g) (by grind) ?_;rintro k _ W v ⟨F,s,t⟩;have l2:=fU (f:=kY ns w) v;simp only[qz 91,au,aI,u0,u1,qz 113];refine⟨λh=>?_,λh=>?_⟩;have c:=aL h;refine anA s (by omega) (dJ c) (by simp_all) ?_;have ah:=anW (w:=w) (j:=k);simp only[qz 10,u0,u1];refine⟨λm=>?_,λm=>?_⟩;have x:=aNR m;have A:=fU (f:=kY ns w)<|show k+1<=L w.ac from c;have e2:kY ns w k=[[lB ns (lw w.ac k) k],[-lE ns k,lE ns<|lw w.ac k]]:=(by rw[kY,lC x]);rw[aNG,e2,a6G] at A;simp only[bZ,aO1] at A;have P:aF (L w.ac) (lw w.ac k):=⟨x,by omega⟩;refine kg s e (by grind [jb.bf,dJ]) ?_;simp only[qz 12,a5Y,bQ,qz 14];refine boV s (by grind) [_] (by simp) λu G l q=>?_;simp only[qz 16,au];refine gq l e (M.ex _<|dJ c) ?_;simp only[qz 18,de e,aY];refine gq l e (M.ex _ P) ?_;simp only[qz 20,qy 22,qy 24,fi,bQ];refine boV l (by grind) [_,_] (by simp) λH X y D=>?_;simp only[qz 111,au,aI,u0,u1];refine yU c ⟨H,?_,(t.trans q).trans D⟩;grind [aNG];simp only[qz 111,au,aI,u0,u1];refine yU c ⟨F,?_,t⟩;grind [aNG,kY];have o:k=L w.ac:=(by grind);subst o;refine yV (L w.ac) (λk _ Y'=>∃g,wl Y' b w ns (out++(aH<|L w.ac).flatMap (jy ns<|L w.ac)++(aH<|L w.ac).flatMap (kY ns w)++(aH k).flatMap (mA ns w)) n wk g bm bo f/\Ad Y Y' b a g) (by grind) ?_;rintro k _ G v ⟨u,l,q⟩;have l3:=fU (f:=mA ns w) v;simp only[qz 145,au,aI,u0,u1,qz 167];refine⟨λh=>?_,λh=>?_⟩;have c:=aL h;refine aEi l (by omega) (dJ c) ?_;simp only[qz 26,u0,u1];refine⟨λm=>?_,λm=>?_⟩;have x:=aNR m;obtain⟨z,R⟩:=aIp x;have B:=fU (f:=mA ns w)<|show k+1<=L w.ac from c;have e3:mA ns w k=[[-lE ns k,lE ns<|kr w k],[-lE ns k,lB ns (kr w k) k]]:=(by rw[mA,lC x]);rw[aNG,e3,a6G] at B;simp only[bZ,aO1] at B;refine gq l e (M.ex _<|dJ c) ?_;simp only[qz 28,de e,aY];refine gq l e (M.ex _ z) ?_;simp only[qz 30,fi,bQ,qz 32];refine boV l (by grind) [_,_] (by simp) λH X y D=>?_;simp only[qz 34,au];refine gq y e (M.ex _<|dJ c) ?_;simp only[qz 36,de e,aY,au];refine kg y e (M.bf _ _ z (dJ c) R) ?_;simp only[qz 38,qy 40,qy 42,fi,bQ];refine boV y (by grind) [_,_] (by simp) λZ Y5 C5 T=>?_;simp only[qz 165,au,aI,u0,u1];refine yU c ⟨Z,?_,(q.trans D).trans T⟩;grind [aNG];simp only[qz 165,au,aI,u0,u1];refine yU c ⟨u,?_,q⟩;grind [aNG,mA];have o:k=L w.ac:=(by grind);subst o;exact⟨u,rfl,by grind [bqD],q⟩
def aEh(C:wl Y b w ns out n wk a bm bo f)(M:jb w ns)(g:∀k,k<L w.ac->aF (L w.aQ.ay) (gd w.ac k).aq)(j:L w.ac<=16)(i:L out+L (bqD ns w)<1000000000)(h:∀e c,wl c b w ns (out++bqD ns w) n wk e bm bo f->Ad Y c b a e->K (.t []) c):cB 83 [.p b 0 0] Y d K:=bsi rfl (aDK C M g j i) h
structure tP(w:gz):Prop where
 ct:L w.init.count=L w.aQ.ay
 c0:∀u:Int,aF (L w.aQ.ay) u->0<=gd w.init.count u.toNat/\gd w.init.count u.toNat<=400
 dl:∀k,k<L w.ac->L (gd w.ac k).dI<100000/\∀x∈(gd w.ac k).dI,-1000<=x/\x<=1000
 fl:∀k,k<L w.ac->L (gd w.ac k).ep<100000/\∀x∈(gd w.ac k).ep,-1000<=x/\x<=1000
 dp:∀k,k<L w.ac->∀q∈fg w (gd w.ac k).aq (gd w.ac k).dI,aF (L w.ac) q/\fR (gd w.ac q.toNat)=U
 fr:∀k,k<L w.ac->∀q∈fg w (gd w.ac k).aq (gd w.ac k).ep,aF (L w.ac) q/\fR (gd w.ac q.toNat)=U
theorem aDy(C:wl Y b w ns out n wk a bm bo f)(M:jb w ns)(D:tP w)(q:∀k,k<L w.ac->aF (L w.aQ.ay) (gd w.ac k).aq)(hw:L w.ac<=16)(ho:L out+L ((aH<|L w.ac).flatMap<|kX ns w)<1000000000):∃r l,bsW Y b w ns out ((aH<|L w.ac).flatMap<|kX ns w) n wk a bm bo f r l/\cZ aS GG 90 [.p b 0 0] Y r l:=by have z:=M.ln;refine aKa C.le ?_;have bx:=C.bx;simp only[Hf,aPF bx,u0,u1,bx,rkC,aj];refine yV (L w.ac) (λk _ Y'=>∃g,wl Y' b w ns (out++(aH k).flatMap (kX ns w)) n wk g bm bo f/\Ad Y Y' b a g) (by grind [Ad.refl]) ?_;rintro k _ l hk ⟨a1,s,N⟩;simp only[qz 7,qy 2,au,aI,u0,u1,ix,rk,bh];refine⟨λh=>⟨u7 h,?_⟩,λh=>?_⟩;have e:=aL h;refine ic s.le λv Y2 S N2 Z=>?_;refine cy (y:=7) (cs:=aP.c<|gd w.ac k) Z rfl rfl (by decide) λF T b3=>?_;have G:box F (3,v)=V ⟨62,7,U,U,[aP.c<|gd w.ac k]⟩:=b3;have E:Fx l F []:=(S.trans T).mono (by grind [ig.no]);have P:=s.fx E;simp only[qz 4,u0,u1,G,rk,aj];refine Qp P hw (D.dl k e).1 (q k e) D.ct (D.c0 _<|q k e) (D.dl k e).2 λt=>?_;have l1:=fU (f:=kX ns w)<|show k+1<=L w.ac from e;rw[aNG,a6G] at l1;have A:=D.dp k e;have i:kX ns w k=(aH<|L<|fg w (gd w.ac k).aq (gd w.ac k).dI).flatMap (qv ns k<|fg w (gd w.ac k).aq (gd w.ac k).dI):=rfl;rw[i] at l1;generalize hL:fg w (gd w.ac k).aq (gd w.ac k).dI=Lw at A i l1;have ak:L Lw<4000000000:=(by have:L Lw=L ((aH<|L Lw).flatMap<|qv ns k Lw):=(by clear hL i l1 A;generalize L Lw=m;induction m with|zero=>rfl|succ m ih=>rw[aNG,a6G,<-ih];rfl);omega);simp only[qz 6,gT,u0];refine yV (L Lw) (λj _ Y'=>∃g,wl Y' b w ns (out++(aH k).flatMap (kX ns w)++(aH j).flatMap (qv ns k Lw)) n wk g bm bo f/\Ad Y Y' b a g) (by grind [Ad.fxn]) ?_;rintro j _ Y4 hj ⟨W,u,B⟩;have l4:=fU (f:=qv ns k Lw) hj;simp only[qz 43,au,aI,u0,u1,tf,rk,bh];refine⟨λx=>⟨u7 x,?_⟩,λx=>?_⟩;have o:=aL x;obtain⟨q1,q2⟩:=A _<|asq o;refine gq u z (M.ex _<|dJ e) ?_;simp only[qz 8,de z,aY];refine AQ u z (M.fx _ q1 q2) ?_;simp only[qz 10,fi,bQ,qz 12];refine boV u (by grind) [_,_] (by simp) λX Y5 R O=>?_;simp only[qz 14,au,cS,aY];refine yU o ⟨X,?_,B.trans O⟩;rw[aNG,<-bje];exact R;refine yU e ⟨W,?_,B⟩;grind [aNG];have H:k=L w.ac:=(by grind);subst H;exact⟨a1,rfl,s,N⟩
def aEd(C:wl Y b w ns out n wk a bm bo f)(M:jb w ns)(D:tP w)(g:∀k,k<L w.ac->aF (L w.aQ.ay) (gd w.ac k).aq)(j:L w.ac<=16)(i:L out+L ((aH<|L w.ac).flatMap<|kX ns w)<1000000000)(h:∀e c,wl c b w ns (out++(aH<|L w.ac).flatMap (kX ns w)) n wk e bm bo f->Ad Y c b a e->K (.t []) c):cB 90 [.p b 0 0] Y d K:=bsi rfl (aDy C M D g j i) h
def uf(ns:List aH8)(e c:Int):List (List Int):=if c<0\/e<0 then[] else[[-lE ns c,lE ns e],[-lE ns c,lB ns e c]]
theorem aDC(C:wl Y b w ns out n wk a bm bo f)(M:jb w ns)(ho:L out<999999990){R O g W c T:Int}{P S:Bool}(H:0<=g->aF (L w.ac) g)(N:0<=c->aF (L w.ac) c)(ae:g≠c\/c<0):∃r x,bsW Y b w ns out (uf ns g c) n wk a bm bo f r x/\cZ aS GG 159 [.p b 0 0, .a [iv R,iv O,iv g,bv P], .a [iv W,iv c,iv T,bv S]] Y r x:=by have i:=M.ln;refine aKf C.le rfl rfl λZ v4 v5 D af _ _ m F=>?_;have v:Fx Y Z []:=D.fx [];have l:=C.fx v;have X:∀{p q s t:AV},aN J ([p,q,s,t].drop 1)=V q:=rfl;have y:∀{p q s t:AV},aN J ([p,q,s,t].drop 2)=V s:=rfl;simp+contextual only[Hl,u0,u1,m,F,X,y,aj];refine⟨λh=>?_,λh=>?_⟩;simp only[aNN,aoz];simp only[fH,yp] at h;refine⟨a,rfl,?_,⟨v.mono (by simp),λk G=> .inl G⟩⟩;grind [uf];simp only[cP,aNK] at h;have j:=N (by omega);have o:=H (by omega);have ad:uf ns g c=[[-lE ns c,lE ns g],[-lE ns c,lB ns g c]]:=(by grind [uf]);refine gq l i (M.ex _ j) ?_;simp only[qz 6,de i,aY,u1,m,y,aj];refine gq l i (M.ex _ o) ?_;simp only[qz 8,fi,bQ,qz 10];refine boV l (by omega) [_,_] (by simp) λa1 x u z=>?_;have A:=z.keep m (by intro e;have:=C.sb;rw[<-e] at this;simp at this)<|l.ne m<|.inl rfl;simp only[qz 12];refine dT ?_ ?_;simp_all [eL,lb,cq,m8,dC,dK];refine gq u i (M.ex _ j) ?_;simp only[qz 14,de i,aY,u1,A,y,aj];refine kg u i (M.bf _ _ o j<|by omega) ?_;simp only[qz 16,fi,bQ,qz 18];refine boV u (by simp;omega) [_,_] (by simp) λE Y2 C2 B=>?_;simp only[qz 20];refine dT ?_ ⟨E,rfl,?_,Ad.pre v<|z.trans B⟩;obtain⟨aa,ab⟩:=b;have:=C.sb;simp only at this;subst this;simp[eL,lb,cq,m8,dC,dK];simp_all
theorem aDz(C:wl Y b w ns out n wk a bm bo f)(M:jb w ns)(ho:L out<999999990){X y l yt o yr:Int}{W Z:Bool}(k:aF (L w.ac) y)(i:aF (L w.ac) o)(R:0<=l->aF (L w.ac) l)(m:y≠o)(G:0<=l->l≠o):∃r v,bsW Y b w ns out (jI ns y l o) n wk a bm bo f r v/\cZ aS GG 160 [.p b 0 0, .a [iv X,iv y,iv l,bv W], .a [iv yt,iv o,iv yr,bv Z]] Y r v:=by have c:=M.ln;refine aKb C.le rfl rfl λT v4 v5 N ad _ _ x P=>?_;have A:Fx Y T []:=N.fx [];have g:=C.fx A;have S:∀{p q s t:AV},aN J ([p,q,s,t].drop 1)=V q:=rfl;have B:∀{p q s t:AV},aN J ([p,q,s,t].drop 2)=V s:=rfl;simp+contextual only[Hg,u0,u1,x,P,S,B,aj];refine⟨λh=>?_,λh=>?_⟩;refine gq g c (M.ex _ k) ?_;simp only[qz 6,de c,aY];refine gq g c (M.ex _ i) ?_;simp only[qz 8,de c,aY];refine kg g c (M.bf _ _ k i m) ?_;simp only[qz 10,qy 12,qy 14,de c,aY,xA,bQ];refine boV g (by omega) [_,_,_] (by simp) λa1 v j u=>⟨a1,rfl,?_,Ad.pre A u⟩;grind [jI];have h':=bpF h;have z:=R (by omega);refine gq g c (M.ex _ k) ?_;simp only[qz 16,de c,aY];refine gq g c (M.ex _ i) ?_;simp only[qz 18,de c,aY];refine kg g c (M.bf _ _ k i m) ?_;simp only[qz 20,de c,aY,u1,x,B,aj];refine gq g c (M.ex _ z) ?_;simp only[qz 22,vR,bQ,qz 24];refine boV g (by omega) [_,_,_,_] (by simp) λa1 v j u=>?_;have F:=u.keep x (by intro e;have:=C.sb;rw[<-e] at this;simp at this)<|g.ne x<|.inl rfl;simp only[qz 26];refine dT ?_ ?_;obtain⟨D,E⟩:=b;have:=C.sb;simp only at this;subst this;simp[eL,lb,cq,m8,dC,dK];refine gq j c (M.ex _ k) ?_;simp only[qz 28,de c,aY];refine gq j c (M.ex _ i) ?_;simp only[qz 30,de c,aY];refine kg j c (M.bf _ _ k i m) ?_;simp only[qz 32,de c,aY,u1,F,B,aj];refine kg j c (M.bf _ _ z i<|G<|by omega) ?_;simp only[qz 34,vR,bQ,qz 36];refine boV j (by simp;omega) [_,_,_,_] (by simp) λO Y2 C2 H=>?_;simp only[qz 38];refine dT ?_ ⟨O,rfl,?_,Ad.pre A<|u.trans H⟩;obtain⟨D,E⟩:=b;have:=C.sb;simp only at this;subst this;simp[eL,lb,cq,m8,dC,dK];grind [jI]
def aEe(C:wl Y b w ns out n wk a bm bo f)(M:jb w ns)(k:L out<999999990){r o e v c u:Int}{q s:Bool}(l:0<=e->aF (L w.ac) e)(m:0<=c->aF (L w.ac) c)(i:e≠c\/c<0)(j:∀h g,wl g b w ns (out++uf ns e c) n wk h bm bo f->Ad Y g b a h->K (.t []) g):cB 159 [.p b 0 0, .a [iv r,iv o,iv e,bv q], .a [iv v,iv c,iv u,bv s]] Y d K:=bsi rfl (aDC C M k l m i) j
def anx(C:wl Y b w ns out n wk a bm bo f)(M:jb w ns)(m:L out<999999990){u g c y e x:Int}{s v:Bool}(q:aF (L w.ac) g)(r:aF (L w.ac) e)(o:0<=c->aF (L w.ac) c)(j:g≠e)(k:0<=c->c≠e)(l:∀i h,wl h b w ns (out++jI ns g c e) n wk i bm bo f->Ad Y h b a i->K (.t []) h):cB 160 [.p b 0 0, .a [iv u,iv g,iv c,bv s], .a [iv y,iv e,iv x,bv v]] Y d K:=bsi rfl (aDz C M m q r o j k) l
theorem aDR(C:wl Y b w ns out n wk a bm bo f)(M:jb w ns)(D:tP w)(al:∀k,k<L w.ac->aF (L w.aQ.ay) (gd w.ac k).aq)(hw:L w.ac<=16){r:Nat}{s:Int}(hr:r<L w.ac)(bD:fR (gd w.ac r)=U)(hm:(⟨4,(r:Int),s⟩:aH8)∈ns)(hs:0<=s->aF (L w.ac) s/\s≠(r:Int))(ho:L out+L (iP ns w r s)<999999900):∃r1 W,bsW Y b w ns out (iP ns w r s) n wk a bm bo f r1 W/\cZ aS GG 168 [.p b 0 0, .a<|aH8.c ⟨4,r,s⟩] Y r1 W:=by have i:=M.ln;refine aKu C.le rfl λs2 v3 K2 bL _ b3=>?_;have F2:Fx Y s2 []:=K2.fx [];have C0:=C.fx F2;have aV:aN (V 3) (aH8.c ⟨4,(r:Int),s⟩)=V (.a<|aH8.c ⟨4,r,s⟩):=rfl;simp only[iP,a6G] at ho;simp only[HM,u0,u1,b3,aV,rk,aj];refine lq C0 i hm ?_;simp only[qz 4];refine dT rfl ?_;refine bsh (λvs Y'=>vs=[]/\∃q,wl Y' b w ns (out++kD ns w r s) n wk q bm bo f/\Ad Y Y' b a q) (λg hJ=>?_) ?_;simp only[qz 17,u0,u1];refine⟨λh=>?_,λh=>hJ _ _ ⟨rfl,a,by grind [kD],⟨F2.mono (by simp),λk hk=> .inl hk⟩⟩⟩;have N:=aNR h;obtain⟨E,aT⟩:=hs N;have bG:((s.toNat:Nat):Int)=s:=kA N;have F:s.toNat<L w.ac:=(by have:=E.1;have:=E.2;omega);have l:kD ns w r s=[[-lS ns r s,lE ns s],[-lS ns r s,lB ns s r]]++(aH<|L<|fg w (gd w.ac s.toNat).aq (gd w.ac s.toNat).ep).flatMap (pD ns r s<|fg w (gd w.ac s.toNat).aq (gd w.ac s.toNat).ep):=(by grind [kD]);rw[l,a6G] at ho;simp only[de i,aY];refine gq C0 i (M.ex _ E) ?_;simp only[qz 6,fi,bQ,qz 8];refine boV C0 (by omega) [_,_] (by simp) λa1 W H A1=>?_;simp only[qz 10,de i,aY];refine kg H i (M.bf _ _ E (dJ hr) aT) ?_;simp only[qz 12,fi,bQ,qz 14];refine boV H (by simp;omega) [_,_] (by simp) λa2 Y2 C2 A2=>?_;have ag:=C2.bx;simp only[qz 16,qy 18,aPF ag,u0,u1,ag,rkC,rk,ix,aj];refine⟨E,?_⟩;refine ic C2.le λv Y3 F3 N3 d3=>?_;refine cy (y:=7) (cs:=aP.c<|gd w.ac s.toNat) d3 rfl rfl (by decide) λX F4 d4=>?_;have Z:box X (7,v)=V ⟨62,7,U,U,[aP.c<|gd w.ac s.toNat]⟩:=d4;have S:Fx Y2 X []:=(F3.trans F4).mono (by grind [ig.no]);have C4:=C2.fx S;simp only[qz 20,u0,u1,Z,rk,aj];refine Qp C4 hw (D.fl _ F).1 (al _ F) D.ct (D.c0 _<|al _ F) (D.fl _ F).2 λt=>?_;have hq:=D.fr _ F;generalize hL:fg w (gd w.ac s.toNat).aq (gd w.ac s.toNat).ep=Lw at hq l ho;have bA:L Lw<4000000000:=(by have:L Lw=L ((aH<|L Lw).flatMap<|pD ns r s Lw):=(by clear hL l ho hq;generalize L Lw=m;induction m with|zero=>rfl|succ m ih=>rw[aNG,a6G,<-ih];rfl);omega);simp only[qz 22,gT,u0];refine yV (L Lw) (λj _ Y'=>∃q,wl Y' b w ns (out++[[-lS ns r s,lE ns s],[-lS ns r s,lB ns s r]]++(aH j).flatMap (pD ns r s Lw)) n wk q bm bo f/\Ad Y Y' b a q) (by grind [Ad.fxn,Ad.pre,Ad.trans]) ?_;rintro j _ Y5 hj ⟨a5,R,A5⟩;have O:=fU (f:=pD ns r s Lw) hj;simp only[qz 49,au,aI,u0,u1,tf,rk,bh,de i];refine⟨λh2=>⟨u7 h2,?_⟩,λh2=>?_⟩;have ak:=aL h2;obtain⟨q1,q2⟩:=hq _<|asq ak;refine AQ R i (M.fx _ q1 q2) ?_;simp only[qz 24,fi,bQ,qz 26];refine boV R (by grind) [_,_] (by simp) λa6 Y6 C6 A6=>?_;simp only[qz 28,au,cS,aY];refine yU ak ⟨a6,?_,A5.trans A6⟩;rw[aNG,<-bje];exact C6;grind;rintro vs W ⟨rfl,a1,H,A1⟩;have af:=H.bx;simp only[qz 15,qy 30,aI,aPF af,u0,u1,af,rkC,rk,ix,aj,bh];refine⟨dJ hr,?_⟩;refine ic H.le λv Y3 F3 N3 d3=>?_;refine cy (y:=7) (cs:=aP.c<|gd w.ac r) d3 rfl rfl (by decide) λX F4 d4=>?_;have Z:box X (10,v)=V ⟨62,7,U,U,[aP.c<|gd w.ac r]⟩:=d4;have S:Fx W X []:=(F3.trans F4).mono (by grind [ig.no]);have C4:=H.fx S;have ah:=C4.bx;simp only[qz 32,u1];refine bsp (λg=>∀kd:Int,kd=(if(gd w.ac r).kind=23 then 22 else 4)->g [iv kd]) ?_ λg hj=>?_;intro kd bB;simp only[qz 93,aI,aPF ah,u0,u1,ah,rkC,aj];have bI:∀x:aP,aTG x (gd w.ac r)=(Q (x.kind=kd)&&Q (x.f8=(gd w.ac r).f8)):=(by grind [fR,aTG]);refine yV (L w.ac) (λk _ Y'=>∃q,wl Y' b w ns (out++kD ns w r s++(aH k).flatMap (bpl ns w r s)) n wk q bm bo f/\Ad Y Y' b a q/\box Y' (10,v)=V ⟨62,7,U,U,[aP.c<|gd w.ac r]⟩) (by grind [Ad.fxn]) ?_;rintro z _ Y5 hz ⟨a5,R,A5,e5⟩;simp only[qz 109,au,aI,u0,u1];refine⟨λh=>?_,λh=>?_⟩;have B:=aL h;refine bsK (λg=>∀o u,wl o b w ns (out++kD ns w r s++(aH z).flatMap (bpl ns w r s)++bpl ns w r s z) n wk u bm bo f->Ad Y o b a u->box o (10,v)=V ⟨62,7,U,U,[aP.c<|gd w.ac r]⟩->g [] o) ?_ λg A=>?_;intro o u C8 P e8;simp only[qz 129,aI,au,cS,aY];refine yU B ⟨u,?_,P,e8⟩;grind [aNG];simp only[qz 131,qy 34,au,u0,ix,rk,bh];refine⟨dJ B,?_⟩;have O:=fU (f:=bpl ns w r s)<|show z+1<=L w.ac from B;rw[aNG,a6G] at O;refine ic R.le λv6 Y6 F6 N6 d6=>?_;refine cy (y:=7) (cs:=aP.c<|gd w.ac z) d6 rfl rfl (by decide) λY7 F7 d7=>?_;have aG:box Y7 (13,v6)=V ⟨62,7,U,U,[aP.c<|gd w.ac z]⟩:=d7;have T:Fx Y5 Y7 []:=(F6.trans F7).mono (by grind [ig.no]);have G:=R.fx T;have A7:=A5.fxn T;have e7:=T.kq e5;have bn:((10,v):Id)≠b:=(by grind);simp+contextual only[qz 36,u0,u1,aG,e7,rk,aj,de i];refine⟨λhc=>?_,λhc=>?_⟩;refine A Y7 a5 ?_ A7 e7;grind [bpl];simp only[cP,aNK,aNS] at hc;have bK:(z:Int)≠s:=(by omega);have bH:aTG (gd w.ac z) (gd w.ac r)=U:=(by simp_all);have bF:(r:Int)≠z:=(by intro e;have br:r=z:=(by omega);grind [aTG]);have bC:¬((z:Int)=s\/aTG (gd w.ac z) (gd w.ac r)=I):=(by simp_all);refine⟨λN=>?_,λN=>?_⟩;have aK:=aNR N;have l:bpl ns w r s z=[[-lS ns r s,-lE ns z,lB ns z s,lB ns r z]]:=(by grind [bpl]);rw[l] at O A;simp only[bZ,aO1] at O;refine gq G i (M.ex _<|dJ B) ?_;simp only[qz 38,de i,aY,au];refine kg G i (by grind [jb.bf,dJ]) ?_;simp only[qz 40,au];refine kg G i (by grind [jb.bf,dJ]) ?_;simp only[qz 42,qy 44,qy 46,vR,bQ];refine boV G (by grind) [_,_,_,_] (by simp) λu o C8 P=>?_;exact A o u C8 (A7.trans P) (by grind [Ad.keep,wl.ne]);have aK:=bpF N;have l:bpl ns w r s z=[[-lS ns r s,-lE ns z,lB ns r z]]:=(by grind [bpl]);rw[l] at O A;simp only[bZ,aO1] at O;refine gq G i (M.ex _<|dJ B) ?_;simp only[qz 48,de i,aY,au];refine kg G i (by grind [jb.bf,dJ]) ?_;simp only[qz 50,qy 52,qy 54,xA,bQ];refine boV G (by grind) [_,_,_] (by simp) λu o C8 P=>?_;exact A o u C8 (A7.trans P) (by grind [Ad.keep,wl.ne]);have aO:z=L w.ac:=(by grind);subst aO;refine⟨a5,rfl,?_,A5⟩;grind [iP];simp only[qz 95,u0,u1,Z,rk,aj];refine⟨λh=>hj 22 (by simp_all),λh=>hj 4<|by simp_all⟩
def aEj(C:wl Y b w ns out n wk a bm bo f)(M:jb w ns)(D:tP w)(i:∀k,k<L w.ac->aF (L w.aQ.ay) (gd w.ac k).aq)(q:L w.ac<=16){r:Nat}{s:Int}(o:r<L w.ac)(h:fR (gd w.ac r)=U)(l:(⟨4,(r:Int),s⟩:aH8)∈ns)(hs:0<=s->aF (L w.ac) s/\s≠(r:Int))(m:L out+L (iP ns w r s)<999999900)(j:∀g e,wl e b w ns (out++iP ns w r s) n wk g bm bo f->Ad Y e b a g->K (.t []) e):cB 168 [.p b 0 0, .a<|aH8.c ⟨4,r,s⟩] Y d K:=bsi rfl (aDR C M D i q o h l hs m) j
structure sE(w:gz)(ns:List aH8):Prop where
 ok:∀x∈aR ns 5,aF (L w.ac) x.a/\pN (gd w.ac x.a.toNat)=U/\(0<=x.b->aF (L w.ac) x.b/\x.b≠x.a)
 ln:L (aR ns 5)<=1000
def iO(ns:List aH8)(k:Nat)(c:Int)(l:List aH8)(j:Nat):List (List Int):=if(gd l j).b=c then[[-lE ns k,-dP ns (gd l j),lB ns (gd l j).a k]] else[]
def bru(ns:List aH8)(w:gz)(k:Nat):List (List Int):=
 if(gd w.ac k).kind=17/\(bh0 w k).2=U then(-lE ns k::gO ns (aR ns 5) (bh0 w k).1)::(aH<|L<|aR ns 5).flatMap (iO ns k (bh0 w k).1<|aR ns 5) else[]
theorem bsg{Y:ae}{e:TypeId}{z d by':Nat}{zs:List AV}{a:AV}{bA new:List (List AV)}{t o:Bool}{K:be}(v:gA Y e z a bA)(B:L zs=z)(p:0<z)(i:d<L Y)(A:∀r∈bA,L r=z)(y:∀r∈new,L r=z)(x:(L bA+L new)*(by'+1)<=1099511627776)(j:∀c Y',gA Y' e z c (bA++new)->Fx Y Y' (aA a)->(∀b∈aA c,b∈aA a\/(ig Y b/\b.1=d))->K c Y'):eV (Gy e zs by' Y d a<|.l new t o) K:=by rcases v with⟨o',rfl⟩|⟨b,rfl,u⟩;unfold Gy;simp only[gL];by_cases k:L new=0;rw[lC k];have m:new=[]:=(by simp_all);subst m;exact j _ _ (.inl ⟨o',by simp⟩) (Fx.refl _ _) (by simp[aA]);rw[j5 k,lC ⟨by omega,by simp[aRI,i],by simp_all⟩];rw[lC ⟨by simp_all,by grind [lx]⟩];refine j _ _ (.inr ⟨zt Y d,by simp,?_⟩) ((kH i).mono<|by simp) (by simp[aA];exact⟨qQ Y d,rfl⟩);grind [be7];refine gD (.inr ⟨b,rfl,u⟩) B p i A y x λc Y' g F C D=>j c Y' ?_ F λq E=>?_;rcases g with⟨s,rfl⟩|h;exact .inl ⟨U,by rw[s]⟩;exact .inr h;grind
theorem Ea(C:wl Y b w ns out n wk a bm bo f)(l:L out<1000000000){x:AV}(c:List Int)(h:gA Y 3 1 x<|c.map ci)(j:L c<1000000)(m:∀k∈aA x,k.1≠18)(i:∀g e,wl e b w ns (out++[c]) n wk g bm bo f->Ad Y e b a g->K (.t []) e):cB 36 [.p b 0 0,x] Y d K:=by refine anw C l (ali h) j ?_ i;rcases h with⟨o,rfl⟩|⟨k,rfl,_⟩;simp;grind [aA]
theorem aDv(C:wl Y b w ns out n wk a bm bo f)(M:jb w ns)(Wk:sE w ns)(bj:∀k,k<L w.ac->aF (L w.aQ.ay) (gd w.ac k).aq)(bg:L w.init.gp.ay=L w.aQ.ay)(bi:L w.aQ.ay<=4)(hw:L w.ac<=16)(ho:L out+L ((aH<|L w.ac).flatMap<|bru ns w)<999999900):∃r N,bsW Y b w ns out ((aH<|L w.ac).flatMap<|bru ns w) n wk a bm bo f r N/\cZ aS GG 88 [.p b 0 0] Y r N:=by have q:=M.ln;have bk:=Wk.ln;refine aJ7 C.le ?_;have bx:=C.bx;simp only[bua,aPF bx,u0,u1,bx,rkC,aj];refine yV (L w.ac) (λk _ Y'=>∃E,wl Y' b w ns (out++(aH k).flatMap (bru ns w)) n wk E bm bo f/\Ad Y Y' b a E) (by grind [Ad.refl]) ?_;rintro k _ N hk ⟨a1,C1,A1⟩;simp only[qz 7,au,aI,u0,u1];refine⟨λh=>?_,λh=>?_⟩;have l:=aL h;refine bsK (λg=>∀m O,wl m b w ns (out++(aH k).flatMap (bru ns w)++bru ns w k) n wk O bm bo f->Ad Y m b a O->g [] m) ?_ λg u=>?_;intro m O B H;simp only[qz 27,aI,au,cS,aY];refine yU l ⟨O,?_,H⟩;grind [aNG];simp only[qz 29,qy 2,au,u0,ix,rk,bh];refine⟨dJ l,?_⟩;have l1:=fU (f:=bru ns w)<|show k+1<=L w.ac from l;rw[aNG,a6G] at l1;refine ic C1.le λv Y2 F2 N2 b2=>?_;refine cy (y:=7) (cs:=aP.c<|gd w.ac k) b2 rfl rfl (by decide) λD F3 b3=>?_;have al:box D (3,v)=V ⟨62,7,U,U,[aP.c<|gd w.ac k]⟩:=b3;have P:Fx N D []:=(F2.trans F3).mono (by grind [ig.no]);have A:=C1.fx P;have X:=A1.fxn P;simp only[qz 4,u0,u1,al,rk,aj];refine⟨λh1=>?_,λh1=>?_⟩;refine u D a1 ?_ X;grind [bru];have bc:(gd w.ac k).kind=17:=(by simp_all);refine anB A (by omega) (dJ l) (by simp_all) (by omega) λv' az=>?_;simp only[qz 6,oJ,pG,aY,u0,u1];refine⟨λh2=>?_,λh2=>?_⟩;refine u D a1 ?_ X;grind [bru];have an:(bh0 w k).2=U:=(by grind);obtain rfl:=az an;generalize bn:(bh0 w (k:Int)).1=i at*;have W:bru ns w k=(-lE ns k::gO ns (aR ns 5) i)::(aH<|L<|aR ns 5).flatMap (iO ns k i<|aR ns 5):=(by grind [bru]);rw[W,bZ] at l1;rw[W] at u;refine gq A q (M.ex _<|dJ l) ?_;simp only[qz 8,de q,aY,a5Y,bQ];refine anC (d:=0) A q _ λt=>?_;simp only[qz 12];have bl:L (gO ns (aR ns 5) i)<=1000:=(by grind [gO]);refine bsg (bA:=[-lE ns k].map ci) (.inl ⟨U,rfl⟩) rfl (by decide) (by rw[A.le];decide) fF fF (by grind) λx4 Y4 g4 F4 be=>?_;rw[<-dg] at g4;have R:Fx D Y4 []:=F4.mono (by simp[aA]);have C4:=A.fx R;simp only[qz 14];refine Ea C4 (by grind) _ g4 (by simp;omega) (by grind [aA]) λa5 Y5 C5 A5=>?_;have T:=C5.bx;simp only[qz 16,aPF T,u0,u1,T,rkC,aj,lnI C5.gw,bJ];have a7:Ad Y Y5 b a a5:=(X.fxn R).trans A5;rw[show[-lE ns k]++gO ns (aR ns 5) i= -lE ns k::gO ns (aR ns 5) i from rfl] at C5;refine yV (L<|aR ns 5) (λj _ Y'=>∃E,wl Y' b w ns (out++(aH k).flatMap (bru ns w)++[-lE ns k::gO ns (aR ns 5) i]++(aH j).flatMap (iO ns k i<|aR ns 5)) n wk E bm bo f/\Ad Y Y' b a E) (by grind) ?_;rintro j _ Y6 hj ⟨a6,C6,A6⟩;have l6:=fU (f:=iO ns k i<|aR ns 5) hj;simp only[qz 79,au,aI,u0,u1];refine⟨λh3=>?_,λh3=>?_⟩;have o:=aL h3;refine bsK (λg=>∀x z,wl x b w ns (out++(aH k).flatMap (bru ns w)++[-lE ns k::gO ns (aR ns 5) i]++(aH j).flatMap (iO ns k i<|aR ns 5)++iO ns k i (aR ns 5) j) n wk z bm bo f->Ad Y x b a z->g [] x) ?_ λg s=>?_;intro x z C9 Z;simp only[qz 99,aI,au,cS,aY];refine yU o ⟨z,?_,Z⟩;grind [aNG];simp only[qz 101,qy 18,au];have G:=fU (f:=iO ns k i<|aR ns 5)<|show j+1<=L (aR ns 5) from o;rw[aNG,a6G] at G;obtain⟨o1,o2,o3⟩:=Wk.ok _<|asq o;have aw:gd (aR ns 5) j∈ns:=(jW.1<|asq o).1;rw[qB C6.gw o];refine ic C6.le λv7 Y7 F7 N7 d7=>?_;refine cy (cs:=aH8.c<|gd (aR ns 5) j) d7 rfl rfl (by decide) λm F8 d8=>?_;have F:box m (7,v7)=V ⟨107,3,U,U,[aH8.c<|gd (aR ns 5) j]⟩:=d8;have S:Fx Y6 m []:=(F7.trans F8).mono (by grind [ig.no]);have B:=C6.fx S;have H:=A6.fxn S;have aB:aN (V 3) (aH8.c<|gd (aR ns 5) j)=V (.a<|aH8.c<|gd (aR ns 5) j):=rfl;simp only[qz 20,u0,u1,F,rk,aj];refine⟨λh4=>?_,λh4=>?_⟩;have bd:=aNR h4;have av:iO ns k i (aR ns 5) j=[[-lE ns k,-dP ns (gd (aR ns 5) j),lB ns (gd (aR ns 5) j).a k]]:=(by grind [iO]);rw[av] at G s;simp only[bZ,aO1] at G;have ar:(gd (aR ns 5) j).a≠(k:Int):=(by intro e;simp_all [pN]);refine gq B q (M.ex _<|dJ l) ?_;simp only[qz 22,de q,aY,u1,F,aB];refine lq B q aw ?_;simp only[qz 24,de q,aY,u1,F,rk,aj];refine kg B q (M.bf _ _ o1 (dJ l) ar) ?_;simp only[qz 26,xA,bQ,qz 28];refine boV B (by grind) [_,_,_] (by simp) λz x C9 Z=>?_;simp only[qz 30];refine dT ?_<|s x z C9<|H.trans Z;obtain⟨ba,bb⟩:=b;have:=C.sb;simp only at this;subst this;simp[eL,lb,cq,m8,dC,dK];refine s m a6 ?_ H;grind [iO];refine u Y6 a6 ?_ A6;grind;have ax:k=L w.ac:=(by grind);subst ax;exact⟨a1,rfl,C1,A1⟩
def alf{e:TypeId}{z by' d:Nat}{zs:List AV}{s x:AV}{c:TypeId}{bA:List (List AV)}(h:gA Y c z x bA):Gy e zs by' Y d s x=Gy e zs by' Y d s (.l bA U U):=by have:gL Y x=gL Y (.l bA U U):=(by rcases h with⟨o,rfl⟩|⟨k,rfl,g⟩;rfl;simp[gL,g]);unfold Gy;rw[this]
def alV{x y:aH8}:a6F .eql 2 [(0,0),(1,0),(2,0)] (.a<|aH8.c x) (.a<|aH8.c y)=V (bv<|Q<|x=y):=by obtain⟨a,b,c⟩:=x;obtain⟨e,g,h⟩:=y;by_cases i:a=e<;>by_cases j:b=g<;>by_cases k:c=h<;>simp[a6F,nW,sS,aH8.c,i,j,k]
def j8(w:gz)(x y:aH8):Bool:=Q (y=x)||(Q (y.a=x.a)&&Q ((gd w.ac x.a.toNat).kind=18))
def eZ(x y:aH8):Bool:=Q (y.b=x.b)&&Q (y.a≠x.a)
def jd(ns:List aH8)(x:aH8):List Int:= -lE ns x.a::(if 0<=x.b then[-lE ns x.b,-lB ns x.b x.a] else[])
def kZ(ns:List aH8)(w:gz)(l:List aH8)(x:aH8):List Int:=jd ns x++(l.filter<|j8 w x).map (dP ns)
def brU(ns:List aH8)(w:gz)(l:List aH8)(x:aH8)(j:Nat):List (List Int):=[kZ ns w l x++[-dP ns (gd (l.filter<|eZ x) j),lB ns (gd (l.filter<|eZ x) j).a x.a]]
def qw(ns:List aH8)(w:gz)(x:aH8):List (List Int):=(kZ ns w (aR ns 5) x++((aR ns 5).filter<|eZ x).map (dP ns))::(aH<|L<|(aR ns 5).filter<|eZ x).flatMap (brU ns w (aR ns 5) x)
def bc.t{e:TypeId}{z:Nat}{x:AV}{bA:List (List AV)}(h:bc Y e z x bA):gA Y e z x bA:=by rcases h with⟨rfl,rfl⟩|h;exact .inl ⟨U,rfl⟩;exact .inr h
theorem pH{α:Type}[Inhabited α]{p:α->Bool}{l:List α}{k:Nat}(h:k<L l):(l.take<|k+1).filter p=(l.take k).filter p++if p (gd l k)=U then[gd l k] else[]:=by grind [iJ,bT]
theorem aDx(C:wl Y b w ns out n wk a bm bo f)(M:jb w ns)(Wk:sE w ns)(hw:L w.ac<=16){x:aH8}(hx:x∈aR ns 5)(ho:L out+L (qw ns w x)<999999900):∃r1 Y1,bsW Y b w ns out (qw ns w x) n wk a bm bo f r1 Y1/\cZ aS GG 166 [.p b 0 0, .a<|aH8.c x] Y r1 Y1:=by
 have A:=M.ln
 have dz:=Wk.ln
 obtain⟨x1,x2,x3⟩:=Wk.ok x hx
 refine aJ9 C.le rfl λP v3 K2 dD nf b3=>?_
 have F2:Fx Y P []:=K2.fx []
 have F:=C.fx F2
 simp only[buc,u0,u1,b3,rk,aj]
 refine gq F A (M.ex _ x1) ?_
 simp only[qz 4,de A,aY,a5Y,bQ,qz 6]
 refine bsh (λvs Y'=>∃y0,vs=[y0]/\gA Y' 3 1 y0 ((jd ns x).map ci)/\Fx P Y' []/\∀q∈aA y0,ig P q/\q.1=37) (λe hJ=>?_) ?_
 ·simp only[qz 17,u0,u1,b3,rk,aj]
  refine⟨λh=>?_,λh=>hJ _ _ ⟨_,rfl, .inl ⟨U,by grind [jd]⟩,Fx.refl _ _,by simp[aA]⟩⟩
  have h0:=aNR h
  obtain⟨bn,co⟩:=x3 h0
  refine gq F A (M.ex _ bn) ?_
  simp only[qz 8,de A,aY,u1,b3,rk,aj]
  refine kg F A (M.bf _ _ bn x1 co) ?_
  simp only[qz 10,qy 12,de A,aY,fi,bQ]
  refine bsg (bA:=[-lE ns x.a].map ci) (.inl ⟨U,rfl⟩) rfl (by decide) (by rw[F.le];decide) fF fF (by simp) λy4 Y4 g4 F4 ds=>?_
  rw[<-dg] at g4
  simp only[qz 14]
  refine dT rfl (hJ _ _ ⟨y4,rfl,?_,F4.mono (by simp[aA]),λq m=>?_⟩)
  ·grind [jd]
  grind [aA]
 ·rintro vs Y1 ⟨y0,rfl,g0,F1,P0⟩
  have C1:=F.fx F1
  have ba:=C1.bx
  have dl:=F1.kq b3
  have ct:=C1.gw
  have aT:∀y∈aR ns 5,y∈ns:=λy hy=>(jW.1 hy).1
  simp only[qz 15,aI,au,aPF ba,u0,u1,ba,rkC,aj,lnI ct,bJ]
  refine jD (α:=AV×AV) (λa i=>[a.1,a.2,iv i]) 2 (L<|aR ns 5) (λk a Y'=>gA Y' 3 1 a.1 ((jd ns x++(((aR ns 5).take k).filter<|j8 w x).map (dP ns)).map ci)/\bc Y' 107 3 a.2 ((((aR ns 5).take k).filter<|eZ x).map aH8.c)/\Fx P Y' []/\(∀q∈aA a.1,ig P q/\(q.1=37\/q.1=75))/\∀q∈aA a.2,ig P q/\q.1=91) (s0:=(y0, .l [] U U)) (by grind [bc.nil,aA]) ?_
  rintro k ⟨y,o⟩ Y2 hk ⟨gy,go,aw,Py,Po⟩
  simp only at gy go Py Po
  have C2:=F.fx aw
  simp only[qz 43,qy 30,au,aI,u0,u1,qz 65,qy 16]
  refine⟨λh=>?_,λh=>?_⟩
  ·have H:=aL h
   rw[qB C2.gw H]
   refine ic C2.le λv7 Y3 F3 N3 d3=>?_
   refine cy (cs:=aH8.c<|gd (aR ns 5) k) d3 rfl rfl (by decide) λY4 F4 d4=>?_
   have be:box Y4 (7,v7)=V ⟨107,3,U,U,[aH8.c<|gd (aR ns 5) k]⟩:=d4
   have ax:Fx Y2 Y4 []:=(F3.trans F4).mono (by grind [ig.no])
   have ay:=aw.trans ax
   have C4:=F.fx ay
   have bb:=C4.bx
   have a7:=ay.kq b3
   have cz:aN (V 3) (aH8.c x)=V (.a<|aH8.c x):=rfl
   have br:aN (V 3) (aH8.c<|gd (aR ns 5) k)=V (.a<|aH8.c<|gd (aR ns 5) k):=rfl
   have bk:=gy.fx ax (by simp)
   have cg:=go.fx ax (by simp)
   have dx:L (jd ns x++(((aR ns 5).take k).filter<|j8 w x).map (dP ns))<=3+k:=by
    grind [jd]
   have dw:L (((aR ns 5).take k).filter<|eZ x)<=k:=by
    grind
   simp only[qz 18,di]
   refine bsh (λvs Y'=>∃y',vs=[y']/\gA Y' 3 1 y' ((jd ns x++(((aR ns 5).take<|k+1).filter<|j8 w x).map (dP ns)).map ci)/\Fx Y4 Y' (aA y)/\∀q∈aA y',ig P q/\(q.1=37\/q.1=75)) (λe hJ=>?_) ?_
   ·simp+contextual only[qz 77,u0,u1,be,a7,cz,br,rk,ix,alV,aPF bb,bb,rkC,aj]
    refine⟨λ_ _=>x1,λhb=>?_,λhb=>?_⟩
    ·refine lq C4 A (aT _<|asq H) ?_
     simp only[qz 20,qy 22,qy 24,a5Y,bQ,au]
     refine bsg bk rfl (by decide) (by rw[C4.le];decide) fF fF (by grind) λy5 Y5 g5 F5 dt=>hJ _ _ ⟨y5,rfl,?_,F5,λq m=>?_⟩
     ·grind [pH,j8]
     grind [ig.old]
    ·refine hJ _ _ ⟨y,rfl,?_,Fx.refl _ _,Py⟩
     rw[pH H,j5 (by grind [j8]),cL]
     exact bk
   ·rintro vs Y5 ⟨y',rfl,bl,F5,aD⟩
    have aV:∀{q:Id},q.1≠37->q.1≠75->q∉aA y:=(by grind)
    have d5:=F5.keep _ _ (aV (by simp)<|by simp) be
    have ca:=F5.keep _ _ (aV (by simp)<|by simp) a7
    have ch:=cg.fx F5 (λq m=>aV (by rw[(Po q m).2];decide)<|by rw[(Po q m).2];decide)
    have az:Fx P Y5 []:=(ay.trans F5).mono (by grind [ig.no])
    simp+contextual only[qz 75,qy 26,qy 28,aI,u0,u1,d5,ca,br,rk,aj,Db]
    have dr:(Q ((gd (aR ns 5) k).b=x.b)&&Q ((gd (aR ns 5) k).a≠x.a))=eZ x (gd (aR ns 5) k):=rfl
    refine⟨λhb=>?_,λhb=>?_⟩
    ·refine gD ch rfl (by decide) (by rw[az.len,F.le];decide) uT uT (by grind) λo6 Y6 g6 F6 du dy=>?_
     simp only[qz 63,aI,au,ck,nr,cS,aY]
     refine dR (p:=2) (mk:=λ(a:AV×AV) i=>[a.1,a.2,iv i]) (s:=(y,o)) (s':=(y',o6)) (λ_ _=>rfl) H (by omega) ⟨bl.fx F6 λq m N=>?_,?_,(az.trans F6).mono (by grind [ig.no]),aD,λq m=>?_⟩
     ·have h1:=(Po q N).2
      rcases(aD q m).2 with h2|h2<;>(omega)
     ·grind [pH]
     grind [ig.old]
    ·simp only[qz 63,aI,au,ck,nr,cS,aY]
     refine dR (p:=2) (mk:=λ(a:AV×AV) i=>[a.1,a.2,iv i]) (s:=(y,o)) (s':=(y',o)) (λ_ _=>rfl) H (by omega) ⟨bl,?_,az,aD,Po⟩
     grind [pH]
  ·have cv:k=L (aR ns 5):=(by grind)
   subst cv
   rw[gV] at gy go
   rw[show jd ns x++((aR ns 5).filter<|j8 w x).map (dP ns)=kZ ns w (aR ns 5) x from rfl] at gy
   have bI:∀v∈(aR ns 5).filter (eZ x),v∈aR ns 5/\eZ x v=U:=(by simp)
   have dn:L (kZ ns w (aR ns 5) x)<=1003:=by
    grind [jd,kZ]
   have dp:L ((aR ns 5).filter<|eZ x)<=1000:=by
    grind
   have cr:qw ns w x=(kZ ns w (aR ns 5) x++((aR ns 5).filter<|eZ x).map (dP ns))::(aH<|L<|(aR ns 5).filter<|eZ x).flatMap (brU ns w (aR ns 5) x):=rfl
   have cp:∀j,brU ns w (aR ns 5) x j=[kZ ns w (aR ns 5) x++[-dP ns (gd ((aR ns 5).filter<|eZ x) j),lB ns (gd ((aR ns 5).filter<|eZ x) j).a x.a]]:=λ_=>rfl
   rw[cr,bZ] at ho
   generalize hL:kZ ns w (aR ns 5) x=Lw at*
   generalize hO:(aR ns 5).filter (eZ x)=O at*
   simp only[nS,bQ]
   rw[alf gy]
   refine bsg (bA:=[]) (.inl ⟨U,rfl⟩) rfl (by decide) (by rw[C2.le];decide) (by simp) fF (by simp;omega) λz7 Y7 g7 F7 dv=>?_
   rw[dW] at g7
   have a6:Fx Y2 Y7 []:=F7.mono (by simp[aA])
   simp only[qz 32,ck,u0,lnI<|go.fx a6<|by simp,bJ]
   refine jD (α:=AV) (λa i=>[a,iv i]) 1 (L O) (λj z Y'=>gA Y' 3 1 z ((Lw++(O.take j).map (dP ns)).map ci)/\Fx Y2 Y' []/\∀q∈aA z,ig Y2 q/\(q.1=95\/q.1=107)) (s0:=z7) ⟨by simpa using g7,a6,by grind [aA]⟩ ?_
   rintro j z Y8 hj ⟨g8,F8,P8⟩
   have C8:=C2.fx F8
   have cj:=go.fx F8 (by simp)
   simp only[qz 109,qy 34,au,aI,u0,u1]
   refine⟨λh2=>?_,λh2=>?_⟩
   ·have bq:=aL h2
    rw[qB cj bq]
    refine ic C8.le λcA Y9 F9 N9 d9=>?_
    refine cy (cs:=aH8.c<|gd O j) d9 rfl rfl (by decide) λad bS cc=>?_
    have bB:box ad (10,cA)=V ⟨107,3,U,U,[aH8.c<|gd O j]⟩:=cc
    have aB:Fx Y8 ad []:=(F9.trans bS).mono (by grind [ig.no])
    have R:=F8.trans aB
    have aX:aN (V 3) (aH8.c<|gd O j)=V (.a<|aH8.c<|gd O j):=rfl
    simp only[qz 36,u0,u1,bB,aX]
    refine lq (C2.fx R) A (by grind [asq]) ?_
    simp only[qz 38,qy 40,a5Y,bQ,au]
    refine bsg (g8.fx aB<|by simp) rfl (by decide) (by rw[R.len,C2.le];decide) fF fF (by simp;omega) λcD b0 dm av bG=>?_
    simp only[qz 42,ck,cS,aY]
    refine dR (p:=1) (mk:=λa i=>[a,iv i]) (s:=z) (s':=cD) (λ_ _=>rfl) bq (by omega) ⟨?_,(R.trans av).mono (by grind [ig.no]),λq m=>?_⟩
    ·grind [iJ,bT]
    ·rcases bG q m with h|h
     ·exact P8 q h
     grind [ig.old]
   ·have aQ:j=L O:=(by grind)
    subst aQ
    rw[gV] at g8
    have cl:=gy.fx F8 (by simp)
    refine Ea C8 (by omega) _ g8 (by simp;omega) (by grind) λa9 Y9 C9 A9=>?_
    have bK:∀q∈aA y,q.1≠18:=(by grind)
    have bp:∀{r:ae},gA r 3 1 y (Lw.map ci)->∀q∈aA y,∃bx,box r q=V bx/\bx.elem≠38:=by
     intro r g q m
     rcases g with⟨o',rfl⟩|⟨k',rfl,hb⟩
     ·simp[aA] at m
     grind [aA]
    have E:∀{r S:ae} {T ab:AV} {oo:List (List Int)},wl r b w ns oo n wk T bm bo f->Ad r S b T ab->gA r 3 1 y (Lw.map ci)->gA S 3 1 y (Lw.map ci):=by
     intro r S T ab oo Ca Aa g
     refine g.fx Aa.fx λq m N=>?_
     rcases eW.1 N with h|h
     ·grind [wl.sb]
     ·obtain⟨bx,h1,h2⟩:=bp g q m
      grind [wl.ne]
    have D:∀{r S:ae} {T ab:AV} {oo:List (List Int)},wl r b w ns oo n wk T bm bo f->Ad r S b T ab->bc r 107 3 o (O.map aH8.c)->bc S 107 3 o (O.map aH8.c):=by
     intro r S T ab oo Ca Aa g
     refine g.fx Aa.fx λq m N=>?_
     rcases eW.1 N with h|h
     ·grind [wl.sb]
     ·exact Ca.ne (g.ids q m) (.inr<|by simp) h
    have aP:((3,v3):Id)≠b:=by grind
    have a8:=F8.kq<|aw.kq b3
    have cb:=A9.keep a8 aP<|C8.ne a8<|.inl rfl
    have bL:Ad Y Y9 b a a9:=(by grind [Ad.pre])
    have bj:=D C8 A9 (go.fx F8<|by simp)
    have cm:=E C8 A9 cl
    simp only[qz 44,ck,u0,lnI bj,bJ]
    refine yV (L O) (λj _ Y'=>∃a',wl Y' b w ns (out++[Lw++O.map (dP ns)]++(aH j).flatMap (brU ns w (aR ns 5) x)) n wk a' bm bo f/\Ad Y Y' b a a'/\gA Y' 3 1 y (Lw.map ci)/\bc Y' 107 3 o (O.map aH8.c)/\box Y' (3,v3)=V ⟨107,3,U,U,[aH8.c x]⟩) ⟨a9,by simpa using C9,bL,cm,bj,cb⟩ ?_
    rintro j _ ad hj ⟨b7,a5,a4,aK,aJ,aF⟩
    have dB:=fU (f:=brU ns w (aR ns 5) x) hj
    simp only[qz 151,qy 46,au,aI,u0,u1]
    refine⟨λh3=>?_,λh3=>?_⟩
    ·have af:=aL h3
     obtain⟨m1,m2⟩:=bI _<|asq af
     obtain⟨o1,o2,o3⟩:=Wk.ok _ m1
     have cw:(gd O j).a≠x.a:=by
      grind [eZ]
     have aU:=fU (f:=brU ns w (aR ns 5) x)<|show j+1<=L O from af
     rw[aNG,a6G,cp] at aU
     simp only[bZ,aO1] at aU
     rw[qB aJ af]
     refine ic a5.le λcB b0 av db cd=>?_
     refine cy (cs:=aH8.c<|gd O j) cd rfl rfl (by decide) λG bU ce=>?_
     have bC:box G (12,cB)=V ⟨107,3,U,U,[aH8.c<|gd O j]⟩:=ce
     have t:Fx ad G []:=(av.trans bU).mono (by grind [ig.no])
     have ap:=a5.fx t
     have bF:=aK.fx t (by simp)
     have aX:aN (V 3) (aH8.c<|gd O j)=V (.a<|aH8.c<|gd O j):=rfl
     simp only[qz 48,qy 50,nS,bQ,au]
     rw[alf bF]
     refine bsg (bA:=[]) (.inl ⟨U,rfl⟩) rfl (by decide) (by rw[ap.le];decide) (by simp) fF (by simp;omega) λcF b1 bg bV c0=>?_
     rw[dW] at bg
     have B:Fx G b1 []:=bV.mono (by simp[aA])
     have aq:=ap.fx B
     have bd:=B.kq bC
     have bz:=B.kq<|t.kq aF
     simp only[qz 52,u0,u1,bd,aX]
     refine lq aq A (aT _ m1) ?_
     simp only[qz 54,de A,aY,u1,bd,bz,rk,aj]
     refine kg aq A (M.bf _ _ o1 x1 cw) ?_
     simp only[qz 56,qy 58,fi,bQ]
     refine bsg bg rfl (by decide) (by rw[aq.le];decide) fF fF (by simp;omega) λdE b2 bi bW bH=>?_
     rw[<-dg] at bi
     have dd:∀q∈aA cF,ig G q/\q.1=120:=(by grind [aA])
     have Z:Fx G b2 []:=(B.trans bW).mono (by grind [ig.no])
     have X:=ap.fx Z
     have u:=t.trans Z
     simp only[qz 60]
     refine Ea X (by grind [a6G,bZ,aO1]) _ bi (by simp;omega) (λq m=>by
      rcases bH q m with h|h
      ·grind
      omega) λb8 dh da W=>?_
     simp only[qz 62]
     refine dT ?_ ?_
     ·have:=C.sb
      clear aP bK E D bp
      obtain⟨dj,dk⟩:=b
      simp only at this
      subst this
      simp[eL,lb,cq,m8,dC,dK]
     ·have aG:=u.kq aF
      simp only[au,cS,aY]
      refine dR (p:=0) (mk:=λ_ i=>[iv i]) (s:=()) (s':=()) (λ_ _=>rfl) af (by omega) ⟨b8,?_,(a4.fxn u).trans W,E X W<|aK.fx u<|by simp,D X W<|aJ.fx u<|by simp,W.keep aG aP<|X.ne aG<|.inl rfl⟩
      grind [aNG]
    ·have aQ:j=L O:=(by grind)
     subst aQ
     simp only[aNN,aoz]
     refine⟨b7,rfl,?_,a4⟩
     grind
end
def apw:dO:=apv
def wS:eJ apw:=tB
def amn:=@aBo
def asW:=lA 44 [(2,([19],[0,17,18])),(5,([],[0,17,18,19])),(12,([67],[0,65,66])),(18,([80],[0,5,65,66,67,78,79])),(21,([],[0,5,65,66,67,78,79,80])),(26,([107],[0,105,106])),(32,([120],[0,9,105,106,107,118,119])),(35,([],[0,9,105,106,107,118,119,120])),(39,([160],[0,158,159]))]
def Hy a s0 R:=(.mk _:NS apw asW Tryz.f87 [a] [] s0 R).p
theorem aKn{a:AV}{s0:ae}{R:be}(hs:L s0=4096)(h:Hy a s0 R):EB 87 [a] s0 R:=zB asW wS Tryz.func87 h
def asL:=lA 18 [(1,([10],[0,1,8,9])),(7,([20],[0,1,5,8,9,10,18,19])),(10,([],[0,1,5,8,9,10,18,19,20]))]
def Hh a a1 s0 R:=(.mk _:NS apw asL Tryz.f84 [a,a1] [] s0 R).p
def aKc{a a1:AV}{s0:ae}{R:be}(hs:L s0=4096)(h:Hh a a1 s0 R):EB 84 [a,a1] s0 R:=zB asL wS Tryz.func84 h
def as7:=lA 27 [(1,([16],[0,14,15])),(4,([],[0,14,15,16])),(13,([4,5,44],[0,2,14,15,16,42,43])),(16,([4,5],[0,2,14,15,16,42,43,44])),(22,([73],[0,14,15,16,71,72]))]
def HS a s0 R:=(.mk _:NS apw as7 Tryz.f89 [a] [] s0 R).p
def aKy{a:AV}{s0:ae}{R:be}(hs:L s0=4096)(h:HS a s0 R):EB 89 [a] s0 R:=zB as7 wS Tryz.func89 h
def asP:=lA 11 [(4,([27],[2,3,25,26])),(7,([],[2,3,25,26,27]))]
def Hm a s0 R:=(.mk _:NS apw asP Tryz.f41 [a] [] s0 R).p
def aKg{a:AV}{s0:ae}{R:be}(hs:L s0=4096)(h:Hm a s0 R):EB 41 [a] s0 R:=zB asP wS Tryz.func41 h
section
variable{Y:ae}{b:Id}{w:gz}{ns:List aH8}{out:List (List Int)}{n wk a:AV}{bm bo:Id}{f:Nat->AV}{d:Nat}{K:be}
theorem slW{x:AV}{l:List aH8}{k:Nat}(m:bc Y 107 3 x<|l.map aH8.c)(z:k<L l):∃s,fo 3 Y x (V<|iv ((k+1:Nat):Int)) J J=V s/\∀Y',bc Y' 107 3 x (l.map aH8.c)->fS Y' s=V (iv<|L<|l.drop<|k+1)/\∀j,j<L (l.drop<|k+1)->∀K:j4,(rV (cz 3 Y' s<|iv j) λt=>rV (vp (V 3) Y' t) K)=K (.a<|aH8.c<|gd (l.drop<|k+1) j):=by rcases m with⟨r,_⟩|⟨q,rfl,v⟩;simp_all;have p:lM (V<|iv ((k+1:Nat):Int))=V (V<|k+1):=(by show(if 0<=((k+1:Nat):Int) then V (V ((k+1:Nat):Int).toNat) else J)=_;grind);by_cases h:k+1=L l;simp_all [fo,lM,qY,fS];refine⟨.g 2 q (k+1)<|L l-(k+1),?_,λY' i=>?_⟩;grind [fo,lM,qY];have e:box Y' q=V ⟨107,3,U,I,l.map aH8.c⟩:=(by have:=i.ids q (by simp[aA]);exact this);refine⟨?_,λj o K=>?_⟩;simp[fS,e,oz];rw[oz] at o;have u:k+1+j<L l:=(by omega);have y:gd (l.drop<|k+1) j=l[k+1+j]:=(by grind [bT]);simp_all [cz,rV,vp,iE,aN,aH8.c]
theorem aDJ(C:wl Y b w ns out n wk a bm bo f)(M:jb w ns)(Wk:sE w ns)(hw:L w.ac<=16)(ho:L out<500000000):∃r Y1,bsW Y b w ns out (((aH<|L<|aR ns 5).flatMap λk=>iW ns<|gd (aR ns 5) k)++((aH<|L<|aR ns 5).flatMap (lP ns<|aR ns 5)++((aH<|L<|aR ns 5).flatMap (lQ ns w<|aR ns 5)++((aH<|L<|aR ns 5).flatMap λk=>qw ns w<|gd (aR ns 5) k)))) n wk a bm bo f r Y1/\cZ aS GG 87 [.p b 0 0] Y r Y1:=by have t:=M.ln;have b0:=Wk.ln;refine aKn C.le ?_;have bx:=C.bx;have az:∀x∈aR ns 5,x∈ns:=λx hx=>(jW.1 hx).1;have bq:=Wk.ok;have z:∀{x:aH8},aN (V 3) (aH8.c x)=V (.a<|aH8.c x):=rfl;have B1:∀k,L ((aH k).flatMap λk=>iW ns<|gd (aR ns 5) k)<=k*3:=λk=>(by have:=jo (f:=λk=>iW ns<|gd (aR ns 5) k) (m:=3) (l:=aH k) (by grind [iW]);simp_all);simp only[Hy,aPF bx,u0,u1,bx,rkC,aj,lnI C.gw,bJ];refine yV (L<|aR ns 5) (λk _ Y'=>∃q,wl Y' b w ns (out++(aH k).flatMap λk=>iW ns<|gd (aR ns 5) k) n wk q bm bo f/\Ad Y Y' b a q) (by grind [Ad.refl]) ?_;rintro k _ Y1 hk ⟨a1,C1,A1⟩;have l1:=B1 k;simp only[qz 13,au,aI,u0,u1];refine⟨λh=>?_,λh=>?_⟩;have o:=aL h;refine bsK (λg=>∀Y8 Z,wl Y8 b w ns (out++(aH k).flatMap (λk=>iW ns<|gd (aR ns 5) k)++iW ns (gd (aR ns 5) k)) n wk Z bm bo f->Ad Y Y8 b a Z->g [] Y8) ?_ λg af=>?_;intro Y8 Z C8 A8;simp only[qz 33,aI,au,cS,aY];refine dR (p:=0) (mk:=λ_ i=>[iv i]) (s:=()) (s':=()) (λ_ _=>rfl) o (by omega) ⟨Z,?_,A8⟩;grind [aNG];simp only[qz 35,qy 2,au];obtain⟨o1,o2,o3⟩:=bq _<|asq o;rw[qB C1.gw o];refine ic C1.le λv2 Y2 F2 N2 d2=>?_;refine cy (cs:=aH8.c<|gd (aR ns 5) k) d2 rfl rfl (by decide) λY3 F3 d3=>?_;have am:box Y3 (3,v2)=V ⟨107,3,U,U,[aH8.c<|gd (aR ns 5) k]⟩:=d3;have aO:Fx Y1 Y3 []:=(F2.trans F3).mono (by grind [ig.no]);have X:=C1.fx aO;have A3:=A1.fxn aO;have ag:((3,v2):Id)≠b:=(by grind [wl.sb]);have N:=az _<|asq o;generalize gd (aR ns 5) k=x at*;simp only[qz 4,u0,u1,am,z];refine lq X t N ?_;simp only[qz 6,de t,aY,u1,am,rk,aj];refine gq X t (M.ex _ o1) ?_;simp only[qz 8,fi,bQ,qz 10];refine boV X (by grind) [_,_] (by simp) λa4 O A A4=>?_;have P:=A4.keep am ag<|X.ne am<|.inl rfl;have kb:∀{p:Prop},(∀E R,b=(E,R)->E=18->p)->p:=λh=>h b.1 b.2 rfl C.sb;simp only[qz 12];refine dT ?_ ?_;have:=C.sb;clear ag af;obtain⟨E,R⟩:=b;simp only at this;subst this;simp[eL,lb,cq,m8,dC,dK];simp only[u0,u1,P,rk,z,aj];refine⟨λh0=>?_,λh0=>?_⟩;have bn:=aNR h0;obtain⟨p1,p2⟩:=o3 bn;refine lq A t N ?_;simp only[qz 14,de t,aY,u1,P,rk,aj];refine gq A t (M.ex _ p1) ?_;simp only[qz 16,fi,bQ,qz 18];refine boV A (by grind) [_,_] (by simp) λa5 T u S=>?_;have d5:=S.keep P ag<|A.ne P<|.inl rfl;simp only[qz 20];refine dT ?_ ?_;have:=C.sb;clear ag af kb;obtain⟨E,R⟩:=b;simp only at this;subst this;simp[eL,lb,cq,m8,dC,dK];simp only[u0,u1,d5,z];refine lq u t N ?_;simp only[qz 22,de t,aY,u1,d5,rk,aj];refine kg u t (M.bf _ _ p1 o1 p2) ?_;simp only[qz 24,fi,bQ,qz 26];refine boV u (by grind) [_,_] (by simp) λa6 Y6 C6 A6=>?_;simp only[qz 28];refine dT ?_ (af Y6 a6 ?_<|by grind [Ad.trans]);have:=C.sb;clear ag af kb;obtain⟨E,R⟩:=b;simp only at this;subst this;simp[eL,lb,cq,m8,dC,dK];grind [iW];refine af O a4 ?_<|A3.trans A4;grind [iW];have G:k=L (aR ns 5):=(by grind);subst G;have aQ:=C1.bx;simp only[aPF aQ,u0,u1,aQ,rkC,aj,lnI C1.gw,bJ];generalize bW:out++(aH<|L<|aR ns 5).flatMap (λk=>iW ns<|gd (aR ns 5) k)=O1 at*;have bK:L O1<500010000:=(by grind);have B2:∀k,L ((aH k).flatMap<|lP ns<|aR ns 5)<=k*1000:=λk=>(by have:=jo (f:=lP ns<|aR ns 5) (m:=1000) (l:=aH k) λe _=>(by have h1:=jo (f:=λj=>ju ns (gd (aR ns 5) e)<|gd ((aR ns 5).drop<|e+1) j) (m:=1) (l:=aH<|L<|(aR ns 5).drop<|e+1) λj _=>(by unfold ju;split<;>simp);refine gl h1 ?_;rw[bnJ,oz];omega);simp_all);refine yV (L<|aR ns 5) (λk _ Y'=>∃q,wl Y' b w ns (O1++(aH k).flatMap (lP ns<|aR ns 5)) n wk q bm bo f/\Ad Y Y' b a q) (by grind) ?_;rintro k _ Y2 hk ⟨a2,B,A2⟩;have l2:=B2 k;simp only[qz 73,qy 30,au,aI,u0,u1];refine⟨λh=>?_,λh=>?_⟩;have o:=aL h;have N:=az _<|asq o;rw[qB B.gw o];refine ic B.le λW Y3 F3 N3 d3=>?_;refine cy (cs:=aH8.c<|gd (aR ns 5) k) d3 rfl rfl (by decide) λO F4 P=>?_;have aU:box O (5,W)=V ⟨107,3,U,U,[aH8.c<|gd (aR ns 5) k]⟩:=P;have al:Fx Y2 O []:=(F3.trans F4).mono (by grind [ig.no]);have A:=B.fx al;have ab:=A.bx;obtain⟨s,hs,H⟩:=slW A.gw o;have ah:((5,W):Id)≠b:=(by grind);have aB:dq.wrap ((k:Int)+1)=((k+1:Nat):Int):=fX (by omega);simp only[qz 32,aPF ab,u0,u1,ab,rkC,aj,aB,hs,(H O A.gw).1];refine yV (L<|(aR ns 5).drop<|k+1) (λj _ Y'=>∃q,wl Y' b w ns (O1++(aH k).flatMap (lP ns<|aR ns 5)++(aH j).flatMap λj=>ju ns (gd (aR ns 5) k)<|gd ((aR ns 5).drop<|k+1) j) n wk q bm bo f/\Ad Y Y' b a q/\box Y' (5,W)=V ⟨107,3,U,U,[aH8.c<|gd (aR ns 5) k]⟩) (by grind [Ad.fxn]) ?_;rintro j _ T hj ⟨a5,u,S,d5⟩;have l5:L ((aH j).flatMap λj=>ju ns (gd (aR ns 5) k)<|gd ((aR ns 5).drop<|k+1) j)<=j:=(by have:=jo (f:=λj=>ju ns (gd (aR ns 5) k)<|gd ((aR ns 5).drop<|k+1) j) (m:=1) (l:=aH j) λj _=>(by unfold ju;split<;>simp);simp_all);have bp:L ((aR ns 5).drop<|k+1)<=1000:=(by grind);simp only[qz 109,au,aI,u0,u1,qz 131,qy 34];refine⟨λh2=>?_,λh2=>?_⟩;have F:=aL h2;have aC:gd ((aR ns 5).drop<|k+1) j∈ns:=(by grind [asq]);rw[(H T u.gw).2 j F];refine ic u.le λv7 Y6 F6 N6 d6=>?_;refine cy (cs:=aH8.c<|gd ((aR ns 5).drop<|k+1) j) d6 rfl rfl (by decide) λY7 F7 d7=>?_;have ae:box Y7 (7,v7)=V ⟨107,3,U,U,[aH8.c<|gd ((aR ns 5).drop<|k+1) j]⟩:=d7;have v:Fx T Y7 []:=(F6.trans F7).mono (by grind [ig.no]);have D:=u.fx v;have y:=v.kq d5;simp only[qz 36,u0,u1,ae,y,z,rk,aj];refine⟨λh3=>?_,λh3=>?_⟩;refine lq D t N ?_;simp only[qz 38,de t,aY,u1,ae,z];refine lq D t aC ?_;simp only[qz 40,de t,aY,fi,bQ,qz 42];refine boV D (by grind) [_,_] (by simp) λZ Y8 C8 A8=>?_;simp only[qz 44];refine dT ?_ ?_;have:=C.sb;clear ah;obtain⟨E,R⟩:=b;simp only at this;subst this;simp[eL,lb,cq,m8,dC,dK];simp only[qz 129,aI,au,cS,aY];refine dR (p:=0) (mk:=λ_ i=>[iv i]) (s:=()) (s':=()) (λ_ _=>rfl) F (by omega) ⟨Z,?_,(S.fxn v).trans A8,A8.keep y ah<|D.ne y<|.inl rfl⟩;grind [aNG,ju];simp only[qz 129,aI,au,cS,aY];refine dR (p:=0) (mk:=λ_ i=>[iv i]) (s:=()) (s':=()) (λ_ _=>rfl) F (by omega) ⟨a5,?_,S.fxn v,y⟩;grind [aNG,ju];have aA:j=L ((aR ns 5).drop<|k+1):=(by grind);subst aA;refine dR (p:=0) (mk:=λ_ i=>[iv i]) (s:=()) (s':=()) (λ_ _=>rfl) o (by omega) ⟨a5,?_,S⟩;rw[aNG,<-bje];exact u;have G:k=L (aR ns 5):=(by grind);subst G;have aa:=B.bx;simp only[aPF aa,u0,u1,aa,rkC,aj,lnI B.gw,bJ];generalize bX:O1++(aH<|L<|aR ns 5).flatMap (lP ns<|aR ns 5)=O2 at*;have bL:L O2<501010000:=(by grind);have B3:∀k,L ((aH k).flatMap<|lQ ns w<|aR ns 5)<=k*1000:=λk=>(by have:=jo (f:=lQ ns w<|aR ns 5) (m:=1000) (l:=aH k) λe _=>(by have h1:=jo (f:=λj=>jk ns w (gd (aR ns 5) e)<|gd ((aR ns 5).drop<|e+1) j) (m:=1) (l:=aH<|L<|(aR ns 5).drop<|e+1) λj _=>(by unfold jk;split<;>simp);refine gl h1 ?_;rw[bnJ,oz];omega);simp_all);refine yV (L<|aR ns 5) (λk _ Y'=>∃q,wl Y' b w ns (O2++(aH k).flatMap (lQ ns w<|aR ns 5)) n wk q bm bo f/\Ad Y Y' b a q) (by grind) ?_;rintro k _ Y2 hk ⟨a2,B,A2⟩;have l2:=B3 k;simp only[qz 157,qy 46,au,aI,u0,u1];refine⟨λh=>?_,λh=>?_⟩;have o:=aL h;have N:=az _<|asq o;rw[qB B.gw o];refine ic B.le λW Y3 F3 N3 d3=>?_;refine cy (cs:=aH8.c<|gd (aR ns 5) k) d3 rfl rfl (by decide) λO F4 P=>?_;have aU:box O (9,W)=V ⟨107,3,U,U,[aH8.c<|gd (aR ns 5) k]⟩:=P;have al:Fx Y2 O []:=(F3.trans F4).mono (by grind [ig.no]);have A:=B.fx al;have ab:=A.bx;obtain⟨s,hs,H⟩:=slW A.gw o;have ah:((9,W):Id)≠b:=(by grind);have aB:dq.wrap ((k:Int)+1)=((k+1:Nat):Int):=fX (by omega);simp only[qz 48,aPF ab,u0,u1,ab,rkC,aj,aB,hs,(H O A.gw).1];refine yV (L<|(aR ns 5).drop<|k+1) (λj _ Y'=>∃q,wl Y' b w ns (O2++(aH k).flatMap (lQ ns w<|aR ns 5)++(aH j).flatMap λj=>jk ns w (gd (aR ns 5) k)<|gd ((aR ns 5).drop<|k+1) j) n wk q bm bo f/\Ad Y Y' b a q/\box Y' (9,W)=V ⟨107,3,U,U,[aH8.c<|gd (aR ns 5) k]⟩) ⟨a2,by grind,A2.fxn al,aU⟩ ?_;rintro j _ T hj ⟨a5,u,S,d5⟩;have l5:L ((aH j).flatMap λj=>jk ns w (gd (aR ns 5) k)<|gd ((aR ns 5).drop<|k+1) j)<=j:=(by have:=jo (f:=λj=>jk ns w (gd (aR ns 5) k)<|gd ((aR ns 5).drop<|k+1) j) (m:=1) (l:=aH j) λj _=>(by unfold jk;split<;>simp);simp_all);have bp:L ((aR ns 5).drop<|k+1)<=1000:=(by grind);simp only[qz 193,au,aI,u0,u1,qz 215,qy 50];refine⟨λh2=>?_,λh2=>?_⟩;have F:=aL h2;have aC:gd ((aR ns 5).drop<|k+1) j∈ns:=(by grind [asq]);rw[(H T u.gw).2 j F];refine ic u.le λv7 Y6 F6 N6 d6=>?_;refine cy (cs:=aH8.c<|gd ((aR ns 5).drop<|k+1) j) d6 rfl rfl (by decide) λY7 F7 d7=>?_;have ae:box Y7 (11,v7)=V ⟨107,3,U,U,[aH8.c<|gd ((aR ns 5).drop<|k+1) j]⟩:=d7;have v:Fx T Y7 []:=(F6.trans F7).mono (by grind [ig.no]);have D:=u.fx v;have y:=v.kq d5;have aT:=D.bx;simp+contextual only[qz 52,u0,u1,ae,y,aPF aT,aT,rkC,ix,z,rk,aj];refine⟨(by grind [asq]),λh3=>?_,λh3=>?_⟩;refine lq D t N ?_;simp only[qz 54,de t,aY,u1,ae,z];refine lq D t aC ?_;simp only[qz 56,de t,aY,fi,bQ,qz 58];refine boV D (by grind) [_,_] (by simp) λZ Y8 C8 A8=>?_;simp only[qz 60];refine dT ?_ ?_;have:=C.sb;clear ah;obtain⟨E,R⟩:=b;simp only at this;subst this;simp[eL,lb,cq,m8,dC,dK];simp only[qz 213,aI,au,cS,aY];refine dR (p:=0) (mk:=λ_ i=>[iv i]) (s:=()) (s':=()) (λ_ _=>rfl) F (by omega) ⟨Z,?_,(S.fxn v).trans A8,A8.keep y ah<|D.ne y<|.inl rfl⟩;grind [aNG,jk];simp only[qz 213,aI,au,cS,aY];refine dR (p:=0) (mk:=λ_ i=>[iv i]) (s:=()) (s':=()) (λ_ _=>rfl) F (by omega) ⟨a5,?_,S.fxn v,y⟩;rw[aNG,<-bje,jk,j5 (by simp_all),cL];exact D;have aA:j=L ((aR ns 5).drop<|k+1):=(by grind);subst aA;refine dR (p:=0) (mk:=λ_ i=>[iv i]) (s:=()) (s':=()) (λ_ _=>rfl) o (by omega) ⟨a5,?_,S⟩;rw[aNG,<-bje];exact u;have G:k=L (aR ns 5):=(by grind);subst G;have aa:=B.bx;simp only[aPF aa,u0,u1,aa,rkC,aj,lnI B.gw,bJ];generalize bY:O2++(aH<|L<|aR ns 5).flatMap (lQ ns w<|aR ns 5)=O3 at*;have bM:L O3<502010000:=(by grind);have B4:∀x,L (qw ns w x)<=1001:=λx=>(by have h1:=jo (f:=brU ns w (aR ns 5) x) (m:=1) (l:=aH<|L<|(aR ns 5).filter<|eZ x) λj _=>(by simp[brU]);grind [qw]);have B5:∀k,L ((aH k).flatMap λk=>qw ns w<|gd (aR ns 5) k)<=k*1001:=λk=>(by have:=jo (f:=λk=>qw ns w<|gd (aR ns 5) k) (m:=1001) (l:=aH k) λe _=>B4 _;simp_all);refine yV (L<|aR ns 5) (λk _ Y'=>∃q,wl Y' b w ns (O3++(aH k).flatMap λk=>qw ns w<|gd (aR ns 5) k) n wk q bm bo f/\Ad Y Y' b a q) (by grind) ?_;rintro k _ Y3 hk ⟨a3,X,A3⟩;have l3:=B5 k;simp only[qz 235,qy 62,au,aI,u0,u1];refine⟨λh=>?_,λh=>?_⟩;have o:=aL h;have l4:=B4<|gd (aR ns 5) k;rw[qB X.gw o];refine ic X.le λW O F4 N4 P=>?_;refine cy (cs:=aH8.c<|gd (aR ns 5) k) P rfl rfl (by decide) λT F5 d5=>?_;have bk:box T (13,W)=V ⟨107,3,U,U,[aH8.c<|gd (aR ns 5) k]⟩:=d5;have aP:Fx Y3 T []:=(F4.trans F5).mono (by grind [ig.no]);have u:=X.fx aP;simp only[qz 64,u0,u1,bk,z];refine bsi rfl (aDx u M Wk hw (asq o)<|by grind) λa6 Y6 C6 A6=>?_;simp only[qz 66,au,cS,aY];refine dR (p:=0) (mk:=λ_ i=>[iv i]) (s:=()) (s':=()) (λ_ _=>rfl) o (by omega) ⟨a6,?_,(A3.fxn aP).trans A6⟩;grind [aNG];have G:k=L (aR ns 5):=(by grind);subst G;simp only[aNN,aoz];refine⟨a3,rfl,?_,A3⟩;grind
def oa(r:Nat)(x:aH8):Bool:=Q (x.kind=4)&&Q (x.a=(r:Int))
structure GU(w:gz)(ns:List aH8):Prop where
 eq:∀r,r<L w.ac->fR (gd w.ac r)=U->ns.filter (oa r)=(dx w r).map λs=>(⟨4,(r:Int),s⟩:aH8)
 ok:∀r:Nat,∀s∈dx w r,0<=s->aF (L w.ac) s/\s≠(r:Int)
 ln:∀r:Nat,L (dx w r)<=1000
theorem aDV(C:wl Y b w ns out n wk a bm bo f)(M:jb w ns)(D:tP w)(S:GU w ns)(bu:∀k,k<L w.ac->aF (L w.aQ.ay) (gd w.ac k).aq)(hw:L w.ac<=16)(ho:L out+L ((aH<|L w.ac).flatMap<|bqN ns w)<999990000):∃r Y1,bsW Y b w ns out ((aH<|L w.ac).flatMap<|bqN ns w) n wk a bm bo f r Y1/\cZ aS GG 89 [.p b 0 0] Y r Y1:=by have N:=M.ln;refine aKy C.le ?_;have bx:=C.bx;have al:∀{x:aH8},aN (V 3) (aH8.c x)=V (.a<|aH8.c x):=rfl;simp only[HS,aPF bx,u0,u1,bx,rkC,aj];refine yV (L w.ac) (λk _ Y'=>∃Z,wl Y' b w ns (out++(aH k).flatMap (bqN ns w)) n wk Z bm bo f/\Ad Y Y' b a Z) (by grind [Ad.refl]) ?_;rintro r _ Y1 hr ⟨a1,C1,A1⟩;simp only[qz 7,au,aI,u0,u1];refine⟨λh=>?_,λh=>?_⟩;have m:=aL h;refine bsK (λe=>∀E a8,wl E b w ns (out++(aH r).flatMap (bqN ns w)++bqN ns w r) n wk a8 bm bo f->Ad Y E b a a8->e [] E) ?_ λe ad=>?_;intro E a8 C8 A8;simp only[qz 27,aI,au,cS,aY];refine dR (p:=0) (mk:=λ_ i=>[iv i]) (s:=()) (s':=()) (λ_ _=>rfl) m (by omega) ⟨a8,?_,A8⟩;grind [aNG];simp only[qz 29,qy 2,au,u0,ix,rk,bh];refine⟨dJ m,?_⟩;have l1:=fU (f:=bqN ns w)<|show r+1<=L w.ac from m;rw[aNG,a6G] at l1;refine ic C1.le λv Y2 F2 N2 b2=>?_;refine cy (y:=7) (cs:=aP.c<|gd w.ac r) b2 rfl rfl (by decide) λY3 F3 b3=>?_;have bf:box Y3 (3,v)=V ⟨62,7,U,U,[aP.c<|gd w.ac r]⟩:=b3;have aC:Fx Y1 Y3 []:=(F2.trans F3).mono (by grind [ig.no]);have C3:=C1.fx aC;have A3:=A1.fxn aC;simp only[qz 4,u0,u1,bf,rk,ar,amn];refine⟨λh1=>?_,λh1=>?_⟩;refine ad Y3 a1 ?_ A3;grind [bqN];have ak:fR (gd w.ac r)=U:=(by grind);have bp:bqN ns w r=[[-lF ns r,lE ns r],-lF ns r::(dx w r).map (lS ns r)]++(aH<|L<|dx w r).flatMap (λj=>iP ns w r<|gd (dx w r) j):=(by grind [bqN]);have aG:=M.fx _ (dJ m) (by simpa using ak);have hS:=S.eq r m ak;have b9:=S.ln r;have bn:=S.ok r;rw[bp] at l1 ad;simp only[a6G,bZ,aO1] at l1;refine AQ C3 N aG ?_;simp only[qz 6,de N,aY,au];refine gq C3 N (M.ex _<|dJ m) ?_;simp only[qz 8,fi,bQ,qz 10];refine boV C3 (by grind) [_,_] (by simp) λa4 Y4 B A4=>?_;simp only[qz 12,au];refine AQ B N aG ?_;have aD:=B.bx;simp only[qz 14,de N,aY,a5Y,bQ];obtain⟨t,o',rfl⟩:=B.nm;simp only[qz 16,aPF aD,u0,u1,aD,rkC,aj,gT];refine jD (α:=AV×AV) (λa i=>[a.1,a.2,iv i]) 2 (L ns) (λk a Y'=>gA Y' 3 1 a.1 ((-lF ns r::((ns.take k).filter<|oa r).map (dP ns)).map ci)/\bc Y' 107 3 a.2 (((ns.take k).filter<|oa r).map aH8.c)/\Fx Y4 Y' []/\(∀q∈aA a.1,ig Y4 q/\q.1=66)/\∀q∈aA a.2,ig Y4 q/\q.1=60) (s0:=(_, .l [] U U)) ⟨.inl ⟨U,rfl⟩,bc.nil,Fx.refl _ _,by simp[aA],by simp[aA]⟩ ?_;rintro k ⟨y,o⟩ Y5 hk ⟨gy,go,F5,Py,Po⟩;simp only at gy go Py Po;have C5:=B.fx F5;simp only[qz 79,au,aI,u0,u1,qz 101,qy 18,lX,rk,bh];refine⟨λh2=>⟨u7 h2,?_⟩,λh2=>?_⟩;have z:=aL h2;refine ic C5.le λv7 Y6 F6 N6 d6=>?_;refine cy (cs:=aH8.c<|gd ns k) d6 rfl rfl (by decide) λX F7 d7=>?_;have aE:box X (7,v7)=V ⟨107,3,U,U,[aH8.c<|gd ns k]⟩:=d7;have O:Fx Y5 X []:=(F6.trans F7).mono (by grind [ig.no]);have P:=F5.trans O;have C7:=B.fx P;have bj:=gy.fx O (by simp);have G:=go.fx O (by simp);have cc:L ((ns.take k).filter<|oa r)<=k:=(by grind);simp+contextual only[qz 20,qy 22,u0,u1,aE,rk,al,aj,Db];refine⟨λhb=>?_,λhb=>?_⟩;refine gD G rfl (by decide) (by rw[C7.le];decide) uT uT (by grind) λo8 E g8 T cb bt=>?_;have W:Fx Y4 E []:=(P.trans T).mono (by grind [ig.no]);have d8:=T.keep _ _ (λA=>by have:=(Po _ A).2;simp at this) aE;have bk:=bj.fx T (by grind);simp only[qz 24,u0,u1,d8,al];refine lq (B.fx W) N (asq z) ?_;simp only[qz 26,qy 28,qy 30,a5Y,bQ,au];refine bsg bk rfl (by decide) (by rw[W.len,B.le];decide) fF fF (by grind) λy9 Y9 g9 F9 bs=>?_;simp only[qz 99,aI,au,ck,nr,cS,aY];refine dR (p:=2) (mk:=λ(a:AV×AV) i=>[a.1,a.2,iv i]) (s:=(y,o)) (s':=(y9,o8)) (λ_ _=>rfl) z (by omega) ⟨?_,?_,(W.trans F9).mono (by grind [ig.no]),λq A=>?_,λq A=>?_⟩;rw[pH z,lC<|by grind [oa]];grind;rw[pH z,lC (by grind [oa]),dg];refine g8.fx F9 λq A ah=>?_;have h1:=(Py q ah).2;rcases bt q A with F|F;grind;omega;rcases bs q A with F|F;exact Py q F;grind [ig.old];refine⟨?_,by grind⟩;grind [ig.old];simp only[qz 99,aI,au,ck,nr,cS,aY];have ca:¬oa r (gd ns k)=U:=(by grind [oa]);refine dR (p:=2) (mk:=λ(a:AV×AV) i=>[a.1,a.2,iv i]) (s:=(y,o)) (s':=(y,o)) (λ_ _=>rfl) z (by omega) ⟨?_,?_,P,Py,Po⟩;grind [pH];grind [pH];have ag:k=L ns:=(by grind);subst ag;rw[gV,hS] at gy go;have bq:(-lF ns r::((dx w r).map λs=>(⟨4,(r:Int),s⟩:aH8)).map (dP ns))= -lF ns r::(dx w r).map (lS ns r):=(by simp);rw[bq] at gy;have br:∀j,j<L (dx w r)->gd ((dx w r).map λs=>(⟨4,(r:Int),s⟩:aH8)) j=⟨4,(r:Int),gd (dx w r) j⟩:=(by grind [bT]);have a0:∀s∈dx w r,(⟨4,(r:Int),s⟩:aH8)∈ns:=λs hs=>(by have:(⟨4,(r:Int),s⟩:aH8)∈ns.filter (oa r):=(by grind);grind);refine Ea C5 (by grind) _ gy (by simp;omega) (by grind) λa6 Y6 C6 A6=>?_;have b6:Ad Y Y6 b a a6:=((A3.trans A4).fxn F5).trans A6;have H:∀{Ya Yb:ae} {aa ab:AV} {oo:List (List Int)},wl Ya b w ns oo (.l (ns.map aH8.c) t o') wk aa bm bo f->Ad Ya Yb b aa ab->bc Ya 107 3 o (((dx w r).map λs=>(⟨4,(r:Int),s⟩:aH8)).map aH8.c)->bc Yb 107 3 o (((dx w r).map λs=>(⟨4,(r:Int),s⟩:aH8)).map aH8.c):=(by intro Ya Yb aa ab oo Ca Aa g;refine g.fx Aa.fx λq A ah=>?_;rcases eW.1 ah with h|h;grind [wl.sb];exact Ca.ne (g.ids q A) (.inr<|by simp) h);have bi:=H C5 A6 go;simp only[qz 32,ck,u0,lnI bi,bJ];refine yV (L<|dx w r) (λj _ Y'=>∃Z,wl Y' b w ns (out++(aH r).flatMap (bqN ns w)++[[-lF ns r,lE ns r],-lF ns r::(dx w r).map (lS ns r)]++(aH j).flatMap λj=>iP ns w r<|gd (dx w r) j) (.l (ns.map aH8.c) t o') wk Z bm bo f/\Ad Y Y' b a Z/\bc Y' 107 3 o (((dx w r).map λs=>(⟨4,(r:Int),s⟩:aH8)).map aH8.c)) (by grind) ?_;rintro j _ X hj ⟨a7,C7,A7,G⟩;simp only[qz 133,qy 34,au,aI,u0,u1];refine⟨λF=>?_,λF=>?_⟩;have u:=aL F;have l7:=fU (f:=λj=>iP ns w r<|gd (dx w r) j)<|show j+1<=L (dx w r) from u;rw[aNG,a6G] at l7;rw[qB G (by grind),br j u];refine ic C7.le λv9 E T N8 d8=>?_;refine cy (cs:=aH8.c ⟨4,(r:Int),gd (dx w r) j⟩) d8 rfl rfl (by decide) λY9 F9 d9=>?_;have bg:box Y9 (9,v9)=V ⟨107,3,U,U,[aH8.c ⟨4,(r:Int),gd (dx w r) j⟩]⟩:=d9;have R:Fx X Y9 []:=(T.trans F9).mono (by grind [ig.no]);have C9:=C7.fx R;simp only[qz 36,u0,u1,bg,al];refine aEj C9 M D bu hw m ak (a0 _<|asq u) (bn _<|asq u) (by grind [a6G,bZ,aO1]) λbd b8 b7 aB=>?_;simp only[qz 38,au,cS,aY];refine dR (p:=0) (mk:=λ_ i=>[iv i]) (s:=()) (s':=()) (λ_ _=>rfl) u (by omega) ⟨bd,?_,(A7.fxn R).trans aB,H C9 aB<|G.fx R<|by simp⟩;grind [aNG];refine ad X a7 ?_ A7;grind;have ag:r=L w.ac:=(by grind);subst ag;exact⟨a1,rfl,C1,A1⟩
structure Sd(N:Nat)(p q:bp):Prop where
 prel:0<=p.dY->aF N p.dY
 held:p.dD<0->q.dD<0\/(0<=p.dY/\aF N p.dY/\aF N q.dD/\p.dY≠q.dD)
 own:0<=p.dD->aF N p.dD/\aF N q.dD/\p.dD≠q.dD/\(0<=p.dY->aF N p.dY/\p.dY≠q.dD)/\(0<=q.dY->aF N q.dY/\q.dY≠p.dD)
theorem aE1{p q:bp}:L (iA ns p q)<=4:=by grind [iA,jI]
theorem anl(C:wl Y b w ns out n wk a bm bo f)(M:jb w ns){l:List bp}{t o:Bool}(hl:L l<=100)(hS:∀i j,i<j->j<L l->(gd l i).aq≠(gd l j).aq->¬((gd l i).read=U/\(gd l j).read=U)->Sd (L w.ac) (gd l i) (gd l j))(ho:L out<800000000):∃r X,bsW Y b w ns out (rL ns l) n wk a bm bo f r X/\cZ aS GG 84 [.p b 0 0, .l (l.map bp.c) t o] Y r X:=by have hn:=M.ln;refine aKc C.le ?_;have AG:∀{Y:ae} {i:Int} {K:j4} {l:List bp} {t o:Bool},rV (cz 4 Y (.l (l.map bp.c) t o)<|iv i) K=(aF (L l) i/\K (.q<|bp.c<|gd l i.toNat)):=λ{Y i K l t o}=>aBz (Y:=Y) (f:=bp.c) λ_=>rfl;have W:∀i k,L ((aH k).flatMap λj=>iA ns (gd l i)<|gd (l.drop<|i+1) j)<=k*4:=λi k=>(by have:=jo (f:=λj=>iA ns (gd l i)<|gd (l.drop<|i+1) j) (m:=4) (l:=aH k) λe _=>aE1;simp_all);have ao:∀k,L ((aH k).flatMap<|mw ns l)<=k*400:=λk=>(by have:=jo (f:=mw ns l) (m:=400) (l:=aH k) λe _=>(by refine gl (W e _) ?_;grind);simp_all);simp only[Hh,gT,u0];refine yV (L l) (λk _ Y'=>∃O,wl Y' b w ns (out++(aH k).flatMap (mw ns l)) n wk O bm bo f/\Ad Y Y' b a O) (by grind [Ad.refl]) ?_;rintro k _ X hk ⟨a1,C1,A1⟩;have l1:=ao k;simp only[qz 7,qy 2,au,aI,u0,u1,AG,D2,bh];refine⟨λh=>⟨u7 h,?_⟩,λh=>?_⟩;have aJ:=aL h;refine ic C1.le λv5 Y2 F2 N2 b2=>?_;refine cy (y:=4) (cs:=bp.c<|gd l k) b2 rfl rfl (by decide) λY3 F3 b3=>?_;have bd:box Y3 (5,v5)=V ⟨220,4,U,U,[bp.c<|gd l k]⟩:=b3;have ar:Fx X Y3 []:=(F2.trans F3).mono (by grind [ig.no]);have C3:=C1.fx ar;have aC:((5,v5):Id)≠b:=(by grind [wl.sb]);simp only[qz 4,au,cS,aY];rw[fX (by omega),slS,bh];refine⟨(by omega),?_⟩;simp only[gT,u0];refine yV (L<|l.drop<|k+1) (λj _ Y'=>∃O,wl Y' b w ns (out++(aH k).flatMap (mw ns l)++(aH j).flatMap λj=>iA ns (gd l k)<|gd (l.drop<|k+1) j) n wk O bm bo f/\Ad Y Y' b a O/\box Y' (5,v5)=V ⟨220,4,U,U,[bp.c<|gd l k]⟩) (by grind [Ad.fxn]) ?_;rintro j _ Y4 hj ⟨a4,C4,A4,b4⟩;have l4:=W k j;have be:L (l.drop<|k+1)<=100:=(by grind);simp only[qz 43,au,aI,u0,u1];refine⟨λh2=>?_,λh2=>?_⟩;have A:=aL h2;refine bsK (λg=>∀z B,wl z b w ns (out++(aH k).flatMap (mw ns l)++(aH j).flatMap (λj=>iA ns (gd l k)<|gd (l.drop<|k+1) j)++iA ns (gd l k) (gd (l.drop<|k+1) j)) n wk B bm bo f->Ad Y z b a B->box z (5,v5)=V ⟨220,4,U,U,[bp.c<|gd l k]⟩->g [] z) ?_ λg x=>?_;intro z B C8 A8 b8;simp only[qz 63,aI,au,cS,aY];refine dR (p:=0) (mk:=λ_ i=>[iv i]) (s:=()) (s':=()) (λ_ _=>rfl) A (by omega) ⟨B,?_,A8,b8⟩;grind [aNG];simp only[qz 65,qy 6,au,u0,AG,D2,bh];refine⟨dJ A,?_⟩;have S:=hS k (k+1+j) (by omega) (by rw[oz] at A;omega);have aK:gd l (k+1+j)=gd (l.drop<|k+1) j:=(by rw[oz] at A;rw[bT (by omega),bT (by simp_all),List.getElem_drop]);rw[aK] at S;refine ic C4.le λv7 Y5 F5 N5 d5=>?_;refine cy (y:=4) (cs:=bp.c<|gd (l.drop<|k+1) j) d5 rfl rfl (by decide) λY6 F6 d6=>?_;have P:box Y6 (7,v7)=V ⟨220,4,U,U,[bp.c<|gd (l.drop<|k+1) j]⟩:=d6;have N:Fx Y4 Y6 []:=(F5.trans F6).mono (by grind [ig.no]);have H:=C4.fx N;have A6:=A4.fxn N;have Z:=N.kq b4;have aD:((7,v7):Id)≠b:=(by grind [wl.sb]);generalize gd l k=p at*;generalize gd (l.drop<|k+1) j=q at*;simp+contextual only[qz 8,qy 10,u0,u1,Z,P,aoj,En,aok,Bj,aj];have bg:L (out++(aH k).flatMap (mw ns l)++(aH j).flatMap λj=>iA ns p<|gd (l.drop<|k+1) j)<900000000:=(by grind);refine⟨λD=>?_,λD=>⟨λh4=>?_,λh4=>?_⟩⟩;refine x Y6 a4 ?_ A6 Z;simp only[fH,bN,yp] at D;rw[iA,lC (by grind),cL];exact H;simp only[cP,aNK] at D;have T:¬(p.read=U/\q.read=U):=(by simp_all);have F:=S D.1 T;have v:=aNR h4;have R:iA ns p q=uf ns p.dY q.dD:=(by rcases F.held v with E|⟨E,h6,h7,h8⟩;grind [iA,uf];have:=h7.1;rw[iA,j5 (by simp_all),lC v,uf,j5<|by omega]);rw[R] at x;refine aEe H M (by omega) (λu=>?_) (λu=>?_) ?_ λa7 Y7 C7 G=>x Y7 a7 C7 (A6.trans G) (by grind [Ad.keep,wl.ne]);exact F.prel u;rcases F.held v with E|⟨E,h6,h7,h8⟩;omega;exact h7;rcases F.held v with E|⟨E,h6,h7,h8⟩;exact .inr E;omega;simp only[cP,aNK] at D;have T:¬(p.read=U/\q.read=U):=(by simp_all);have F:=S D.1 T;have v:=bpF h4;obtain⟨q1,q2,q3,q4,q5⟩:=F.own (by omega);have R:iA ns p q=jI ns p.dD p.dY q.dD++jI ns q.dD q.dY p.dD:=(by have:=q2.1;rw[iA,j5 (by grind),j5 v]);rw[R] at x;refine anx H M (by omega) q1 q2 (λu=>(q4 u).1) q3 (λu=>(q4 u).2) λa7 Y7 C7 G=>?_;have b7:=G.keep Z aC<|H.ne Z<|.inl rfl;have d7:=G.keep P aD<|H.ne P<|.inl rfl;have bf:L (jI ns p.dD p.dY q.dD)<=2:=(by unfold jI;split<;>simp);simp only[qz 12,qy 14,u0,u1,b7,d7,Bj];refine anx C7 M (by grind) q2 q1 (λu=>(q5 u).1) (λe=>q3 e.symm) (λu=>(q5 u).2) λB z C8 A8=>x z B (by grind) ((A6.trans G).trans A8) (by grind [Ad.keep,wl.ne]);have aE:j=L (l.drop<|k+1):=(by grind);subst aE;refine dR (p:=0) (mk:=λ_ i=>[iv i]) (s:=()) (s':=()) (λ_ _=>rfl) aJ (by omega) ⟨a4,?_,A4⟩;rw[aNG,<-bje];exact C4;have aG:k=L l:=(by grind);subst aG;simp only[aNN,aoz];exact⟨a1,rfl,C1,A1⟩
theorem anm(C:wl Y b w ns out n wk a bm bo f)(hn:L ns<100000):∃r m,(∃a1,r= .a [iv<|L w.ac,iv<|L ns,a1,a]/\bc m 86 3 a1 ((lL ns).map bqR.c)/\bc m 38 1 a (out.map λc=>[sl ci c])/\Fx Y m [])/\cZ aS GG 41 [.p b 0 0] Y r m:=by refine aKg C.le ?_;simp only[Hm];refine ic C.le λv1 m Z N1 b1=>?_;have v:=C.fx Z;have bx:=v.bx;obtain⟨t,o,rfl⟩:=v.nm;simp only[qz 2,qy 4,aPF bx,u0,u1,bx,rkC,aj,gT];have av:bM bt3 brF [(0,iv<|L w.ac),(1,iv<|L ns),(3,a)]=V (.a [iv<|L w.ac,iv<|L ns, .l [] U U,a]):=(by simp[bM,aly,ms v.gr,zU]);simp only[av,u0];refine ic v.le λO Y2 F2 N2 b2=>?_;refine cy (y:=4) (cs:=[iv<|L w.ac,iv<|L ns, .l [] U U,a]) b2 rfl rfl (by decide) λu F3 b3=>?_;have an:box u (3,O)=V ⟨54,4,U,U,[[iv<|L w.ac,iv<|L ns, .l [] U U,a]]⟩:=b3;have z:Fx m u []:=(F2.trans F3).mono (by grind [ig.no]);have P:=v.fx z;have G:=P.bx;have al:=z.kq b1;simp only[qz 6];refine dT ?_ ?_;have T:=C.sb;have aB:=C.sa;have ax:=C.gr;clear bx G;obtain⟨a4,a5⟩:=b;simp only at T;subst T;rcases ax with⟨_,rfl⟩|⟨⟨d',v'⟩,rfl,_⟩;rfl;have:=aB (d',v') (by simp[aA]);simp only at this;subst this;rfl;simp only[aPF G,u0,u1,G,rkC,aj,gT];have aE:∀{x y x2 R:AV},aN J ([x,y,x2,R].drop 2)=V x2:=rfl;have X:∀{x y x2 R:AV},aN (V 4) [x,y,x2,R]=V (.a [x,y,x2,R]):=rfl;have g:∀{l:List bqR},∀r∈l.map bqR.c,L r=3:=(by intro l r hr;obtain⟨x,_,rfl⟩:=dN.1 hr;rfl);refine yV (L ns) (λk _ Y'=>∃a1,box Y' (3,O)=V ⟨54,4,U,U,[[iv<|L w.ac,iv<|L ns,a1,a]]⟩/\bc Y' 86 3 a1 (((aR (ns.take k) 1).map λx=>(⟨x.a,x.b,-1⟩:bqR)).map bqR.c)/\Fx u Y' [(3,O)]/\∀q∈aA a1,ig u q/\q.1=42) ⟨_,an,bc.nil,Fx.refl _ _,by simp[aA]⟩ ?_;rintro k _ Y4 hk ⟨a1,m2,g1,B,P1⟩;have az:L Y4=4096:=B.len.trans P.le;simp only[qz 25,qy 18,au,aI,u0,u1,qz 47,qy 8,lX,rk,bh];refine⟨λh=>⟨u7 h,?_⟩,λh=>?_⟩;have H:=aL h;refine ic az λv5 Y5 E N5 b5=>?_;refine cy (cs:=aH8.c<|gd ns k) b5 rfl rfl (by decide) λF F6 b6=>?_;have ap:box F (5,v5)=V ⟨107,3,U,U,[aH8.c<|gd ns k]⟩:=b6;have D:Fx Y4 F []:=(E.trans F6).mono (by grind [ig.no]);have N:=D.kq m2;have g6:=g1.fx D (by simp);have A:Fx u F [(3,O)]:=(B.trans D).mono (by simp);have ae:bM bt4 aon [(0,iv (gd ns k).a),(1,iv (gd ns k).b),(2,iv<|-1)]=V (.a<|bqR.c ⟨(gd ns k).a,(gd ns k).b,-1⟩):=rfl;have aw:aX btW 1 F [(0, .a<|bqR.c ⟨(gd ns k).a,(gd ns k).b,-1⟩)]=V (.l ([(⟨(gd ns k).a,(gd ns k).b,-1⟩:bqR)].map bqR.c) U U,F):=ua rfl rfl rfl (by decide) rfl (by decide);have S:=Qg (ns:=ns) (kd:=1) H;have a8:L (aR (ns.take k) 1)<=k:=(by grind [gC,aR]);simp only[qz 10,qy 12,u0,u1,ap,N,rk,aE,aj,ae,aw];refine⟨λhb=>?_,λhb=>?_⟩;refine gD g6 rfl (by decide) (by rw[A.len,P.le];decide) g g (by grind) λa7 Y7 g7 F7 a6 a9=>?_;have aD:((3,O):Id)∉aA a1:=(by grind);have W:=F7.keep _ _ aD N;simp only[qz 14,qy 16,u0,u1,W,aj];refine cy (y:=1) (j:=2) (cs:=[a7]) W (ms g7) rfl (by simp) λY8 F8 b8=>?_;have P7:∀q∈aA a7,ig u q/\q.1=42:=λq M=>(by refine⟨?_,by grind⟩;grind [ig.old]);simp only[qz 45,aI,au,cS,aY];refine dR (p:=0) (mk:=λ_ i=>[iv i]) (s:=()) (s':=()) (λ_ _=>rfl) H (by omega) ⟨a7,b8,?_,?_,P7⟩;rw[S,lC<|aNR hb,dg,dg];exact g7.fx F8 (by grind);refine((A.trans F7).trans F8).mono ?_;grind [ig.no];simp only[qz 45,aI,au,cS,aY];refine dR (p:=0) (mk:=λ_ i=>[iv i]) (s:=()) (s':=()) (λ_ _=>rfl) H (by omega) ⟨a1,N,?_,A,P1⟩;rw[S,j5<|bpF hb,cL];exact g6;have ay:k=L ns:=(by grind);subst ay;rw[gV] at g1;have am:=B.kq al;simp only[m2,u0,u1,X];refine cy (y:=4) (cs:=[iv<|L w.ac,iv<|L ns,a1,a]) am rfl rfl (by decide) λY5 E b5=>?_;have ao:box Y5 (2,v1)=V ⟨54,4,U,U,[[iv<|L w.ac,iv<|L ns,a1,a]]⟩:=b5;simp only[ao,u0,u1,X,aNN,aoz];refine⟨a1,rfl,g1.fx E (by grind),(P.gr.fx B<|λq M e=>by grind [wl.sa]).fx E (λq M e=>by grind [wl.sa]),(((Z.trans z).trans B).trans E).mono λq M=>?_⟩;simp only[dW,dF,cE] at M;rcases M with rfl|rfl;exact .inr (N2.old Z).no;exact .inr N1.no
end
def bsQ:dO:=apw
def bsw:eJ bsQ:=wS
def aBp:=@amn
def asS:=lA 10 [(3,([7],[1,2,3,6]))]
def Hq a a1 b c R:=(.mk _:NS bsQ asS Tryz.f161 [.u,a1,b] [a] c R).p
def aKj{c0:List AV}{a1 b:AV}{s0:ae}{R:be}(hs:L s0=4096)(l0:L c0=7)(h:HB1 62 7 3 c0 s0 λd c=>Hq d a1 b c R):EB 161 [.a c0,a1,b] s0 R:=zB1 asS bsw Tryz.func161 hs l0 h
def Hr a a1 b c R:=(.mk _:NS bsQ asS Tryz.f162 [.u,a1,b] [a] c R).p
def aKk{c0:List AV}{a1 b:AV}{s0:ae}{R:be}(hs:L s0=4096)(l0:L c0=7)(h:HB1 62 7 3 c0 s0 λd c=>Hr d a1 b c R):EB 162 [.a c0,a1,b] s0 R:=zB1 asS bsw Tryz.func162 hs l0 h
def HQ a b R:=(.mk _:NS bsQ at1 Tryz.f164 [.u] [a] b R).p
def aKw{c0:List AV}{s0:ae}{R:be}(hs:L s0=4096)(l0:L c0=7)(h:HB1 62 7 1 c0 s0 λc b=>HQ c b R):EB 164 [.a c0] s0 R:=zB1 at1 bsw Tryz.func164 hs l0 h
def HR a b R:=(.mk _:NS bsQ at1 Tryz.f165 [.u] [a] b R).p
def aKx{c0:List AV}{s0:ae}{R:be}(hs:L s0=4096)(l0:L c0=7)(h:HB1 62 7 1 c0 s0 λc b=>HR c b R):EB 165 [.a c0] s0 R:=zB1 at1 bsw Tryz.func165 hs l0 h
def as1:=lA 27 [(4,([9,22],[0,2,3,20,21])),(7,([9],[0,2,3,20,21,22])),(12,([43],[0,3,9,42])),(15,([],[0,3,9,42,43])),(19,([62],[0,3,9,12,42,43,60,61]))]
def HI a a1 b c s0 R:=(.mk _:NS bsQ as1 Tryz.f163 [a,a1,b,c] [] s0 R).p
def aKs{a a1 b c:AV}{s0:ae}{R:be}(hs:L s0=4096)(h:HI a a1 b c s0 R):EB 163 [a,a1,b,c] s0 R:=zB as1 bsw Tryz.func163 h
def asR:=lA 23 [(5,([6,29],[2,3,5,28])),(8,([6],[2,3,5,28,29])),(14,([6,44],[2,3,5,7,28,29,42,43])),(17,([6],[2,3,5,7,28,29,42,43,44]))]
def Hp b a c R:=(.mk _:NS bsQ asR Tryz.f85 [.u, .u] [b,a] c R).p
def aI4{b a1:AV}{s0:ae}{R:be}(h:eV (bxA 88 1 s0 2 b) λc d=>eV (bxA 3 1 d 3 a1) λa e=>Hp c a e R):EB 85 [b,a1] s0 R:=zB asR bsw Tryz.func85 h
def aKi{d a1:AV}{s0:ae}{R:be}(hs:L s0=4096)(l0:eY d=V [d])(l1:eY a1=V [a1])(h:∀(a:ae) (b c:Nat),Kp s0 a->(∀k,k≠2->k≠3->aZ a k=aZ s0 k)->(∀x,box s0 (2,b)≠V x)->(∀x,box s0 (3,c)≠V x)->box a (2,b)=V ⟨88,1,U,U,[[d]]⟩->box a (3,c)=V ⟨3,1,U,U,[[a1]]⟩->Hp (.p (2,b) 0 0) (.p (3,c) 0 0) a R):EB 85 [d,a1] s0 R:=by refine aI4 ?_;refine iN l0 rfl (by decide) (by decide) hs λq b f g0 n i=>?_;refine iN l1 rfl (by decide) (by decide) (f.len.trans hs) λa c g g1 o j=>?_;exact h a b c (Kp.trans f g) (λk l m=>(g1 k m).trans<|g0 k l) (λx e=>n x<|(Kp.refl _).keep _ _ e) (λx e=>o x<|f.keep _ _ e) (g.keep _ _ i) j
def as4:=lA 8 [(2,([3],[0]))]
def HP a s0 R:=(.mk _:NS bsQ as4 Tryz.f86 [a] [] s0 R).p
def aKv{a:AV}{s0:ae}{R:be}(hs:L s0=4096)(h:HP a s0 R):EB 86 [a] s0 R:=zB as4 bsw Tryz.func86 h
def aB8{w:gz}{u:Int}{l:List Int}{q:Int}(h:q∈fg w u l):∃x∈l,0<=x-gd w.init.count u.toNat/\x-gd w.init.count u.toNat<(L (aRQ w.ac u<|L w.ac):Int)/\q=gd (aRQ w.ac u<|L w.ac) (x-gd w.init.count u.toNat).toNat:=by unfold fg bqV at h;grind [Er]
theorem an7{w:gz}(h:xv w){k:Nat}(a:k<L w.ac){q:Int}{l:List Int}(j:∀x∈l,x∈(gd w.ac k).dI\/x∈(gd w.ac k).ep)(n:q∈fg w (gd w.ac k).aq l):aF (L w.ac) q/\fR (gd w.ac q.toNat)=U:=by obtain⟨x,o,v,y,rfl⟩:=aB8 n;obtain⟨s,u,e⟩:=h.rd k a x<|j x o;obtain⟨f,g⟩:=e (by omega);have c:=(h.wo.wo.named a).2;have d:(((gd w.ac k).aq.toNat:Nat):Int)=(gd w.ac k).aq:=kA c.1;simp only[aOu,bJ,d] at f g;generalize z:(x-gd w.init.count (gd w.ac k).aq.toNat).toNat=m at*;have b:m<L (fj w.ac (gd w.ac k).aq k):=(by omega);obtain⟨r,A⟩:=QC (l:=w.ac) (t:=(gd w.ac k).aq) (show k<=L w.ac by omega);have i:gd (aRQ w.ac (gd w.ac k).aq<|L w.ac) m=((gd (fj w.ac (gd w.ac k).aq k) m:Nat):Int):=(by grind [aRQ,bT]);rw[i];have p:gd (fj w.ac (gd w.ac k).aq k) m<k:=(by have:=asq b;exact fq.1 (jW.1 this).1);refine⟨⟨by omega,by omega⟩,?_⟩;grind [bT]
def an6{w:gz}(h:xv w)(l:hU w):tP w:=by have i:∀k,k<L w.ac->∀x,x∈(gd w.ac k).dI\/x∈(gd w.ac k).ep-> -1000<=x/\x<=1000:=λk a x d=>⟨(h.rd k a x d).1,(h.rd k a x d).2.1⟩;refine⟨h.ct.1,(by grind [xv.ct,ii]),λk a=>⟨?_,by grind⟩,λk a=>⟨?_,by grind⟩,(by grind [an7]),by grind [an7]⟩;(all_goals have c:=(h.wo.wo.en k a).2;simp only[be3,bip,eH,cP,fK,yp] at c;obtain⟨_,_,_,_,⟨f,g⟩,_⟩:=c;have j:=(h.wo.wo.named a).2);rcases oD (L (gd w.ac k).dI) with b|b;omega;have e:=yq f (L (gd w.ac k).dI-1) (by omega);grind [asq];rcases oD (L (gd w.ac k).ep) with b|b;omega;have e:=yq g (L (gd w.ac k).ep-1) (by omega);grind [asq]
theorem D5{w:gz}{x:aH8}:x∈lr (L w.ac) (L w.ac)↔x.kind=1/\aF (L w.ac) x.a/\aF (L w.ac) x.b/\x.a≠x.b:=by obtain⟨kd,a,b⟩:=x;simp only[lr,nB,iI,fq,dN,jW,yp,aH8.mk.injEq];constructor;rintro⟨i,g,j,⟨h,e⟩,rfl,rfl,rfl⟩;exact⟨rfl,⟨by omega,by omega⟩,⟨by omega,by omega⟩,e⟩;rintro⟨rfl,c,d,f⟩;refine⟨a.toNat,by have:=c.1;have:=c.2;omega,b.toNat,⟨by have:=d.1;have:=d.2;omega,?_⟩,rfl,kA c.1,kA d.1⟩;rw[kA c.1,kA d.1];exact f
theorem Qs{w:gz}{x:aH8}:x∈cw w↔x∈lr (L w.ac) (L w.ac)\/x∈mK (L w.ac)\/x∈kh w.ac (L w.ac)\/x∈ki w (L w.ac)\/x∈jp w (L w.ac):=by grind [cw]
theorem D6{n:Nat}{x:aH8}:x∈mK n↔∃a:Nat,a<n/\x=⟨2,a,0⟩:=by grind [mK]
theorem D7{l:List aP}{n:Nat}{x:aH8}:x∈kh l n↔∃a:Nat,a<n/\fR (gd l a)=U/\x=⟨3,a,0⟩:=by grind [kh]
theorem ant{w:gz}{n:Nat}{x:aH8}:x∈ki w n↔∃a:Nat,a<n/\∃s∈dx w a,x=⟨4,a,s⟩:=by grind [ki]
def anG{w:gz}(b:L (cw w)<100000):jb w (cw w):=by refine⟨b,(by grind [Qs,D5]),λx a=>Qs.2<|.inr<|.inl<|D6.2 ⟨x.toNat,by have:=a.1;have:=a.2;omega,by rw[kA a.1]⟩,λx a c=>Qs.2<|.inr<|.inr<|.inl<|D7.2 ⟨x.toNat,by have:=a.1;have:=a.2;omega,c,by rw[kA a.1]⟩⟩
theorem D8{w:gz}{n:Nat}{x:aH8}:x∈jp w n↔∃a:Nat,a<n/\pN (gd w.ac a)=U/\∃s∈mR w (gd w.ac a).f8 (gd w.ac a).aq,x=⟨5,a,s⟩:=by simp only[jp,iI,fq,pR];grind
theorem yH{p:Nat->Bool}{k:Nat}{s:Int}(h:s∈fw p k):∃i:Nat,i<k/\p i=U/\s=i:=by obtain⟨i,a,rfl⟩:=dN.1 h;grind
theorem anE{w:gz}(a:L w.ac<=16)(g:L w.init.gp.ay<=4):L (cw w)<2000/\L (jp w<|L w.ac)<=320:=by have b:=AS (L w.ac)<|L w.ac;have c:=AT<|L w.ac;have d:=AU w.ac<|L w.ac;have e:=AW w<|L w.ac;have f:=Qv w<|L w.ac;have m1:L w.ac*L w.ac<=16*16:=xn a a;have h:L w.ac*(1+L w.ac)<=16*17:=(by grind);have i:L w.ac*(L w.init.gp.ay+L w.ac)<=16*20:=xn a (by omega);simp only[cw,a6G];omega
theorem Qf{w:gz}:aR (cw w) 5=jp w (L w.ac):=by have a:∀{l:List aH8} {k:Int},(∀x∈l,x.kind=k)->k≠5->l.filter (λx=>Q<|x.kind=5)=[]:=(by simp_all);have b:∀{l:List aH8},(∀x∈l,x.kind=5)->l.filter (λx=>Q<|x.kind=5)=l:=(by simp);simp only[aR,cw,me];rw[a (k:=1) (by grind [D5]) (by decide),a (k:=2) (by grind [D6]) (by decide),a (k:=3) (by grind [D7]) (by decide),a (k:=4) (by grind [ant]) (by decide),b<|by grind [D8]];simp
def Rq{w:gz}(m:L w.ac<=16)(l:L w.init.gp.ay<=4):sE w (cw w):=by refine⟨λx b=>?_,by grind [Qf,anE]⟩;rw[Qf] at b;obtain⟨a,d,j,s,hs,rfl⟩:=D8.1 b;refine⟨⟨by simp,by simpa using d⟩,by grind,λc=>?_⟩;simp only at c⊢;rcases dF.1 hs with h|h;obtain⟨t,f,rfl⟩:=dN.1 h;grind [yH];obtain⟨i,g,k,rfl⟩:=yH h;refine⟨⟨by omega,by omega⟩,λe=>?_⟩;grind [wV]
def Kt{w:gz}{r:Nat}{s:Int}(h:s∈dx w r):(s= -1\/0<=s)/\(0<=s->aF (L w.ac) s/\s≠(r:Int)):=by unfold dx at h;(cases a:(dh (r:Int) (L w.ac)&&fR (gd w.ac (r:Int).toNat)));grind;rw[a] at h;simp only[bie] at h;rcases dF.1 h with h|h;grind;obtain⟨i,b,c,rfl⟩:=yH h;refine⟨.inr (by omega),λ_=>⟨⟨by omega,by omega⟩,λe=>?_⟩⟩;grind [mr,aTG]
def al6{α β:Type}{p:β->Bool}{f:α->List β}:∀{l:List α},(l.flatMap f).filter p=l.flatMap λa=>(f a).filter p
 |[]=>rfl
 |a::l=>by rw[Cz,Cz,me,al6]
def amd{β:Type}{f:Nat->List β}{r:Nat}:∀{n:Nat},(∀a,a≠r->f a=[])->(aH n).flatMap f=if r<n then f r else[]
 |0,_=>by simp
 |n+1,h=>by
  rw[aNG,amd (n:=n) h]
  grind
def aId{w:gz}(f:L w.ac<=16):GU w (cw w):=by refine⟨λr c d=>?_,λr s hs=>(Kt hs).2,by grind [vU]⟩;have b:∀{l:List aH8} {k:Int},(∀x∈l,x.kind=k)->k≠4->l.filter (oa r)=[]:=(by grind [RK,oa]);simp only[cw,me];rw[b (k:=1) (by grind [D5]) (by decide),b (k:=2) (by grind [D6]) (by decide),b (k:=3) (by grind [D7]) (by decide),b (l:=jp w<|L w.ac) (k:=5) (by grind [D8])<|by decide];simp only[dW,cL];rw[ki,al6,amd (r:=r)<|λa e=>?_,lC c];grind [GA,oa];grind [RK,oa]
def Ec{β:Type}{f:Nat->List β}:∀{n:Nat},(∀a,(f a).Nodup)->(∀a c,a≠c->∀x∈f a,x∉f c)->((aH n).flatMap f).Nodup
 |0,_,_=>by simp
 |n+1,b,d=>by
  rw[aNG,xl]
  refine⟨Ec b d,b n,λx g y h e=>?_⟩
  grind
def wC{α β:Type}{f:α->β}{l:List α}(c:∀a b,f a=f b->a=b)(h:l.Nodup):(l.map f).Nodup:=by grind
theorem Qw{p:Nat->Bool}{k:Nat}:(fw p k).Nodup:=wC (λa b h=>by omega)<|Cr.filter _ GM
theorem aEo{w:gz}{r:Nat}:(dx w r).Nodup:=by unfold dx;grind [Qw,yH]
theorem aEp{w:gz}{c u:Int}:(mR w c u).Nodup:=by grind [mR,iH,Qw,yH]
def aEm{w:gz}:(cw w).Nodup:=by have f:(lr (L w.ac)<|L w.ac).Nodup:=(by refine Ec (λa=>?_) λa c e x b d=>?_;exact wC (λi j h=>by simp only[aH8.mk.injEq] at h;omega)<|Cr.filter _ GM;obtain⟨i,_,rfl⟩:=dN.1 b;obtain⟨j,_,h⟩:=dN.1 d;grind);have g:(mK<|L w.ac).Nodup:=wC (λi j h=>by simp only[aH8.mk.injEq] at h;omega) GM;have k:(kh w.ac<|L w.ac).Nodup:=wC (λi j h=>by simp only[aH8.mk.injEq] at h;omega)<|Cr.filter _ GM;have l:(ki w<|L w.ac).Nodup:=(by refine Ec (by grind [aEo]) λa c e x b d=>?_;grind);have m:(jp w<|L w.ac).Nodup:=(by refine Ec (λa=>?_) λa c e x b d=>?_;grind [pR,aEp];grind [pR]);have n:∀x∈lr (L w.ac) (L w.ac),x.kind=1:=λx b=>(D5.1 b).1;have o:∀x∈mK (L w.ac),x.kind=2:=(by grind [D6]);have p:∀x∈kh w.ac (L w.ac),x.kind=3:=(by grind [D7]);have q:∀x∈ki w (L w.ac),x.kind=4:=(by grind [ant]);have r:∀x∈jp w (L w.ac),x.kind=5:=(by grind [D8]);unfold cw;rw[xl,xl,xl,xl];grind
def gZ(w:J9)(lock:Int)(e:aP):Bool:=Q<|mM w lock e=lock
def boU(E:aP->Bool)(l:List aP)(x:bp)(i:Nat):Bool:=Q (x.dD<i)&&(Q ((gd l i).aq=x.aq)&&E (gd l i))
def fT(E:aP->Bool)(l:List aP)(x:bp):Nat->Int|0=> -1|k+1=>bif Q (fT E l x k<0)&&boU E l x k then k else fT E l x k
def gk(E:aP->Bool)(l:List aP)(k:Nat)(x:bp):bp:={x with dY:=fT E l x k}
theorem El{E:aP->Bool}{l:List aP}{x:bp}:∀{k:Nat},(∀i,i<k->boU E l x i=I)->fT E l x k= -1
 |0,_=>rfl
 |k+1,h=>by
  rw[fT,h k (by omega),bsm,bkl,El<|by grind]
def aob{E:aP->Bool}{l:List aP}{x:bp}{i:Nat}(h:∀j,j<i->boU E l x j=I)(c:boU E l x i=U):∀{k:Nat},i<k->fT E l x k=i
 |0,b=>by omega
 |k+1,b=>by
  rcases jj i k with a|a
  ·rw[fT,aob h c a,bmL (by omega),kM,bkl]
  grind [fT,El]
theorem an9{E:aP->Bool}{l:List aP}{x:bp}:∀{k:Nat},fT E l x k= -1\/∃i:Nat,i<k/\boU E l x i=U/\fT E l x k=i
 |0=> .inl rfl
 |k+1=>by
  rw[fT]
  cases d:(Q (fT E l x k<0)&&boU E l x k) with
  |true=>
   grind
  |false=>
   rw[bkl]
   rcases an9 (E:=E) (l:=l) (x:=x) (k:=k) with h|⟨i,a,b,c⟩
   ·exact .inl h
   grind
def oF(w:J9)(lock:Int)(l:List aP)(k:Nat):List bp:=(aH k).flatMap λi=>oY w lock (gd l i) i
def nu(w:J9)(s:aW)(lock:Int):List bp:=(aH<|L s.ay).flatMap<|bqI w s lock
theorem zL{w:J9}{lock:Int}{l:List aP}{k:Nat}{x:bp}(h:x∈oF w lock l k):∃i:Nat,i<k/\lK w lock (gd l i)=lock/\x=⟨(gd l i).aq,i,-1,(dD w<|gd l i).2⟩:=by obtain⟨i,a,b⟩:=iI.1 h;grind [oY]
theorem uu{w:J9}{s:aW}{lock:Int}{x:bp}(h:x∈nu w s lock):∃u:Nat,u<L s.ay/\x.aq=u/\x.dD= -1/\x.dY= -1/\(if lock=L w.ak then s.tx=u/\x.read=I else if x.read=U then(u:Int)∈(gd s.ak lock.toNat).bk else(gd s.ak lock.toNat).awG=u):=by obtain⟨u,c,a⟩:=iI.1 h;refine⟨u,fq.1 c,?_⟩;unfold bqI at a;by_cases b:lock=L w.ak;simp_all;rw[j5 b] at a;rw[j5 b];rcases dF.1 a with a|a;grind [pJ];grind [pK]
def aos{w:J9}{s:aW}{l:List aP}{lock:Int}:∀{k:Nat},dZ w s l lock k=(nu w s lock++oF w lock l k).map (gk (gZ w lock) l k)
 |0=>by
  simp only[dZ,oF,List.range_zero,List.flatMap_nil,cL]
  refine(brw _).symm.trans (ja λx a=>?_)
  obtain⟨u,i,b,d,c,_⟩:=uu a
  cases x
  simp only at c
  subst c
  rfl
 |k+1=>by
  rw[dZ,aos]
  have e:∀x∈nu w s lock++oF w lock l k,x.dD<(k:Int):=by
   grind [uu,zL]
  have f:oF w lock l (k+1)=oF w lock l k++oY w lock (gd l k) k:=aNG
  rw[f,<-bje]
  conv=>rhs;rw[dg]
  congr 1
  ·unfold tv
   by_cases g:mM w lock (gd l k)=lock
   ·rw[lC g,vA]
    refine ja λx a=>?_
    have:=e x a
    have h:fT (gZ w lock) l x (k+1)=bif Q (fT (gZ w lock) l x k<0)&&boU (gZ w lock) l x k then(k:Int) else fT (gZ w lock) l x k:=rfl
    by_cases b:x.aq=(gd l k).aq/\fT (gZ w lock) l x k<0
    ·have d:ma (gd l k).aq k (gk (gZ w lock) l k x)={gk (gZ w lock) l k x with dY:=k}:=lC b
     grind [gk,boU,gZ]
    ·have d:ma (gd l k).aq k (gk (gZ w lock) l k x)=gk (gZ w lock) l k x:=j5 b
     have c:(Q (fT (gZ w lock) l x k<0)&&boU (gZ w lock) l x k)=I:=by
      grind [boU]
     grind [gk]
   grind [ja,gk,fT,boU,gZ]
  ·refine(brw _).symm.trans (ja λx a=>?_)
   grind [oY,gk,El,boU]
def Q5{w:J9}{s:aW}{l:List aP}{lock:Int}:jE w s l lock=(nu w s lock++oF w lock l (L l)).map (gk (gZ w lock) l<|L l):=aos
def xo(w:J9)(Lw:Int)(s:aW)(x:bp):Prop:=
 if Lw=L w.ak then s.tx=x.aq/\x.read=I else if x.read=U then x.aq∈(cH s Lw).bk else(cH s Lw).awG=x.aq
def alS{w:J9}{s:aW}{t kind f8:Int}(h:jm w s t kind f8=U):lc w s t kind f8=U/\named w kind f8=U/\aF (L w.ay) t/\lh w s=U:=by grind [jm,dX]
theorem aDe{s:aW}{Lw:Int}{a:cg}(h:aF (L s.ak) Lw):cH (I9 s Lw a) Lw=a:=Af h
def aDf{s:aW}{i Lw:Int}{a:cg}(b:0<=i)(c:0<=Lw)(h:i≠Lw):cH (I9 s i a) Lw=cH s Lw:=by grind [cH,I9,gd]
theorem aFa{l:List Int}{t x:Int}(h:x∈l\/x=t):x∈fk l t:=by induction l with|nil=>grind [fk]|cons y l a=>grind [fk]
def Qk{s:aW}{i:Int}{t:aoC}{Lw:Int}:cH (ni s i t) Lw=cH s Lw:=rfl
def ane{Lw:Int}:∀{l:List Int} {s:aW},cH (l.foldl (λs u=>Ab.ni s u {fA s u with cQ:=4}) s) Lw=cH s Lw|[],_=>rfl|u::l,s=>(ane (l:=l)).trans Qk
theorem apE:∀{l:List Int} {s:aW},(l.foldl (λs u=>Ab.ni s u {fA s u with cQ:=4}) s).tx=s.tx|[],_=>rfl|u::l,s=>(apE (l:=l)).trans rfl
theorem aIL{w:J9}{s:aW}{t kind f8 amt:Int}(n:kind≠12)(o:kind≠13):(cU w s t kind f8 amt).1.tx=s.tx:=by unfold cU;rw[j5 n,j5 o];by_cases f:kind=1;rw[lC f];rfl;rw[j5 f];by_cases h:kind=2;rw[lC h];rfl;rw[j5 h];by_cases j:kind=6\/kind=10;rw[lC j];rfl;rw[j5 j];by_cases k:kind=7\/kind=11;rw[lC k];rfl;rw[j5 k];by_cases l:kind=8;rw[lC l];rfl;rw[j5 l];by_cases m:kind=9;rw[lC m];rfl;rw[j5 m];by_cases a:kind=14;rw[lC a];rfl;rw[j5 a];by_cases b:kind=15;rw[lC b];rfl;rw[j5 b];by_cases c:kind=16;rw[lC c];rfl;rw[j5 c];by_cases d:kind=17;rw[lC d];rfl;rw[j5 d];by_cases e:kind=18;rw[lC e];split<;>rfl;rw[j5 e];by_cases g:kind=19;grind [apE];rw[j5 g];by_cases i:kind=20;rw[lC i];rfl;grind
theorem aDg{w:J9}{s:aW}{t kind f8 amt Lw:Int}(h:¬(6<=kind/\kind<=11))(a:kind≠16)(b:kind≠17):cH (cU w s t kind f8 amt).1 Lw=cH s Lw:=by unfold cU;rw[j5 (show¬(kind=6\/kind=10) by omega),j5 (show¬(kind=7\/kind=11) by omega),j5 (show¬(kind=8) by omega),j5 (show¬(kind=9) by omega),j5 a,j5 b];(repeat' split);all_goals first|rfl|exact ane
def yu{w:J9}{s:aW}{i Lw:Int}{a:cg}{x:bp}(c:0<=i)(b:aF (L s.ak) Lw)(e:if x.read=U then x.aq∈(cH s Lw).bk else(cH s Lw).awG=x.aq)(h:i=Lw->if x.read=U then x.aq∈a.bk else a.awG=x.aq):if x.read=U then x.aq∈(cH (I9 s i a) Lw).bk else(cH (I9 s i a) Lw).awG=x.aq:=by by_cases d:i=Lw;grind [aDe];rw[aDf c b.1 d];exact e
def aEW{w:J9}{s:aW}{e:aP}{amt Lw:Int}{x:bp}(r:jm w s e.aq e.kind e.f8=U)(t:0<=Lw/\Lw<=L w.ak)(E:∀l∈s.ak,jC l.bk)(G:0<=x.aq)(b:xo w Lw s x)(p:¬(x.aq=e.aq/\mM w Lw e=Lw)):xo w Lw (cU w s e.aq e.kind e.f8 amt).1 x:=by
 obtain⟨A,f,F,u⟩:=alS r
 obtain⟨fc,fl,D,y⟩:=iY u
 unfold xo at b⊢
 by_cases n:Lw=L w.ak
 ·rw[lC n] at b⊢
  refine⟨?_,b.2⟩
  have k:mM w Lw e=bif Q (e.kind=13) then Lw else-1:=by rw[mM,brS n];rfl
  by_cases B:e.kind=12
  ·grind [lc]
  grind [lc,aIL]
 ·rw[j5 n] at b⊢
  have z:aF (L w.ak) Lw:=⟨t.1,by omega⟩
  have d:aF (L s.ak) Lw:=by simp_all
  have k:mM w Lw e=(dY w e).1:=by rw[mM,bmL n];rfl
  have j:∀{c:Int},aF (L w.bC) c->0<=(gd w.bC c.toNat).eg/\sd w c=(gd w.bC c.toNat).eg:=(by grind [ii,sd,dX])
  by_cases H:e.kind=6\/e.kind=10
  ·have a:=mJ f (by omega) (by omega)
   have o:(gd s.ak e.f8.toNat).awG= -1:=by
    grind [lc]
   rw[show(cU w s e.aq e.kind e.f8 amt).1=I9 s e.f8 {cH s e.f8 with awG:=e.aq} from by
    grind [cU]]
   refine yu (w:=w) a.1 d b λi=>?_
   grind [cH]
  by_cases K:e.kind=7\/e.kind=11
  ·have a:=mJ f (by omega) (by omega)
   have o:(gd s.ak e.f8.toNat).awG=e.aq:=by
    grind [lc]
   rw[show(cU w s e.aq e.kind e.f8 amt).1=I9 s e.f8 {cH s e.f8 with awG:= -1} from by
    grind [cU]]
   refine yu (w:=w) a.1 d b λi=>?_
   grind [dY,cH]
  by_cases M:e.kind=8
  ·have a:=mJ f (by omega) (by omega)
   rw[show(cU w s e.aq e.kind e.f8 amt).1=I9 s e.f8 {cH s e.f8 with bk:=mP (cH s e.f8).bk [e.aq]} from by
    grind [cU]]
   refine yu (w:=w) a.1 d b λi=>?_
   grind [cH,Ro,ii,aFa]
  by_cases v:e.kind=9
  ·have a:=mJ f (by omega) (by omega)
   rw[show(cU w s e.aq e.kind e.f8 amt).1=I9 s e.f8 {cH s e.f8 with bk:=fJ (cH s e.f8).bk e.aq} from by
    grind [cU]]
   refine yu (w:=w) a.1 d b λi=>?_
   have m:(dY w e).1=e.f8:=by simp[dY,v]
   subst i
   split
   ·rename_i g;rw[lC g] at b
    simp only
    refine jW.2 ⟨b,brS λh=>p ⟨h,by rw[k,m]⟩⟩
   simp_all
  by_cases q:e.kind=16
  ·have a:=oT f (by omega) (by omega)
   have o:(gd s.ak (gd w.bC e.f8.toNat).eg.toNat).awG=e.aq:=by
    grind [lc]
   rw[show(cU w s e.aq e.kind e.f8 amt).1=ni (I9 s (gd w.bC e.f8.toNat).eg {cH s (gd w.bC e.f8.toNat).eg with awG:= -1}) e.aq {fA s e.aq with cQ:=3,cond:=e.f8} from by
    grind [cU]]
   rw[Qk]
   refine yu (w:=w) (j a).1 d b λi=>?_
   have m:(dY w e).1=(gd w.bC e.f8.toNat).eg:=by simp[dY,q,(j a).2]
   subst i
   split
   ·rename_i g;rw[lC g] at b;exact b
   ·rename_i g;rw[j5 g] at b;rw[cH] at b
    exact aPo ⟨by omega,by rw[k,m]⟩ p
  by_cases C:e.kind=17
  ·have a:=oT f (by omega) (by omega)
   have o:(gd s.ak (gd w.bC e.f8.toNat).eg.toNat).awG= -1:=by
    grind [lc]
   rw[show(cU w s e.aq e.kind e.f8 amt).1=ni (I9 s (gd w.bC e.f8.toNat).eg {cH s (gd w.bC e.f8.toNat).eg with awG:=e.aq}) e.aq {fA s e.aq with cQ:=2,cond:=0} from by
    grind [cU]]
   rw[Qk]
   refine yu (w:=w) (j a).1 d b λi=>?_
   grind [cH]
  grind [aDg]
def asn{w:J9}{s:aW}{e:aP}{Lw:Int}{p:bp}(h:jm w s e.aq e.kind e.f8=U)(v:0<=Lw/\Lw<=L w.ak)(x:0<=p.aq)(c:xo w Lw s p)(k:lK w Lw e=Lw)(o:¬(p.read=U/\(dD w e).2=U))(g:Lw≠L w.ak->p.read=U->(gd w.ak Lw.toNat).rw=U)(d:∀j,j<L w.bC->uh w j=I):False:=by obtain⟨n,f,z,l⟩:=alS h;obtain⟨fc,fl,r,m⟩:=iY l;unfold xo at c;by_cases b:Lw=L w.ak;grind [lK,lc];rw[j5 b] at c;rw[lK,bmL b,bkl] at k;have A:=g b;by_cases B:e.kind=6\/e.kind=10;grind [lc,dD,named,cH];by_cases C:e.kind=8;grind [lc,dD,cH];by_cases q:e.kind=17;have a:=oT f (by omega) (by omega);have u:(gd s.ak (gd w.bC e.f8.toNat).eg.toNat).awG= -1:=(by grind [lc]);have i:(gd w.bC e.f8.toNat).eg=Lw:=(by grind [dD,sd]);subst i;split at c;rename_i y;have t:=d e.f8.toNat (by have:=a.1;have:=a.2;omega);grind [uh];grind [cH];grind [dD]
theorem QP{E:aP->Bool}{l:List aP}{x:bp}{m:Nat}:∀{n:Nat},m<=n->fT E l x n<0->fT E l x m<0
 |0,h,b=>by simp_all
 |n+1,h,b=>by
  rcases jj n m with a|a
  ·grind
  ·refine QP a ?_
   grind [fT]
def axy{w:J9}(h:mQ w=U):∀j,j<L w.bC->uh w j=I:=by grind [mQ]
theorem amB{w:gz}(h:vL w){Lw:Int}(d:0<=Lw/\Lw<=L w.aQ.ak){y:bp}(b:y∈nu w.aQ w.init.gp Lw):∀{k:Nat},k<=L w.ac->fT (gZ w.aQ Lw) w.ac y k<0->xo w.aQ Lw (cY w k).gp y
 |0,_,_=>by
  obtain⟨u,j,c,f,g,a⟩:=uu b
  rw[<-c] at a
  exact a
 |k+1,m,i=>by
  obtain⟨u,j,c,f,g,a⟩:=uu b
  have e:=QP (show k<=k+1 by omega) i
  have n:boU (gZ w.aQ Lw) w.ac y k=I:=by
   grind [fT]
  rw[aoF h<|by omega]
  refine aEW (Kk h<|by omega).1 d (by grind [kQ.rd,vL.sy]) (by omega) (amB h d b (by omega) e) λl=>?_
  grind [boU,gZ]
def Bx{w:gz}(h:bcV w=U):(∀j,j<L w.init.gp.ak->uD w j)/\yS w=I/\mQ w.aQ=U/\lh w.aQ w.init.gp=U/\L w.init.count=L w.aQ.ay:=by have a:=(aQA h).1;simp only[oh,cP,fK,aNK] at a;grind [ny,fN]
def amr{l:List bp}{f:bp->bp}{i:Nat}(h:i<L l):gd (l.map f) i=f (gd l i):=by grind [bT]
def amq{A B:List bp}{i:Nat}(h:i<L (A++B)):(i<L A/\gd (A++B) i∈A)\/(L A<=i/\gd (A++B) i∈B):=by grind [bT]
theorem anV{w:gz}(R:hU w)(G:bcV w=U){Lw:Int}(M:0<=Lw/\Lw<=L w.aQ.ak):∀i j,i<j->j<L (jE w.aQ w.init.gp w.ac Lw)->(gd (jE w.aQ w.init.gp w.ac Lw) i).aq≠(gd (jE w.aQ w.init.gp w.ac Lw) j).aq->¬((gd (jE w.aQ w.init.gp w.ac Lw) i).read=U/\(gd (jE w.aQ w.init.gp w.ac Lw) j).read=U)->Sd (L w.ac) (gd (jE w.aQ w.init.gp w.ac Lw) i) (gd (jE w.aQ w.init.gp w.ac Lw) j):=by have O:=vd R G;obtain⟨C,ag,H,B,ab⟩:=Bx G;obtain⟨fc,fl,fd,X⟩:=iY B;rw[Q5];intro i j ad r;simp only[bJ] at r;rw[amr (show i<_ by omega),amr r];have ci:=amq (show i<L (nu w.aQ w.init.gp Lw++oF w.aQ Lw w.ac (L w.ac)) by omega);have c:=amq r;generalize gd (nu w.aQ w.init.gp Lw++oF w.aQ Lw w.ac (L w.ac)) i=p at ci⊢;generalize gd (nu w.aQ w.init.gp Lw++oF w.aQ Lw w.ac (L w.ac)) j=q at c⊢;simp only[gk];intro d n;have g:∀y:bp,0<=fT (gZ w.aQ Lw) w.ac y (L w.ac)->aF (L w.ac) (fT (gZ w.aQ Lw) w.ac y<|L w.ac)/\(gd w.ac (fT (gZ w.aQ Lw) w.ac y<|L w.ac).toNat).aq=y.aq:=(by intro y f;rcases an9 (E:=gZ w.aQ Lw) (l:=w.ac) (x:=y) (k:=L w.ac) with h|⟨a,z,hs,he⟩;omega;grind [boU,dJ]);refine⟨λh=>(g p h).1,λs=>?_,λs=>?_⟩;rcases c with⟨_,c⟩|⟨_,c⟩;grind [uu];obtain⟨m,S,A,rfl⟩:=zL c;simp only at d n⊢;have cp:p∈nu w.aQ w.init.gp Lw:=(by rcases ci with⟨_,ci⟩|⟨_,ci⟩;exact ci;obtain⟨m',ae,_,rfl⟩:=zL ci;simp only at s;omega);have af:0<=fT (gZ w.aQ Lw) w.ac p (L w.ac):=(by rcases Int.lt_or_le (fT (gZ w.aQ Lw) w.ac p<|L w.ac) 0 with f|f;exfalso;obtain⟨u,F,t,o,v,K⟩:=uu cp;refine asn (Kk O S).1 M (by omega) (by grind [amB,QP]) A n (λN D=>?_)<|axy H;rw[j5 N,lC D] at K;have h5:=(C Lw.toNat<|by omega).1;grind [AM];exact f);grind [dJ];simp only at s;obtain⟨a,z,Z,rfl⟩:∃a:Nat,a<L w.ac/\lK w.aQ Lw (gd w.ac a)=Lw/\p=⟨(gd w.ac a).aq,a,-1,(dD w.aQ<|gd w.ac a).2⟩:=(by rcases ci with⟨_,ci⟩|⟨_,ci⟩;obtain⟨u,F,t,o,v,_⟩:=uu ci;omega;exact zL ci);obtain⟨b,P,aa,rfl⟩:∃a:Nat,a<L w.ac/\lK w.aQ Lw (gd w.ac a)=Lw/\q=⟨(gd w.ac a).aq,a,-1,(dD w.aQ<|gd w.ac a).2⟩:=(by rcases ci with⟨T,ci⟩|⟨T,ci⟩;obtain⟨u,F,t,o,v,_⟩:=uu ci;simp only at o;omega;rcases c with⟨W,c⟩|⟨W,c⟩;omega;exact zL c);simp only at d⊢;refine⟨dJ z,dJ P,λe=>d ?_,λf=>⟨(g _ f).1,λe=>d ?_⟩,λf=>⟨(g _ f).1,λe=>d ?_⟩⟩;grind;grind;grind
def sJ(w:J9)(lock:Int)(e:aP):Bool:=bif Q (e.kind=6)||(Q (e.kind=8)||Q (e.kind=10)) then Q (e.f8=lock) else bif Q (e.kind=17) then Q ((gd w.bC e.f8.toNat).eg=lock) else I
def sQ(w:J9)(lock:Int)(e:aP):Bool:=bif Q (e.kind=7)||(Q (e.kind=9)||Q (e.kind=11)) then Q (e.f8=lock) else bif Q (e.kind=16) then Q ((gd w.bC e.f8.toNat).eg=lock) else I
def tG(x:bp):bp:={x with dY:=0}
def aoc{E:aP->Bool}{l:List aP}{x:bp}:∀{n:Nat},fT E l (tG x) n=fT E l x n
 |0=>rfl
 |n+1=>by simp only[fT,aoc (n:=n)];rfl
theorem aMY{E:aP->Bool}{l:List aP}{n:Nat}{x:bp}:gk E l n (tG x)=gk E l n x:=by simp only[gk,aoc];rfl
theorem aoa{E a:aP->Bool}{l:List aP}{x:bp}:∀{n:Nat},(∀i,i<n->E (gd l i)=a (gd l i))->fT E l x n=fT a l x n
 |0,_=>rfl
 |n+1,h=>by
  have c:=aoa (x:=x) (n:=n) λi b=>h i (by omega)
  grind [fT,boU]
def mq(B:aP->Bool)(l:List aP)(k:Nat):List bp:=(aH k).flatMap λi=>if B (gd l i)=U then[⟨(gd l i).aq,i,0,Q<|(gd l i).kind=8⟩] else[]
theorem aso{w:J9}{e:aP}:(dD w e).2=Q (e.kind=8):=by grind [dD]
def awn{w:J9}{Lw:Int}{l:List aP}{B:aP->Bool}{k:Nat}(h:∀i,i<k->B (gd l i)=Q (lK w Lw (gd l i)=Lw)):mq B l k=(oF w Lw l k).map tG:=by unfold mq oF;rw[RT];have:∀(m:Nat),m<=k->(aH m).flatMap (λi=>if B (gd l i)=U then[(⟨(gd l i).aq,i,0,Q<|(gd l i).kind=8⟩:bp)] else[])=(aH m).flatMap λi=>(oY w Lw (gd l i) i).map tG:=(by intro m;induction m with|zero=>intro _;rfl|succ m b=>intro c;rw[aNG,aNG,b (by omega)];congr 1;rw[h m (by omega),oY];by_cases a:lK w Lw (gd l m)=Lw;rw[lC<|brS a,lC a,aso];rfl;simp_all);simp_all
def aor{w:J9}{s:aW}{l:List aP}{Lw:Int}{H:List bp}{B E:aP->Bool}(b:H=(nu w s Lw).map tG)(a:∀i,i<L l->B (gd l i)=Q (lK w Lw (gd l i)=Lw))(c:∀i,i<L l->E (gd l i)=Q (mM w Lw (gd l i)=Lw)):(H++mq B l (L l)).map (gk E l<|L l)=jE w s l Lw:=by rw[Q5,b,awn a,<-dg,vA];refine ja λx _=>?_;grind [aMY,gk,aoa,gZ]
def qH(s:aW)(lock:Int)(u j:Nat):List bp:=(((gd s.ak lock.toNat).bk.take j).filter λx:Int=>Q<|x=(u:Int)).map λ_=>⟨u,-1,0,U⟩
def qG(s:aW)(lock:Int)(u:Nat):List bp:=if(gd s.ak lock.toNat).awG=u then[⟨u,-1,0,I⟩] else qH s lock u (L (gd s.ak lock.toNat).bk)
def qF(s:aW)(lock:Int)(k:Nat):List bp:=(aH k).flatMap<|qG s lock
def aBN{w:J9}{s:aW}{lock:Int}(c:lock≠L w.ak)(h:(gd s.ak lock.toNat).awG≠-1->(gd s.ak lock.toNat).bk=[]):qF s lock (L s.ay)=(nu w s lock).map tG:=by unfold qF nu;rw[RT];have b:qG s lock=λu=>(bqI w s lock u).map tG:=(by funext u;rw[qG,bqI,j5 c,pJ];by_cases a:(gd s.ak lock.toNat).awG=u;rw[lC a,lC a,pK,h<|by omega];rfl;rw[j5 a,j5 a,pK,qH,dW,vA];rfl);rw[b]
def sZ(s:aW):List bp:=if 0<=s.tx then[⟨s.tx,-1,0,I⟩] else[]
def aBP{w:J9}{s:aW}(h:s.tx≠-1->aF (L s.ay) s.tx):sZ s=(nu w s<|L w.ak).map tG:=by unfold sZ nu;rw[RT];have c:∀n:Nat,(aH n).flatMap (λu=>(bqI w s (L w.ak) u).map tG)=if 0<=s.tx/\s.tx<n then[⟨s.tx,-1,0,I⟩] else[]:=(by intro n;induction n with|zero=>simp|succ n e=>rw[aNG,e,bqI,lC rfl];by_cases a:s.tx=n;rw[j5 (by omega),lC a,lC (by omega),a];rfl;rw[j5 a];by_cases d:0<=s.tx/\s.tx<n;grind;rw[j5 d,j5<|by omega];rfl);rw[c];by_cases b:s.tx= -1;simp_all;have:=h b;rw[lC this.1,lC ⟨this.1,this.2⟩]
def awl{w:J9}{Lw:Int}{e:aP}(a:aF (L w.ak) Lw)(d:named w e.kind e.f8=U):sJ w Lw e=Q (lK w Lw e=Lw):=by have c:Q (Lw=(L w.ak:Int))=I:=bmL (by have:=a.2;omega);have b:¬(-1:Int)=Lw:=(by have:=a.1;omega);grind [lK,sJ,dD,oT,sd,dX]
def axI{w:J9}{Lw:Int}{e:aP}(a:aF (L w.ak) Lw)(d:named w e.kind e.f8=U):sQ w Lw e=Q (mM w Lw e=Lw):=by have c:Q (Lw=(L w.ak:Int))=I:=bmL (by have:=a.2;omega);have b:¬(-1:Int)=Lw:=(by have:=a.1;omega);grind [mM,sQ,dY,oT,sd,dX]
def awm{w:J9}{e:aP}:Q (e.kind=12)=Q (lK w (L w.ak) e=L w.ak):=by grind [lK]
def axJ{w:J9}{e:aP}:Q (e.kind=13)=Q (mM w (L w.ak) e=L w.ak):=by grind [mM]
section
variable{Y:ae}
theorem aDT(f:L Y=4096)(e:aP):∃r b,(r=bv (Q<|e.kind=12)/\Fx Y b [])/\cZ aS GG 164 [.a e.c] Y r b:=by refine aKw f rfl λj k h g i d=>?_;simp only[HQ,u0,u1,d,rk,aj,aNN,aoz];grind [Kp.fx]
theorem aDU(f:L Y=4096)(e:aP):∃r b,(r=bv (Q<|e.kind=13)/\Fx Y b [])/\cZ aS GG 165 [.a e.c] Y r b:=by refine aKx f rfl λj k h g i d=>?_;simp only[HR,u0,u1,d,rk,aj,aNN,aoz];grind [Kp.fx]
theorem aDE{b:Id}{w:gz}{ns:List aH8}{l:List (List Int)}{n D a:AV}{s t k h:Id}{f:Nat->AV}{t1 B:TypeId}{o1 y:Bool}(C:wl Y b w ns l n D a s t f){lock:Int}(v:box Y k=V ⟨t1,1,o1,U,[[iv lock]]⟩)(u:box Y h=V ⟨B,1,y,U,[[.p b 0 0]]⟩)(e:aP)(F:e.kind=17->aF (L w.aQ.bC) e.f8):∃r g,(r=bv (sJ w.aQ lock e)/\Fx Y g [])/\cZ aS GG 161 [.a e.c, .p k 0 0, .p h 0 0] Y r g:=by refine aKj C.le rfl λA H o E G q=>?_;have d:Fx Y A []:=o.fx [];have m:=C.fx d;have bx:=m.bx;have j:=d.kq v;have i:=d.kq u;have z:∀{x:AV},aN J [x]=V x:=λ{x}=>rfl;simp+contextual only[Hq,a7i,qz 23,qz 21,aI,au,u0,u1,q,j,i,aPF bx,bx,rkC,z,rk,ix,J3,aj,aNN,aoz,sr,aQ6,be8,aO5];grind [sJ]
theorem aDF{b:Id}{w:gz}{ns:List aH8}{l:List (List Int)}{n D a:AV}{s t k h:Id}{f:Nat->AV}{t1 B:TypeId}{o1 y:Bool}(C:wl Y b w ns l n D a s t f){lock:Int}(v:box Y k=V ⟨t1,1,o1,U,[[iv lock]]⟩)(u:box Y h=V ⟨B,1,y,U,[[.p b 0 0]]⟩)(e:aP)(F:e.kind=16->aF (L w.aQ.bC) e.f8):∃r g,(r=bv (sQ w.aQ lock e)/\Fx Y g [])/\cZ aS GG 162 [.a e.c, .p k 0 0, .p h 0 0] Y r g:=by refine aKk C.le rfl λA H o E G q=>?_;have d:Fx Y A []:=o.fx [];have m:=C.fx d;have bx:=m.bx;have j:=d.kq v;have i:=d.kq u;have z:∀{x:AV},aN J [x]=V x:=λ{x}=>rfl;simp+contextual only[Hr,a7i,qz 23,qz 21,aI,au,u0,u1,q,j,i,aPF bx,bx,rkC,z,rk,ix,J3,aj,aNN,aoz,sr,aQ6,be8,aO5];grind [sQ]
theorem aE0{l:List aP}{t:Int}{n a i:Nat}(c:a<L (fj l t n))(h:i<gd (fj l t n) a)(b:(gd l i).aq=t):∃m,m<a/\gd (fj l t n) m=i:=by have hs:(fj l t n).Pairwise (·<·):=Cr.sublist List.filter_sublist List.pairwise_lt_range;have j:gd (fj l t n) a<n:=fq.1 (jW.1<|asq c).1;have d:i∈fj l t n:=jW.2 ⟨fq.2 (by omega),by simpa using b⟩;obtain⟨m,f,g⟩:=RU.1 d;have e:gd (fj l t n) m=i:=(by grind [bT]);grind [GN,bT]
theorem aEZ{l:List aP}{t:Int}{n i:Nat}(c:i<n)(b:(gd l i).aq=t):∃m,m<L (fj l t n)/\gd (fj l t n) m=i:=by have d:i∈fj l t n:=jW.2 ⟨fq.2 c,by simpa using b⟩;obtain⟨m,a,e⟩:=RU.1 d;exact⟨m,a,by grind [bT]⟩
def ko(k:Nat):Prop:=k=20\/k=39\/k=40\/k=55
theorem wl.fxs{b:Id}{w:gz}{ns:List aH8}{h:List (List Int)}{n j a:AV}{e g:Id}{f:Nat->AV}{Y':ae}{ks:List Id}(C:wl Y b w ns h n j a e g f)(F:Fx Y Y' ks)(v:∀k∈ks,ko k.1):wl Y' b w ns h n j a e g f:=by obtain⟨t,u⟩:=C.mp;have c:∀q:Id,¬ko q.1->q∉ks:=(by grind);have l:b∉ks:=c b (by rw[C.sb];simp[ko]);have m:e∉ks:=c e (by rw[C.sm];simp[ko]);have o:g∉ks:=c g (by rw[C.so];simp[ko]);have p:∀q∈aA j,q∉ks:=λq d=>c q (by rw[C.sw q d];simp[ko]);have r:∀q∈aA a,q∉ks:=λq d=>c q (by rw[C.sa q d];simp[ko]);exact⟨F.keep _ _ l C.bx,C.nm,⟨t,F.keep _ _ m u⟩,C.gw.fx F p,C.ow.keep F o<|λi s q d=>c q<|by rw[C.ow.pl i s q d];simp[ko],C.gr.fx F r,F.len.trans C.le,C.sb,C.sm,C.so,C.sw,C.sa⟩
theorem awo{B:aP->Bool}{l:List aP}:∀k,L (mq B l k)<=k:=by intro k;induction k with|zero=>simp[mq]|succ k a=>have:mq B l (k+1)=mq B l k++if B (gd l k)=U then[⟨(gd l k).aq,k,0,Q<|(gd l k).kind=8⟩] else[]:=aNG;grind
theorem awp{B:aP->Bool}{l:List aP}{k:Nat}{x:bp}(h:x∈mq B l k):∃i,i<k/\x.aq=(gd l i).aq:=by obtain⟨i,a,b⟩:=iI.1 h;grind
def CZ{Y:ae}{x:bp}:aX bte 1 Y [(0, .a<|bp.c x)]=V (.l ([x].map bp.c) U U,Y):=ua rfl rfl rfl (by decide) rfl (by decide)
theorem ann{b:Id}{w:gz}{ns:List aH8}{bl:List (List Int)}{n wk a a1 fb fe:AV}{bm bo:Id}{f:Nat->AV}{hs:List bp}{B E:aP->Bool}(C:wl Y b w ns bl n wk a bm bo f)(hw:L w.ac<=16)(ca:L hs<=80)(cj:∀i,i<L w.ac->aF (L w.aQ.ay) (gd w.ac i).aq)(cb:∀x∈hs,aF (L w.aQ.ay) x.aq)(G:bc Y 220 4 a1<|hs.map bp.c)(hp:∀k∈aA a1,ko k.1)(hB:∀Y',Fx Y Y' (aA a1)->∀i,i<L w.ac->∀d K,K (bv<|B<|gd w.ac i) Y'->cF fb [.a (gd w.ac i).c] Y' d K)(hE:∀Y',Fx Y Y' (aA a1)->∀i,i<L w.ac->∀d K,K (bv<|E<|gd w.ac i) Y'->cF fe [.a (gd w.ac i).c] Y' d K):∃r X,(bc X 220 4 r (((hs++mq B w.ac (L w.ac)).map<|gk E w.ac<|L w.ac).map bp.c)/\Fx Y X (aA a1)/\(∀k∈aA r,ko k.1)/\∀k∈aA r,k∈aA a1\/ig Y k)/\cZ aS GG 163 [.p b 0 0,a1,fb,fe] Y r X:=by refine aKs C.le ?_;have bx:=C.bx;have a8:∀{x y:Int} {r:Bool},bM brT brF [(0,iv x),(1,iv y),(3,bv r)]=V (.a<|bp.c ⟨x,y,0,r⟩):=rfl;simp only[HI,u0,u1,aPF bx,bx,rkC,aj];refine jD (α:=AV) (λa i=>[a,iv i]) 1 (L w.ac) (λk r Y'=>bc Y' 220 4 r ((hs++mq B w.ac k).map bp.c)/\Fx Y Y' (aA a1)/\(∀k∈aA r,ko k.1)/\∀k∈aA r,k∈aA a1\/ig Y k) (s0:=a1) (by grind [mq,Fx.refl]) ?_;rintro k r X D ⟨g1,F1,P1,N1⟩;have bg:L X=4096:=F1.len.trans C.le;have C1:=C.fxs F1 hp;have lk:=awo (B:=B) (l:=w.ac) k;simp only[qz 25,au,aI,u0,u1];refine⟨λh=>?_,λh=>?_⟩;have ak:=aL h;refine bsK (λe=>∀Z Y2,bc Y2 220 4 Z ((hs++mq B w.ac (k+1)).map bp.c)->Fx Y Y2 (aA a1)->(∀k∈aA Z,ko k.1)->(∀k∈aA Z,k∈aA a1\/ig Y k)->e [Z] Y2) ?_ λe aB=>?_;intro Z Y2 q1 q2 q3 q4;simp only[qz 45,au,aI,u0,u1];exact dR (mk:=λa i=>[a,iv i]) (s:=r) (s':=Z) (λ_ _=>rfl) ak (by omega) ⟨q1,q2,q3,q4⟩;simp only[qz 47,qy 2,au,u0,u1,ix,rk,bh];refine⟨dJ ak,?_⟩;refine ic bg λv3 Y3 F3 N3 b3=>?_;refine cy (cs:=aP.c<|gd w.ac k) b3 rfl rfl (by decide) λY4 F4 b4=>?_;have aw:box Y4 (11,v3)=V ⟨62,7,U,U,[aP.c<|gd w.ac k]⟩:=b4;have av:Fx X Y4 []:=(F3.trans F4).mono (by grind [ig.no]);have g4:=g1.fx av (by simp);have F:=(F1.trans av).mono (ks':=aA a1) (by simp_all);have cf:L Y4=4096:=F.len.trans C.le;have r7:aN (V 7) (gd w.ac k).c=V (.a (gd w.ac k).c):=rfl;have b0:mq B w.ac (k+1)=mq B w.ac k++if B (gd w.ac k)=U then[⟨(gd w.ac k).aq,k,0,Q<|(gd w.ac k).kind=8⟩] else[]:=aNG;simp only[qz 4,qy 8,qy 10,u0,u1,aw,r7];refine hB Y4 F k ak _ _ ?_;simp+contextual only[u0,u1,aw,rk,aj,a8,CZ];refine⟨λhb=>?_,λhb=>aB r Y4 (by simp_all) F P1 N1⟩;refine gD g4 rfl (by decide) (by omega) nC nC (by simp only[bJ,bZ,aO1,a6G];omega) λr5 Y5 g5 F5 hi hd=>?_;refine aB r5 Y5 ?_ ((F.trans F5).mono λk D=>?_) (λk D=>?_) (λk D=>?_);simp_all;grind [ig.no];rcases hd k D with D|D;exact P1 k D;exact .inr<|.inl D;grind [ig.old];have ba:k=L w.ac:=(by grind);subst ba;generalize hL:hs++mq B w.ac (L w.ac)=Lw at g1;have b5:L Lw<=96:=(by rw[<-hL,a6G];omega);have a7:∀x∈Lw,aF (L w.aQ.ay) x.aq:=(by grind [awp]);simp only[lnI g1,bJ,u0];refine yV (L Lw) (λj _ Y'=>bc Y' 220 4 r (((Lw.take j).map (gk E w.ac<|L w.ac)++Lw.drop j).map bp.c)/\Fx Y Y' (aA a1)) (by simp_all) ?_;rintro j _ Y5 hj ⟨g5,F5⟩;have C5:=C.fxs F5 hp;have b1:=C5.bx;simp only[qz 73,au,aI,u0,u1];refine⟨λh5=>?_,λh5=>?_⟩;have A:=aL h5;have aT:L ((Lw.take j).map (gk E w.ac<|L w.ac)++Lw.drop j)=L Lw:=(by simp;omega);obtain⟨g,rfl,R⟩:∃g,r= .m g (L Lw)/\box Y5 g=V ⟨220,4,U,I,((Lw.take j).map (gk E w.ac<|L w.ac)++Lw.drop j).map bp.c⟩:=(by rcases g5 with⟨h',_⟩|⟨g,h',b2⟩;grind [List.map_eq_nil_iff];simp_all);have b9:g∈aA (.m g<|L Lw):=(by simp[aA]);have hx:((Lw.take j).map (gk E w.ac<|L w.ac)++Lw.drop j)[j]?=V (gd Lw j):=(by rw[xf<|by simp;omega];simp only[bJ,gC,rD<|aYB A,tM,List.getElem?_drop,Nat.add_zero];grind [bT]);have am:∀y,((Lw.take j).map (gk E w.ac<|L w.ac)++Lw.drop j).set j y=(Lw.take j).map (gk E w.ac<|L w.ac)++y::Lw.drop (j+1):=λy=>(by rw[CD _ _<|by simp;omega];simp only[bJ,gC,rD<|aYB A,tM];rw[Cw A,RY]);have S:(Lw.take<|j+1).map (gk E w.ac<|L w.ac)++Lw.drop (j+1)=(Lw.take j).map (gk E w.ac<|L w.ac)++gk E w.ac (L w.ac) (gd Lw j)::Lw.drop (j+1):=(by grind [iJ,bT]);have H:=a7 _<|asq A;generalize cl:gd Lw j=x at hx S H;generalize hM:(Lw.take j).map (gk E w.ac<|L w.ac)=M at R aT hx am S;have aC:L M=j:=(by grind);have T:∀{Y':ae} {bA:List (List AV)},box Y' g=V ⟨220,4,U,I,bA⟩->cz 4 Y' (.m g<|L Lw) (iv j)=V (.p g j 0):=λh=>(by simp[cz,h];omega);have u:∀{Y':ae} {bA:List (List AV)} {q p:Nat},box Y' g=V ⟨220,4,U,I,bA⟩->iQ p Y' (.p g j q)=V (.p g j<|q+p):=(by grind [iQ]);have aE:∀{Y':ae} {q:Nat} {y:bp},box Y' g=V ⟨220,4,U,I,(M++y::Lw.drop (j+1)).map bp.c⟩->vp J Y' (.p g j q)=aN J ((bp.c y).drop q):=λ{Y' q y} h=>(by simp_all [vp,iE]);have aU:∀{x:bp},aN J (bp.c x)=V (iv x.aq):=rfl;have aV:∀{x:bp},aN J ((bp.c x).drop 1)=V (iv x.dD):=rfl;refine bsK (λe=>∀(y:bp) t,y=gk E w.ac (L w.ac) x->box t g=V ⟨220,4,U,I,(M++y::Lw.drop (j+1)).map bp.c⟩->Fx Y t (aA a1)->e [] t) ?_ λe ag=>?_;intro y t hy h7 v;simp only[qz 93,au,aI,u0,u1];refine yU A ⟨.inr ⟨g,?_,?_⟩,v⟩;grind;simp_all;simp only[qz 95,au,u0,T R,u R,aj];refine wL R (by rw[bj9,hx];rfl) (by simp[bp.c]) λY6 F6 b6=>?_;rw[show(bp.c x).set 2 (iv<|-1)=bp.c {x with dY:= -1} from rfl,<-vB,am] at b6;have mn:∀{Ya Yb:ae},Fx Y Ya (aA a1)->Fx Ya Yb [g]->Fx Y Yb (aA a1):=λq1 q2=>(q1.trans q2).mono (by grind [ig.no]);have G6:=mn F5 F6;have C6:=C.fxs G6 hp;have ax:=C6.bx;have aD:x.aq.toNat<L w.aQ.ay:=(by have:=H.1;have:=H.2;omega);have ck:((x.aq.toNat:Nat):Int)=x.aq:=kA H.1;have an:∀{Y':ae},Fx Y Y' (aA a1)->bc Y' 3 1 (f x.aq.toNat) ((aRQ w.ac x.aq<|L w.ac).map ci):=λq=>(by have:=(C.fxs q hp).ow.gr _ aD;grind [btL]);have bi:fS Y6 (f x.aq.toNat)=V (iv<|L<|aRQ w.ac x.aq<|L w.ac):=(by rw[lnI<|an G6,bJ]);have ch:L (aRQ w.ac x.aq<|L w.ac)<=L w.ac:=(by rw[wE];exact wF);simp only[qz 12,au,u0,u1,aPF ax,ax,rkC,aj,T b6,u b6,aE b6,J3,aU,C6.ow.ix H,C6.ow.ld aD,bi];refine yV (L<|aRQ w.ac x.aq<|L w.ac) (λo _ Y'=>box Y' g=V ⟨220,4,U,I,(M++{x with dY:= -1}::Lw.drop (j+1)).map bp.c⟩/\Fx Y Y' (aA a1)/\∀m,m<o->boU E w.ac x (gd (fj w.ac x.aq<|L w.ac) m)=I) (by simp_all) ?_;rintro o _ t cd ⟨z,v,cg⟩;have C7:=C.fxs v hp;have az:=C7.bx;simp only[qz 115,qy 16,au,aI,u0,u1];refine⟨λh7=>?_,λh7=>?_⟩;have ah:=aL h7;have O:o<L (fj w.ac x.aq<|L w.ac):=(by grind [wE]);have be:gd (fj w.ac x.aq<|L w.ac) o<L w.ac/\(gd w.ac<|gd (fj w.ac x.aq<|L w.ac) o).aq=x.aq:=(by have:=jW.1<|asq O;exact⟨fq.1 this.1,aNR this.2⟩);obtain⟨W,bf⟩:=be;have bd:gd (aRQ w.ac x.aq<|L w.ac) o=((gd (fj w.ac x.aq<|L w.ac) o:Nat):Int):=(by rw[bT ah,bT O];simp[aRQ]);rw[Dw (an v)<|dJ ah,bh,bd];generalize ce:gd (fj w.ac x.aq<|L w.ac) o=N at W bf;have bn:boU E w.ac x N=I->(yI (λ_ i=>[iv i]) (L<|aRQ w.ac x.aq<|L w.ac) λo (_:Unit) Y'=>box Y' g=V ⟨220,4,U,I,(M++{x with dY:= -1}::Lw.drop (j+1)).map bp.c⟩/\Fx Y Y' (aA a1)/\∀m,m<o->boU E w.ac x (gd (fj w.ac x.aq<|L w.ac) m)=I) [iv<|dq.wrap<|(o:Int)+1] t/\gM 0 (L<|aRQ w.ac x.aq<|L w.ac) [iv<|dq.wrap<|(o:Int)+1] t<gM 0 (L<|aRQ w.ac x.aq<|L w.ac) [iv o] t:=(by intro hs;refine yU ah ⟨z,v,λm hm=>?_⟩;grind);simp only[u0,u1,T z,u z,aE z,aj,aV];rcases sq (Q<|x.dD<(N:Int)) with ad|ad;simp only[ad,u0,u1,Lg,aPF az,az,rkC,aj,ix,rk,bh];refine⟨λ_=>dJ W,hE t v N W _ _ ?_⟩;rcases sq (E<|gd w.ac N) with he|he;rw[he];simp only[show mL (bv U) (bv U) (bv I)=V (bv U) from rfl,u0,T z,u z,aj];refine⟨λ_=>?_,λh=>nomatch h⟩;have aW:((M++{x with dY:= -1}::Lw.drop (j+1)).map bp.c)[j]?=V (bp.c {x with dY:= -1}):=(by rw[bj9,xf (by omega),aC,tM];rfl);refine wL z aW (by simp[bp.c]) λY8 F8 b8=>?_;rw[show(bp.c {x with dY:= -1}).set 2 (iv N)=bp.c {x with dY:=N} from rfl,<-vB,CD _ _ (by omega),aC,tM,RY] at b8;refine ag {x with dY:=N} Y8 ?_ b8 (mn v F8);rw[gk,aob (i:=N) (λi hi=>?_) (by grind [boU]) W];by_cases P:(gd w.ac i).aq=x.aq;obtain⟨m,hm,he⟩:=aE0 O (by omega) P;grind;grind [boU];rw[he];simp only[show mL (bv U) (bv I) (bv I)=V (bv I) from rfl,u0];exact⟨λh=>(nomatch h),by grind [boU]⟩;simp only[ad,u0,jN,gF,bkl,show∀x,mL (bv I) x (bv I)=V (bv I) fromλ_=>rfl];exact⟨λh=>(nomatch h),by grind [boU]⟩;have cc:o=L (aRQ w.ac x.aq<|L w.ac):=(by grind);refine ag _ t ?_ z v;rw[gk,El];intro i hi;by_cases P:(gd w.ac i).aq=x.aq;obtain⟨m,hm,he⟩:=aEZ hi P;grind [wE];grind [boU];have a9:j=L Lw:=(by grind);rw[a9,gV,List.drop_length,cL] at g5;exact⟨g5,F5,P1,N1⟩
theorem amz{s:aW}{lock:Int}{u j:Nat}(h:j<L (gd s.ak lock.toNat).bk):qH s lock u (j+1)=qH s lock u j++if gd (gd s.ak lock.toNat).bk j=(u:Int) then[⟨u,-1,0,U⟩] else[]:=by grind [qH,pH]
theorem amy{s:aW}{lock:Int}{u j:Nat}:L (qH s lock u j)<=L (gd s.ak lock.toNat).bk:=by grind [qH]
theorem aBM{s:aW}{lock:Int}{u:Nat}:L (qG s lock u)<=L (gd s.ak lock.toNat).bk+1:=by grind [qG,amy]
theorem aBO{s:aW}{lock:Int}{k:Nat}{x:bp}(h:x∈qF s lock k):aF k x.aq:=by obtain⟨u,a,b⟩:=iI.1 h;grind [qG,qH,dJ]
theorem aDG{b:Id}{w:gz}{ns:List aH8}{aa:List (List Int)}{n wk a:AV}{bm bo:Id}{f:Nat->AV}(C:wl Y b w ns aa n wk a bm bo f)(hf:hU w)(hv:bcV w=U){lock:Int}(P:aF (L w.aQ.ak) lock):∃r Y1,(bc Y1 220 4 r ((jE w.aQ w.init.gp w.ac lock).map bp.c)/\Fx Y Y1 []/\∀k∈aA r,ig Y k)/\cZ aS GG 85 [.p b 0 0,iv lock] Y r Y1:=by
 have M:=vd hf hv
 obtain⟨a4,bT,bU,a0,bI⟩:=Bx hv
 obtain⟨fc,fl,fd,aR⟩:=iY a0
 have hw:=M.wo.ev
 have ax:=M.th
 have D:aF (L w.init.gp.ak) lock:=by simp_all
 have aX:=Bq hv 0<|mh _
 have bS:L (gd w.init.gp.ak lock.toNat).bk<=4:=by
  have h1:=aX.rd _<|ii (l:=(cY w 0).gp.ak) (i:=lock) D
  have:=AC h1.1 h1.2
  exact gl this ax
 refine aKi C.le rfl rfl λs4 v2 v3 K4 bV nf2 bW b2 b3=>?_
 have F4:Fx Y s4 []:=K4.fx []
 have C4:=C.fx F4
 have bx:=C4.bx
 have r1:∀{x:AV},aN J [x]=V x:=λ{x}=>rfl
 have aZ:∀{x y:Int},bM brT brF [(0,iv x),(1,iv y)]=V (.a<|bp.c ⟨x,y,0,I⟩):=rfl
 have aw:∀{x y:Int} {r:Bool},bM brT brF [(0,iv x),(1,iv y),(3,bv r)]=V (.a<|bp.c ⟨x,y,0,r⟩):=rfl
 simp only[Hp,qy 6,u0,u1,b2,b3,r1,aPF bx,bx,rkC,rk,ix,aj,dc]
 refine⟨D,?_⟩
 refine ic C4.le λv5 Y5 F5 N5 b5=>?_
 refine cy (cs:=cg.c<|gd w.init.gp.ak lock.toNat) b5 rfl rfl (by decide) λv F6 b6=>?_
 have aJ:box v (5,v5)=V ⟨184,2,U,U,[cg.c<|gd w.init.gp.ak lock.toNat]⟩:=b6
 have t:Fx s4 v []:=(F5.trans F6).mono (by grind [ig.no])
 have C6:=C4.fx t
 have W:=C6.bx
 have c2:=t.kq b2
 have c3:=t.kq b3
 have N:=C.sb
 simp only[qz 8]
 refine dT (by obtain⟨b1,b2⟩:=b;simp only at N;subst N;simp[eL,lb,m8,dC,dK,sl]) ?_
 simp only[u0,u1,c2,r1,aPF W,W,rkC,aj]
 have bH:∀k,qF w.init.gp lock (k+1)=qF w.init.gp lock k++qG w.init.gp lock k:=λk=>aNG
 have aW:∀k,L (qF w.init.gp lock k)<=k*5:=λk=>bhO (f:=qG w.init.gp lock) (c:=5) (by grind [aBM]) k
 refine jD (α:=AV) (λa i=>[a,iv i]) 1 (L w.aQ.ay) (λk a Y'=>bc Y' 220 4 a ((qF w.init.gp lock k).map bp.c)/\Fx v Y' []/\∀q∈aA a,ig v q/\ko q.1) (s0:= .l [] U U) ⟨bc.nil,Fx.refl _ _,by simp[aA]⟩ ?_
 rintro k a1 Y7 hk ⟨g7,F,N7⟩
 have d6:=F.kq aJ
 have C7:=C6.fx F
 have lk:=aW k
 simp only[qz 31,qy 18,au,aI,u0,u1]
 refine⟨λh=>?_,λh=>?_⟩
 ·have a5:=aL h
  refine bsK (λe=>∀m g,bc g 220 4 m ((qF w.init.gp lock<|k+1).map bp.c)->Fx v g []->(∀q∈aA m,ig v q/\ko q.1)->e [m] g) ?_ λe Z=>?_
  ·intro m g R S q3
   simp only[qz 51,au,aI,u0,u1]
   exact dR (mk:=λa i=>[a,iv i]) (s:=a1) (s':=m) (λ_ _=>rfl) a5 (by omega) ⟨R,S,q3⟩
  simp only[qz 53,qy 10,qy 12,au,u0,u1,d6,rk,aj]
  refine⟨λho=>?_,λho=>?_⟩
  ·simp only[aZ,aY,CZ,bQ]
   refine gD g7 rfl (by decide) (by rw[C7.le];decide) nC nC (by grind) λa8 g g8 G bK a7=>Z a8 g ?_ ((F.trans G).mono<|by grind [ig.no]) λq o=>⟨?_,?_⟩
   ·grind [qG]
   ·grind [ig.old]
   ·exact(a7 q o).elim (λh=>(N7 q h).2) λh=> .inr<|.inr<|.inl h
  ·have bO:qG w.init.gp lock k=qH w.init.gp lock k (L (gd w.init.gp.ak lock.toNat).bk):=by grind [qG]
   refine jD (α:=AV) (λa i=>[a,iv i]) 1 (L (gd w.init.gp.ak lock.toNat).bk) (λj a Y'=>bc Y' 220 4 a ((qF w.init.gp lock k++qH w.init.gp lock k j).map bp.c)/\Fx v Y' []/\∀q∈aA a,ig v q/\ko q.1) (s0:=a1) (by grind [qH]) ?_
   rintro j m g hj ⟨g8,G,N8⟩
   have C8:=C6.fx G
   have bR:=amy (s:=w.init.gp) (lock:=lock) (u:=k) (j:=j)
   simp only[qz 85,au,aI,u0,u1,qz 107,qy 14,qy 16,ix,rk,iF,bh]
   refine⟨λH=>⟨u7 H,λhu=>?_,λhu=>?_⟩,λH=>?_⟩
   ·simp only[aw,aY,CZ,bQ]
    refine gD g8 rfl (by decide) (by rw[C8.le];decide) nC nC (by simp only[bJ,bZ,aO1,a6G];omega) λa9 Y9 g9 F9 bL ba=>?_
    simp only[qz 105,au,aI,u0,u1]
    refine dR (mk:=λa i=>[a,iv i]) (s:=m) (s':=a9) (λ_ _=>rfl) (aL H) (by omega) ⟨?_,(G.trans F9).mono (by grind [ig.no]),λq o=>⟨?_,?_⟩⟩
    ·grind [amz]
    ·grind [ig.old]
    ·exact(ba q o).elim (λh=>(N8 q h).2) λh=> .inr<|.inr<|.inr h
   ·simp only[qz 105,au,aI,u0,u1]
    refine dR (mk:=λa i=>[a,iv i]) (s:=m) (s':=m) (λ_ _=>rfl) (aL H) (by omega) ⟨?_,G,N8⟩
    grind [amz]
   ·rw[bP hj<|bw H] at g8
    exact Z m g (by simp_all) G N8
 ·have a3:k=L w.aQ.ay:=(by grind)
  have X:=F.kq c2
  have aP:=F.kq c3
  simp only[X,r1,aY,u1]
  have O:∀{Y':ae},Fx Y7 Y' (aA a1)->wl Y' b w ns aa n wk a bm bo f/\box Y' (2,v2)=V ⟨88,1,U,U,[[.p b 0 0]]⟩/\box Y' (3,v3)=V ⟨3,1,U,U,[[iv lock]]⟩:=λz=>
   ⟨C7.fxs z λq o=>(N7 q o).2,z.keep _ _ (by grind [ko]) X,z.keep _ _ (by grind [ko]) aP⟩
  obtain⟨r,g,⟨R,S,q3,q4⟩,hF⟩:=ann (Y:=Y7) (a1:=a1) (fb:= .f 161 [] [.p (3,v3) 0 0, .p (2,v2) 0 0]) (fe:= .f 162 [] [.p (3,v3) 0 0, .p (2,v2) 0 0]) (hs:=qF w.init.gp lock k) (B:=sJ w.aQ lock) (E:=sQ w.aQ lock) C7 hw (by omega) (λi A=>(M.wo.named A).2) (by grind [aBO]) g7 (by grind) (λY' z i A d K hK=>by
   obtain⟨C',e2,e3⟩:=O z
   simp only[cF,rn]
   rw[j5 (show¬GG.nw 161=U by decide),lC<|show GG.imp 161=U by decide]
   exact aS2 rfl (aDE C' e3 e2 (gd w.ac i)<|by grind [oT,kB.named,vL.wo]) hK) (λY' z i A d K hK=>by
   obtain⟨C',e2,e3⟩:=O z
   simp only[cF,rn]
   rw[j5 (show¬GG.nw 162=U by decide),lC<|show GG.imp 162=U by decide]
   exact aS2 rfl (aDF C' e3 e2 (gd w.ac i)<|by grind [oT,kB.named,vL.wo]) hK)
  rw[aor (w:=w.aQ) (s:=w.init.gp) (Lw:=lock) ?_ (λi A=>awl P (M.wo.named A).1)<|λi A=>axI P (M.wo.named A).1] at R
  ·refine⟨r,g,hF,S.len,?_⟩
   rw[j5<|show¬GG.rd 163=U by decide]
   have T:=F4.trans<|t.trans F
   refine⟨R,(T.trans S).mono λq o=>?_,λq o=>?_⟩
   ·simp only[dW] at o
    exact .inr (((N7 q o).1.old t).old F4).no
   ·rcases q4 q o with h'|h'
    ·grind [ig.old]
    ·exact h'.old T
  ·rw[a3,<-aR]
   refine aBN (by have:=P.2;omega) λho=>?_
   have h5:=(a4 lock.toNat (by have:=D.1;have:=D.2;omega)).1
   grind [AM,List.length_eq_zero_iff]
theorem aDS{b:Id}{w:gz}{ns:List aH8}{O:List (List Int)}{n wk a:AV}{X Z:Id}{f:Nat->AV}(C:wl Y b w ns O n wk a X Z f)(hf:hU w)(N:bcV w=U):∃r u,(bc u 220 4 r ((jE w.aQ w.init.gp w.ac<|L w.aQ.ak).map bp.c)/\Fx Y u []/\∀k∈aA r,ig Y k)/\cZ aS GG 86 [.p b 0 0] Y r u:=by
 have F:=vd hf N
 obtain⟨ao,ap,aq,H,am⟩:=Bx N
 obtain⟨fc,fl,fd,al⟩:=iY H
 have hw:=F.wo.ev
 have z:w.init.gp.tx≠-1->aF (L w.init.gp.ay) w.init.gp.tx:=(by grind [yS,nO,dX])
 refine aKv C.le ?_
 have bx:=C.bx
 have G:∀{x y:Int},bM brT brF [(0,iv x),(1,iv y)]=V (.a<|bp.c ⟨x,y,0,I⟩):=rfl
 simp only[HP,di]
 refine bsh (λvs Y'=>∃a1,vs=[a1]/\bc Y' 220 4 a1 ((sZ w.init.gp).map bp.c)/\Fx Y Y' []/\∀q∈aA a1,ig Y q/\ko q.1) (λg hJ=>?_) ?_
 ·simp only[qz 17,qy 2,qy 4,u0,u1,aPF bx,bx,rkC,aj,dc]
  refine⟨λh=>?_,by grind [sZ,bc.nil,Fx.refl,aA]⟩
  simp only[G,aY,CZ,bQ]
  refine gD bc.nil rfl (by decide) (by rw[C.le];decide) (by simp) nC (by simp) λW A g8 S an M=>hJ _ _ ⟨W,rfl,?_,S.mono (by simp[aA]),λq l=>⟨?_,?_⟩⟩
  ·grind [sZ]
  ·grind [aA]
  ·exact(M q l).elim (by simp[aA]) λh=> .inl h
 ·rintro vs T ⟨a1,rfl,g7,t,N7⟩
  have m:=C.fx t
  simp only[qz 15,qy 6,aI,au]
  have hl:L (sZ w.init.gp)<=1:=by grind [sZ]
  obtain⟨r,A,⟨P,R,q3,q4⟩,hF⟩:=ann (Y:=T) (a1:=a1) (fb:= .f 164 [] []) (fe:= .f 165 [] []) (hs:=sZ w.init.gp) (B:=λe=>Q<|e.kind=12) (E:=λe=>Q<|e.kind=13) m hw (by omega) (λi j=>(F.wo.named j).2) (by grind [sZ]) g7 (by grind) (λY' o i j d K v=>by
   simp only[cF,rn]
   rw[j5 (show¬GG.nw 164=U by decide),lC<|show GG.imp 164=U by decide]
   exact aS2 rfl (aDT (o.len.trans m.le)<|gd w.ac i) v) (λY' o i j d K v=>by
   simp only[cF,rn]
   rw[j5 (show¬GG.nw 165=U by decide),lC<|show GG.imp 165=U by decide]
   exact aS2 rfl (aDU (o.len.trans m.le)<|gd w.ac i) v)
  rw[aor (w:=w.aQ) (s:=w.init.gp) (Lw:=L w.aQ.ak) (aBP z) (λi j=>awm)<|λi j=>axJ] at P
  refine⟨r,A,hF,R.len,?_⟩
  rw[j5<|show¬GG.rd 163=U by decide]
  refine⟨P,(t.trans R).mono λq l=>?_,λq l=>?_⟩
  ·grind [ig.no]
  ·rcases q4 q l with D|D
   ·simp_all
   ·exact D.old t
def aEf{b:Id}{w:gz}{ns:List aH8}{g:List (List Int)}{n o a:AV}{h i:Id}{f:Nat->AV}{d:Nat}{K:be}(C:wl Y b w ns g n o a h i f)(k:hU w)(m:bcV w=U){lock:Int}(e:aF (L w.aQ.ak) lock)(j:∀t,K (.l ((jE w.aQ w.init.gp w.ac lock).map bp.c) t U) Y):cB 85 [.p b 0 0,iv lock] Y d K:=bwW rfl (aDG C k m e) j
def aEk{b:Id}{w:gz}{ns:List aH8}{e:List (List Int)}{n m a:AV}{g h:Id}{f:Nat->AV}{d:Nat}{K:be}(C:wl Y b w ns e n m a g h f)(j:hU w)(k:bcV w=U)(i:∀t,K (.l ((jE w.aQ w.init.gp w.ac<|L w.aQ.ak).map bp.c) t U) Y):cB 86 [.p b 0 0] Y d K:=bwW rfl (aDS C j k) i
theorem Q6{w:gz}(h:hU w)(b:bcV w=U){Lw:Int}(e:0<=Lw/\Lw<=L w.aQ.ak):L (jE w.aQ w.init.gp w.ac Lw)<=100:=by
 have g:=vd h b
 obtain⟨m,o,p,d,k⟩:=Bx b
 obtain⟨fc,fl,q,j⟩:=iY d
 rw[Q5,bJ,a6G]
 have a:L (nu w.aQ w.init.gp Lw)<=L w.init.gp.ay*5:=bhO (f:=bqI w.aQ w.init.gp Lw) (c:=5) (λu=>by
  unfold bqI
  split
  ·grind
  ·have n:L (gd w.init.gp.ak Lw.toNat).bk<=4:=by
    have a:=(Bq b 0<|mh _).rd _ (ii (l:=(cY w 0).gp.ak) (i:=Lw)<|by rw[show(cY w 0).gp=w.init.gp from rfl,fl];exact⟨e.1,by omega⟩)
    exact gl (AC a.1 a.2) g.th
   grind [pJ,Ln]) _
 have r:L (oF w.aQ Lw w.ac<|L w.ac)<=L w.ac*1:=bhO (f:=λi=>oY w.aQ Lw (gd w.ac i) i) (c:=1) (by grind [oY]) _
 grind [vL.th,kB.ev,vL.wo]
end
def apy:dO:=bsQ
def aph:eJ apy:=bsw
def aBq:=@aBp
def asE:=lA 16 [(5,([13],[3,12]))]
def bt8 a b R:=(.mk _:NS apy asE Tryz.f32 [.u] [a] b R).p
def aJ5{c0:List AV}{s0:ae}{R:be}(hs:L s0=4096)(l0:L c0=15)(h:HB1 43 15 1 c0 s0 λc b=>bt8 c b R):EB 32 [.a c0] s0 R:=zB1 asE aph Tryz.func32 hs l0 h
def nT(ns:List aH8)(w:gz)(l:List aH8)(x:aH8):List (List Int):=(kZ ns w l x++(l.filter<|eZ x).map (dP ns))::(aH<|L<|l.filter<|eZ x).flatMap (brU ns w l x)
def ng(ns:List aH8)(w:gz)(l:List aH8)(k:Nat):List (List Int):=
 if(gd w.ac k).kind=17/\(bh0 w k).2=U then(-lE ns k::gO ns l (bh0 w k).1)::(aH<|L l).flatMap (iO ns k (bh0 w k).1 l) else[]
def sN(ns:List aH8)(w:gz)(l:List aH8):List (List Int):=((aH<|L l).flatMap λk=>iW ns<|gd l k)++((aH<|L l).flatMap (lP ns l)++((aH<|L l).flatMap (lQ ns w l)++(((aH<|L l).flatMap λk=>nT ns w l<|gd l k)++(aH<|L w.ac).flatMap (ng ns w l))))
theorem alM{ns:List aH8}{w:gz}{l:List aH8}{x:aH8}:L (nT ns w l x)<=L l+1:=by unfold nT;rw[bZ];have h:=bhO (f:=brU ns w l x) (c:=1) (λj=>by simp[brU])<|L<|l.filter<|eZ x;grind
section
variable{Y:ae}{b:Id}{w:gz}{ns:List aH8}{out:List (List Int)}{n a:AV}{d:Nat}{K:be}
set_option maxHeartbeats 8000000 in
end
end Go.Ab
