/- Part of the proof of WitnessModels. -/
import Derived.Test.YthlflpfcfdpedaaGreatDoorC
import Derived.Laws.RangeString
import Derived.Laws.RangeAny
set_option linter.all false
set_option maxRecDepth 100000
open And renaming intro->ai
open Bool renaming and_assoc->BI,and_eq_false_iff->bik,and_eq_true->bN,and_false->qc,and_true->ru,false->I,false_and->kM,false_eq_true->eE,false_or->lG,not_eq_false'->fK,not_eq_true'->eH,not_false->kN,not_true->fh,or_eq_false_iff->cP,or_eq_true->fH,or_false->kz,or_true->wY,true->U,true_and->iw,true_eq_false->sr
open Decidable renaming decide->Q,not_not->aNS
open Eq renaming mpr->aND
open Go.Code renaming region->BM,ret->ET
open Go.IntKind renaming i64->dq
open Go.Proofs.Tryz renaming prog->aS
open Go.Value renaming bool.injEq->mV,int.injEq->mW,string.injEq->mX
open Int renaming toNat_natCast->bh,toNat_of_nonneg->bvj,toNat_zero->Gx
open List renaming all_cons->Cs,all_eq_true->dV,all_nil->aqG,any_cons->Cu,any_eq_true->tL,any_nil->Cv,append_assoc->bje,append_inj->aqH,append_nil->cL,cons.injEq->kO,cons_append->zn,drop->aOz,drop_succ_cons->nM,drop_zero->ip,ext_getElem->biF,findIdx?_isSome->RM,flatMap_cons->Cz,flatMap_nil->RN,foldl_nil->aRl,getD_eq_getElem?_getD->eI,getElem?_append_left->xe,getElem?_eq_getElem->eC,getElem?_set_ne->oq,getElem_of_mem->ou,length->L,length_append->a6G,length_cons->bZ,length_filter_le->fZ,length_map->bJ,length_nil->vw,length_pos_iff->aqS,length_replicate->oA,length_set->zq,length_take->gC,map_append->dg,map_congr_left->ja,map_cons->ji,map_map->vA,map_nil->mU,mem_append->dF,mem_cons->eW,mem_map->dN,mem_range->fq,mem_singleton->cE,nil_append->dW,not_mem_nil->ql,range->aH,range_succ->qn,replicate->er,set_eq_take_append_cons_drop->GP,take_append_drop->aq0,take_length->gV,take_succ_eq_append_getElem->iJ,take_zero->CE
open Nat renaming eq_zero_or_pos->oD,le_refl->dA,le_trans->gl,lt_of_le_of_lt->rC,lt_of_lt_of_le->C3,lt_or_ge->jj,mul_le_mul_right->qo,reduceAdd->dc,succ_mul->tN,zero_add->aj
open Option renaming bind_some->qd,getD_some->mi,isSome_iff_exists->zz,map_some->df,none->J,some->V,some.injEq->bE
open Prod renaming mk.injEq->iK
namespace Go.Ab
open Go Go.RowKit Go.Proofs
def NH(w:vb)(i:Int)(b:Bool):Ct 148 [.a w.c,iv i,bv b] (·=bv (dh i (L w.ak)&&((gd w.ak i.toNat).rw==b))):=by refine aJX rfl λs0 f d e=>?_;simp+contextual only[aYG,u0,u1,d,rk,ix,ar,aQS,cT,aj,DR,NA,awG,↓uL];done
def EV:FT:=za NH
def axV{w i b Lw K}:=KP EV NH w i b Lw K
def Ow(w:vb)(s:aW)(f:lh w s=U/\L w.bC<=2):Ct 150 [.a w.c, .a s.c] (·=bv U):=by refine aK4 rfl rfl λs0 o b j u=>?_;obtain⟨n,q,r,t⟩:=iY f.1;have p:=f.2;simp+contextual only[Io,u0,u1,b,j,rk,ix,cT,aj,↓uL];refine⟨(by simp_all),λ_=>?_⟩;refine pQ (L w.bC) [6] (λk=>True) trivial λk Y x v e=>?_;have d:box Y (2,1)=_:=e.bt b;simp+contextual only[qz 37,qy 6,u0,u1,d,ix,rk,bh,au,aI,aj,↓uL];refine⟨λh=>⟨vp h,?_⟩,λh=>trivial⟩;refine eF rfl rfl (by decide) (by rw[e.1,o];decide) λi g l=>?_;have m:box i (2,1)=_:=g.bt d;simp+contextual only[qz 8,qz 37,qy 6,Io,u0,u1,m,l,rk,ar,aQS,cT,aj,au,↓uL];have y:dh (gd w.bC k).eg (L w.ak)=U:=dX.2<|n _<|dB<|aL h;grind [oL,aL,Fr.trans]
def zf:FT:=aIc Ow
def ayt{w s Lw K}:=f210 zf Ow w s Lw K
def Ox(w:vb)(kind nt:Int):Ct 226 [.a w.c,iv kind,iv nt] (·=bv (named w kind nt)):=by refine aK5 rfl λf e b d=>?_;simp only[aa9,↓uL];simp only[aOe,qz 23,iM,aY,sw,↓uL];simp only[qz 21,aI,au,↓uL];simp only[aOe,qz 71,iM,aY,sw,↓uL];simp only[qz 69,aI,au,↓uL];simp only[aOe,qz 89,iM,aY,sw,↓uL];simp only[qz 87,aI,au,↓uL];simp only[aOe,qz 107,iM,aY,sw,↓uL];simp only[qz 105,aI,au,↓uL];simp only[aOe,qz 137,iM,aY,sw,↓uL];simp only[qz 135,aI,au,↓uL];simp only[aOe,qz 167,iM,aY,sw,↓uL];simp only[qz 165,aI,au,↓uL];simp only[aOe,qz 185,iM,aY,sw,↓uL];simp only[qz 183,aI,au,↓uL];simp+contextual only[↓iC,↓iB,↓iS,u0,u1,aQS,ar,b,rk,ix,cT,aj,named,aNV,aPy,DR,NA,awG,↓uL]
def Ft:FT:=za Ox
def ayu{w kind nt Lw K}:=KP Ft Ox w kind nt Lw K
theorem aE7{l:List Int}{n:Int}:Q (0<=oW l n)=Q (n∈l):=by grind [oW,decide,RM,tL,zz,List.findIdx?_eq_none_iff,decide_eq_false_iff_not]
def PN(l:List Int)(n:Int)(b:L l<4611686018427387904):Ct 137 [sl ci l,iv n] (·=bv (Q<|n∈l)):=by refine aMz λs0 _ a=>?_;simp+contextual only[aj1,u0,u1,ar,aQS,↓uL];grind [aE7]
def bpB:FT:=aIc PN
def azz{l n Lw K}:=f210 bpB PN l n Lw K
def aFl{s:ByteArray}{Y:ae}{d:Nat}{K:be}(a:d<L Y)(c:∀Y',Fr Y Y' [d]->box Y' (d,(aZ Y d).lB+1)=V ⟨0,0,U,I,[[st s,iv 0]]⟩->K (.g 1 (d,(aZ Y d).lB+1) 0 0) Y'):eV (tu Y d<|st s) K:=by have b:tu Y d (st s)=V (.g 1 (d,(aZ Y d).lB+1) 0 0,put Y d ⟨0,0,U,I,[[st s,iv 0]]⟩):=(by simp[tu,vg,a,lA]);rw[b];exact c _ ⟨D3,λk f=>brT<|λe=>f<|by simp[e]⟩<|zQ a rfl
def aEA{s:ByteArray}{Y:ae}{b:Id}{p o n:Nat}{K:be}(a:box Y b=V ⟨0,0,U,I,[[st s,iv p]]⟩)(i:b.1<L Y)(c:p<s.size->∀Y',Fr Y Y' [b.1]->box Y' b=V ⟨0,0,U,I,[[st s,iv ((p+(Utf8.decode s p).2:Nat):Int)]]⟩->K (.t [bv U,iv p, .s<|.int .i32 (Utf8.decode s p).1]) Y')(d:s.size<=p->K (.t [bv I]) Y):eV (nxA Y<|.g 1 b o n) K:=by unfold nxA;simp only[a,awG,aNZ,bh];by_cases h:p<s.size;rw[J9 h];exact c h _ ⟨uC,λk f=>wy<|λe=>f<|by simp[e]⟩<|lO a;rw[J7 h];exact d (by omega)
def av3{a b:Int}:wl .leq 0 [] (.s<|.int .i32 a) (.s<|.int .i32 b)=V (bv<|Q<|a<=b):=rfl
def avW{a b:Int}:wl .eql 0 [] (.s<|.int .i32 a) (.s<|.int .i32 b)=V (bv<|Q<|a=b):=rfl
def DV(s:ByteArray)(b:Id):bu:=λ_ Y=>match box Y b with|some ⟨_,_,_,_,[[_, .s (.int _ p)]]⟩=>s.size-p.toNat|_=>0
def aB7{c:Int}(h:oO c=U):c<128:=by grind [oO,wx,zY]
def PQ(s:ByteArray)(w:aQt s=U):Ct 197 [st s] (·=bv U):=by refine aMH λs0 u C=>?_;have e:=w;simp only[aQt,bN,eH,aBY,cP,fK,aNG] at e;obtain⟨⟨⟨⟨p1,G⟩,H⟩,x⟩,y⟩:=e;simp+contextual only[ake,qy 2,u0,u1,Qm,ar,aQS,x,↓uL];refine⟨λh=>?_,λ_=>?_⟩;grind;refine aFl (by omega) λB n q=>?_;generalize(aZ s0 18).lB+1=v at*;refine⟨λvs Y=>∃p:Nat,vs=[]/\p<=s.size/\box Y (18,v)=V ⟨0,0,U,I,[[st s,iv p]]⟩/\L Y=4096,DV s (18,v),⟨0,rfl,by omega,q,by rw[n.1,u]⟩,?_⟩;rintro vs Y ⟨p,rfl,A,r,l⟩;simp only[qz 37,aI,↓uL];refine aEA r (by omega) (λa f o g=>?_) (λz=>?_);have b:=y p a;have k:rI s p=((s[p]'a).toNat:Int):=(by simp[rI,a]);have i:(s[p]'a).toNat<128:=(by have:=aB7 b;omega);have j:=decode_ascii s p a i;rw[j] at g⊢;simp only at g⊢;rw[<-k];have d:(∃p:Nat,True/\p<=s.size/\box f (18,v)=V ⟨0,0,U,I,[[st s,iv p]]⟩/\L f=4096)/\DV s (18,v) [] f<DV s (18,v) [] Y:=(by refine⟨⟨p+1,trivial,by omega,g,by rw[o.1,l]⟩,?_⟩;grind [DV,bh]);generalize F:rI s p=c at*;have m:p=0->wx c=U:=(by grind);simp+contextual only[qz 4,oJ,pG,KM,u0,u1,av3,avW,↓uL];refine⟨λ_=>⟨λ_=>d,λD=>⟨λ_=>d,λE=>?_⟩⟩,λh=>(nomatch h)⟩;exfalso;have t:oO c=U:=b;simp only[oO,wx,zY] at t m;grind;simp only[qz 4,oJ,u0,u1,↓uL];simp
def Gh:FT:=mT PQ
def azC{s Lw K}:=f110 Gh PQ s Lw K
def Ot(w:am)(q:Int)(hp:L w.ac<100000/\(aF (L w.ac) q->((gd w.ac q.toNat).kind=23->aF (L w.init.mp.done) (gd w.ac q.toNat).nt/\aF (L w.init.bU) (gd w.ac q.toNat).nt)/\((gd w.ac q.toNat).kind=3->aF (L w.init.cells) (gd w.ac q.toNat).nt))):Ct 207 [.a w.c,iv q] (λr=>∃t,r= .l ((dx w q).map ci) t U):=by refine aK0 rfl λs2 hl C h0=>?_;simp+contextual only[aaH,qy 4,u0,u1,C,ix,rk,aj,ar,cT,↓uL];have K:(Q (q<0)||Q ((L w.ac:Int)<=q))=!dh q (L w.ac):=(by grind [dh]);rw[K];refine⟨λh=>?_,λh=>?_⟩;simp only[eH] at h;have:dx w q=[]:=(by simp[dx,h]);rw[this];exact⟨rfl,U,rfl⟩;simp only[fK] at h;have hi:=h;have T:=dX.1 h;obtain⟨ay,P⟩:=hp;obtain⟨R,S⟩:=P T;refine⟨T,eF rfl rfl (by decide) (by omega) λo A D=>?_⟩;have E:box o (2,1)=_:=A.bt C;have N:L o=4096:=(by rw[A.1,hl]);generalize(aZ s2 5).lB+1=v at*;have X:∀b,oM w (gd w.ac q.toNat)=b->fR (gd w.ac q.toNat)=U->dx w q=(bif b then[-1] else[])++fw (mr w q) (L w.ac):=(by grind [dx]);simp only[qz 6,↓uL];refine bjf (λd=>∀a Y (n:List Int) (src:Int),L n<=1->dx w q=n++fw (mr w q) (L w.ac)->(((gd w.ac q.toNat).kind=3/\src=4)\/((gd w.ac q.toNat).kind=23/\src=22))->Fr o Y [105,40,65]->Gr Y [105,40,65] 3 1 a (n.map ci)->d [a,iv src] Y) ?_ λd s=>?_;(focus intro a Y n src az H an e G4;have d1:box Y (2,1)=_:=e.bt E;have d3:box Y (5,v)=_:=e.bt D;simp only[qz 45,aI,u0,u1,d1,rk,aj,cT,au,↓uL];refine iu (λa i=>[a,iv i]) 1 [105,40,65] [105,40,65,9] 3 1 (L w.ac) (λk=>(n++fw (mr w q) k).map ci) (λ_=>True) trivial (by grind [fw]) λk a' Y' aw _ F p=>?_;have e3:box Y' (5,v)=_:=p.bt d3;have O:L Y'=4096:=(by rw[p.1,e.1,N]);simp only[qz 103,aI,di,u0,u1,qz 125,qy 16,ix,rk,bh,au,gt1,↓uL];refine⟨λh=>⟨vp h,?_⟩,λh=>?_⟩;(focus refine eF rfl rfl (by decide) (by omega) λZ g b2=>?_;have f3:box Z (5,v)=_:=g.bt e3;have aA:=qX (mr w q) k;simp+contextual only[qz 18,qy 20,qy 22,u0,u1,f3,b2,rk,aj,ar,iz,au,gt1,↓uL];have av:mr w q k=(!(Q ((gd w.ac k).kind≠src)||Q ((gd w.ac k).nt≠(gd w.ac q.toNat).nt)||Q ((gd w.ac k).value≠(gd w.ac q.toNat).value))&&(Q ((gd w.ac k).aq≠(gd w.ac q.toNat).aq)||Q ((k:Int)<q))):=(by rw[Bool.eq_iff_iff];have ax:(k:Int)=q->(gd w.ac k).kind=(gd w.ac q.toNat).kind:=(by grind);simp only[mr,aTG,bN,fH,aBY,eH,cP,bik,aNG,bnq,aNS];grind);refine⟨λj=>?_,λj=>⟨λG=>?_,λG=>?_⟩⟩;rotate_left;have u:mr w q k=U:=(by simp_all);refine fP (F.fr g<|by decide) rfl (by decide) (by decide) (by rw[g.1,O];decide) pU (by simp) (by grind) λa2 Y3 g3 B=>?_;simp only[qz 123,aI,au,gt1,cS,aY,↓uL];refine C0 (mk:=λa i=>[a,iv i]) (λ_ _=>rfl) (aL h) (by omega) trivial ?_ (p.trans<|(g.mono<|by decide).trans<|B.mono<|by decide);grind [Bo];all_goals have u:mr w q k=I:=(by first|(rw[av,G];simp)|(rw[av,j];rfl));simp only[qz 123,aI,au,gt1,cS,aY,↓uL];refine C0 (mk:=λa i=>[a,iv i]) (λ_ _=>rfl) (aL h) (by omega) trivial ?_ (p.trans<|g.mono<|by decide);rw[yJ u];exact F.fr g<|by decide);have M:k=L w.ac:=(by grind);subst M;rw[H];grind [qV]);simp+contextual only[qz 47,qy 8,qy 10,qy 12,qy 14,u0,u1,E,D,rk,ix,aj,dc,ar,iz,↓uL];refine⟨λW=>?_,λW=>⟨λx=>?_,λx=>?_⟩⟩;have m:=aNK W;refine⟨S m,λj=>?_,λj=>?_⟩;refine fP (aa:=[]) (ds:=[105,40,65]) (new:=[ci<|-1]) Gr.nil rfl (by decide) (by decide) (by omega) (by simp) (by simp) (by decide) λa z y e=>?_;exact s a z [-1] 4 (by simp) (by grind [oM,decide,gd,fR]) (.inl ⟨m,rfl⟩) e y;exact s _ o [] 4 (by simp) (by grind [oM,decide,gd,fR]) (.inl ⟨m,rfl⟩) (Fr.refl _ _) Gr.nil;have f:=aNK x;obtain⟨o1,o2⟩:=R f;refine⟨o1,λ_=>o2,λj=>?_,λj=>?_⟩;refine fP (aa:=[]) (ds:=[105,40,65]) (new:=[ci<|-1]) Gr.nil rfl (by decide) (by decide) (by omega) (by simp) (by simp) (by decide) λa z y e=>?_;exact s a z [-1] 22 (by simp) (by grind [oM,fR]) (.inr ⟨f,rfl⟩) e y;exact s _ o [] 22 (by simp) (by grind [oM,fR]) (.inr ⟨f,rfl⟩) (Fr.refl _ _) Gr.nil;have hr:fR (gd w.ac q.toNat)=I:=(by grind [fR]);have:dx w q=[]:=(by simp[dx,hr]);rw[this];exact⟨rfl,U,rfl⟩
def Fq:FT:=pn Ot
def ayq{w q Lw K}:=f211 Fq Ot w q Lw K
structure jY where
 w:am
 ss:List aW
 deriving Inhabited,DecidableEq
def jY.c(x:jY):List AV:=x.w.c++[sl aW.c x.ss]
def j9{x y:jY}:(jY.c x=jY.c y)=(x=y):=by apply aOx;constructor;intro h;obtain⟨d,xs⟩:=x;obtain⟨e,ys⟩:=y;have a:d.c=e.c:=(aqH h<|by simp[am.c]).1;have b:=(aqH h<|by simp[am.c]).2;simp only[bo0] at a;simp only[kO,aNR,amV] at b;rw[a,b];intro h;rw[h]
def ND{l:List aW}{i:Int}{Y:ae}{K:o8}:rV (cz 4 Y (sl aW.c l)<|iv i) K=(aF (L l) i/\K (.q<|aW.c<|gd l i.toNat)):=aBz λ_=>rfl
def Oc(x:jY)(i j:Int)(h:aF (L x.w.ac) i/\aF (L x.w.ac) j):Ct 205 [.a x.c,iv i,iv j] (·=bv (nh (gd x.w.ac i.toNat)<|gd x.w.ac j.toNat)):=by refine aKM rfl λy b f A=>?_;have f:box y (3,1)=V ⟨174,16,U,U,[x.w.c++[sl aW.c x.ss]]⟩:=f;have q:=f;simp+contextual only[ZR,u0,u1,q,kj,ix,rk,aj,↓uL];refine⟨h.1,h.2,?_⟩;refine mo b λz d o=>?_;simp only[qz 4,↓uL];refine mo (d.1.trans b) λl e p=>?_;simp only[qz 6,↓uL];have r:box l (7,_)=_:=e.bt o;refine gN (cs:=aP.c<|gd x.w.ac i.toNat) r (by rw[e.1,d.1,b];decide) rfl rfl λm g s=>?_;have t:box m (8,_)=_:=g.bt p;simp only[qz 8,↓uL];refine gN (cs:=aP.c<|gd x.w.ac j.toNat) t (by rw[g.1,e.1,d.1,b];decide) rfl rfl λn k v=>?_;have u:box n (7,_)=_:=k.bt s;simp only[qz 10,↓uL];refine dT rfl ?_;simp+contextual only[u0,u1,u,v,rk,ar,aQS,aj,nh,NA,awG,BI,↓uL]
def zd:FT:=qe Oc
def aye{x i j Lw K}:=sT zd Oc x i j Lw K (j:=by simp+contextual only[ij,j9])
def Oh(x:jY)(l:List Int)(q:L l<100000):Ct 156 [.a x.c,sl ci l] (·=bv (l.all λi=>dh i<|L x.w.ac)):=by refine aKR rfl λm p e n=>?_;have b:box m (2,1)=V ⟨174,16,U,U,[x.w.c++[sl aW.c x.ss]]⟩:=e;simp+contextual only[aad,u0,u1,b,kj,ix,rk,aj,cT,↓uL];refine C7 (L l) (λk=>∀j,j<k->aF (L x.w.ac) (gd l j)) (by simp) λk o f=>?_;simp+contextual only[qz 19,aI,u0,u1,ix,rk,bh,au,b,kj,aj,cT,↓uL];refine⟨λh=>⟨vp h,λd=>?_,λd=>gS (aL h) (by omega)<|a6p f ?_⟩,λh=>?_⟩;grind [dh,List.all_eq_false,dB,aL,dX,aF];simp only[cP,aNG] at d;exact⟨by omega,by omega⟩;have:(l.all λi=>dh i<|L x.w.ac)=U:=dV.2 λy g=>dX.2 (px.1 (by grind) y g);rw[this]
def wZ:FT:=aIc Oh
def ayi{x l Lw K}:=f210 wZ Oh x l Lw K (j:=by simp+contextual only[ij,j9])
def apj:dO:=(148,EV)::(150,zf)::(226,Ft)::(137,bpB)::(197,Gh)::(207,Fq)::(205,zd)::(156,wZ)::api
def rf:eJ apj:=it (Rs NH)<|it (aCb Ow)<|it (Rs Ox)<|it (aCb PN)<|it (pg PQ)<|it (aN0 Ot)<|it (tE Oc)<|it (aCb Oh)<|sf
def rW:=ai @axV<|ai @ayt<|ai @ayu<|ai @azz<|ai @azC<|ai @ayq<|ai @aye<|ai @ayi<|@aQS
def asy:=bA 31 [(5,([5,19],[2,17,18])),(12,([5,32],[2,30,31])),(22,([53],[10,51,52]))]
def aYH a b c R:=(.mk _:NR apj asy Tryz.f147 [.u,b] [a] c R).p
def aJZ{c0:List AV}{b:AV}{R:o8}(l0:L c0=6)(h:H1 31 6 2 c0 λia c=>aYH ia b c R):Ct 147 [.a c0,b] R:=z1 asy rf Tryz.func147 l0 h
def akI b a c R:=(.mk _:NR apj at1 Tryz.f90 [.u, .u] [b,a] c R).p
def aMP{c0:List AV}{b:List AV}{R:o8}(l0:L c0=6)(l1:L b=7)(h:H2 31 6 2 c0 40 7 3 b λia c d=>akI ia c d R):Ct 90 [.a c0, .a b] R:=z2 at1 rf Tryz.func90 l0 l1 h
def akt b a c R:=(.mk _:NR apj at1 Tryz.f200 [.u, .u] [b,a] c R).p
def aMK{c0:List AV}{b:List AV}{R:o8}(l0:L c0=6)(l1:L b=7)(h:H2 31 6 2 c0 40 7 3 b λia c d=>akt ia c d R):Ct 200 [.a c0, .a b] R:=z2 at1 rf Tryz.func200 l0 l1 h
def atH:=bA 35 [(9,([60],[2,4,5,6,11])),(22,([109],[2,4,5,6,11]))]
def abG b a c d e f R:=(.mk _:NR apj atH Tryz.f227 [.u, .u,c,d,e] [b,a] f R).p
def aK9{c0:List AV}{b:List AV}{c d e:AV}{R:o8}(l0:L c0=6)(l1:L b=4)(h:H2 31 6 5 c0 36 4 6 b λia f g=>abG ia f c d e g R):Ct 227 [.a c0, .a b,c,d,e] R:=z2 atH rf Tryz.func227 l0 l1 h
def ato:=bA 6 []
def Z7 a b c d R:=(.mk _:NR apj ato Tryz.f153 [.u,b,c] [a] d R).p
def aKP{c0:List AV}{b c:AV}{R:o8}(l0:L c0=16)(h:H1 174 16 3 c0 λia d=>Z7 ia b c d R):Ct 153 [.a c0,b,c] R:=z1 ato rf Tryz.func153 l0 h
def atj:=bA 17 [(6,([9,10],[1,3,8])),(8,([39],[1,3,7,8,9,10,38]))]
def ZH a b c d R:=(.mk _:NR apj atj Tryz.f206 [.u,b,c] [a] d R).p
def aKK{c0:List AV}{b c:AV}{R:o8}(l0:L c0=16)(h:H1 174 16 3 c0 λia d=>ZH ia b c d R):Ct 206 [.a c0,b,c] R:=z1 atj rf Tryz.func206 l0 h
def atn:=bA 21 [(10,([69],[1,3,7,8,67,68]))]
def ZZ a b c d R:=(.mk _:NR apj atn Tryz.f155 [.u,b,c] [a] d R).p
def aKO{c0:List AV}{b c:AV}{R:o8}(l0:L c0=16)(h:H1 174 16 3 c0 λia d=>ZZ ia b c d R):Ct 155 [.a c0,b,c] R:=z1 atn rf Tryz.func155 l0 h
def ati:=bA 15 [(7,([52],[7,50,51]))]
def Ie a b c d R:=(.mk _:NR apj ati Tryz.f157 [.u,b,c] [a] d R).p
def aKJ{c0:List AV}{b c:AV}{R:o8}(l0:L c0=16)(h:H1 174 16 3 c0 λia d=>Ie ia b c d R):Ct 157 [.a c0,b,c] R:=z1 ati rf Tryz.func157 l0 h
def ZQ b a c R:=(.mk _:NR apj aur Tryz.f158 [.u, .u] [b,a] c R).p
def aKL{c0:List AV}{b:List AV}{R:o8}(l0:L c0=16)(l1:L b=6)(h:H2 174 16 2 c0 46 6 3 b λia c d=>ZQ ia c d R):Ct 158 [.a c0, .a b] R:=z2 aur rf Tryz.func158 l0 l1 h
def avn:=bA 38 [(4,([17],[1,3,15,16])),(17,([6,54],[1,3,15,16,17,52,53])),(30,([89],[3,87,88]))]
def akU a b R:=(.mk _:NR apj avn Tryz.f93 [.u] [a] b R).p
def aMS{c0:List AV}{R:o8}(l0:L c0=15)(h:H1 43 15 1 c0 λia b=>akU ia b R):Ct 93 [.a c0] R:=z1 avn rf Tryz.func93 l0 h
def aD7{t:TypeId}{Y:ae}{d:Nat}{K:be}(a:d<L Y)(c:∀Y',Fr Y Y' [d]->box Y' (d,(aZ Y d).lB+1)=V ⟨t,0,U,U,[[]]⟩->K (.g 0 (d,(aZ Y d).lB+1) 0 0) Y'):eV (oS t Y d) K:=by have b:oS t Y d=V (.g 0 (d,(aZ Y d).lB+1) 0 0,put Y d ⟨t,0,U,U,[[]]⟩):=(by simp[oS,vg,a,lA]);rw[b];exact c _ ⟨D3,λk f=>brT<|λe=>f<|by simp[e]⟩<|zQ a rfl
abbrev yG(l:List ByteArray):List (Value×Value):=l.map λn=>(.string n, .bool U)
theorem av7{a b:ByteArray}(h:a≠b):(a==b)=I:=by obtain⟨a⟩:=a;obtain⟨b⟩:=b;have:a≠b:=λe=>h (by rw[e]);show(a==b)=I;simp_all
def KU{s:ByteArray}:∀{l:List ByteArray} {i:Nat},s∉l->lg ⟨I,[], .bool I⟩ (.string s) (yG l) i=V J
 |[],_,_=>rfl
 |x::l,i,h=>by
  have a:(s==x)=I:=(by grind [av7])
  simp only[yG,ji,lg,pO,a]
  exact KU (by simp_all)
def aDr{Y:ae}{b:Id}{t:TypeId}{s:ByteArray}{l:List ByteArray}{o n:Nat}(a:box Y b=V ⟨t,0,U,U,[(yG l).map ent]⟩)(h:s∉l):oP ⟨I,[], .bool I⟩ Y (.g 0 b o n) (st s) I=V (bv I):=by simp only[oP,ww,a,qd,ul,awG,aNZ,KG,qR,KU h,eE,bhR]
def aEb{Y:ae}{b:Id}{t:TypeId}{s:ByteArray}{l:List ByteArray}{o n:Nat}{K:ae->Prop}(a:box Y b=V ⟨t,0,U,U,[(yG l).map ent]⟩)(h:s∉l)(c:∀Y',Fr Y Y' [b.1]->box Y' b=V ⟨t,0,U,U,[(yG<|l++[s]).map ent]⟩->K Y'):sV (muA ⟨I,[], .bool I⟩ Y (.g 0 b o n) (st s)<|bv U) K:=by simp only[muA,ww,a,ul,awG,aNZ,KG,qR,KU h];refine c _ ⟨uC,λk d=>wy<|λe=>d<|by simp[e]⟩ ?_;rw[lO a];simp
def aBJ{Y:ae}{ds:List Nat}{e:TypeId}{a:AV}{l:List ByteArray}{k:Nat}{K:o8}(b:Gr Y ds e 1 a<|l.map cs)(g:k<L l):(rV (cz 1 Y a<|iv k) λt=>rV (lS J Y t) K)=K (st<|gd l k):=by rcases b with⟨c,_⟩|⟨d,v,rfl,_,f⟩;simp_all;simp_all [cz,rV,lS,iE,aN,bT]
def avR{l:List ByteArray}{s:ByteArray}(h:¬0<=tX l s):s∉l:=by grind [decide,RM,tL,zz,tX]
def wB(w:vb)(vs:List ByteArray):List ByteArray:=vs++w.ak.map (·.name)++w.bC.map (·.name)++w.bU++w.ay
def NJ(w:vb)(vs:List ByteArray)(hp:(∀j,j<L (wB w vs)->yn (wB w vs) j=I)/\L (wB w vs)<=100):Ct 147 [.a w.c,sl cs vs] (·=bv U):=by refine aJZ rfl λs2 Z P h0=>?_;obtain⟨X,ah⟩:=hp;have ac:L vs+L w.ak+L w.bC+L w.bU+L w.ay<=100:=(by grind [wB,a6G,bJ]);simp only[aYH,↓uL];refine fP (aa:=[]) (ds:=[15,27,40,45,49]) (new:=vs.map cs) Gr.nil rfl (by decide) (by decide) (by omega) (by simp) oX (by simp;omega) λa0 N g0 z=>?_;have c0:box N (2,1)=_:=z.bt P;simp only[qz 4,u0,u1,c0,rk,aj,dc,cT,↓uL];refine iu (λa i=>[a,iv i]) 1 [15,27,40,45,49] [15,27,40,45,49,7] 9 1 (L w.ak) (λk=>(vs++(w.ak.take k).map (·.name)).map cs) (λ_=>True) trivial (by grind) λk a1 C ae _ g1 m=>?_;have F:box C (2,1)=_:=m.bt c0;have l1:L C=4096:=(by rw[m.1,z.1,Z]);simp only[qz 31,qy 6,aI,u0,u1,F,rk,aj,dc,ix,bh,au,gt1,cT,↓uL];refine⟨λt=>⟨vp t,?_⟩,λt=>?_⟩;refine eF rfl rfl (by decide) (by omega) λo d R=>?_;simp only[qz 8,qy 10,u0,u1,R,rk,aj,iz,au,↓uL];refine fP (g1.fr d<|by decide) rfl (by decide) (by decide) (by rw[d.1,l1];decide) oX (by simp) (by simp;omega) λO p H b=>?_;simp only[qz 12,au,gt1,cS,aY,↓uL];refine C0 (mk:=λa i=>[a,iv i]) (λ_ _=>rfl) (aL t) (by omega) trivial ?_ (m.trans<|(d.mono<|by decide).trans<|b.mono<|by decide);grind [Ez,aL];obtain rfl:k=L w.ak:=(by grind);rw[gV] at g1;refine iu (λa i=>[a,iv i]) 1 [15,27,40,45,49] [15,27,40,45,49,9] 9 1 (L w.bC) (λk=>(vs++w.ak.map (·.name)++(w.bC.take k).map (·.name)).map cs) (λ_=>True) trivial (by grind) λk a2 o af _ s d=>?_;have G:box o (2,1)=_:=d.bt F;have y:L o=4096:=(by rw[d.1,l1]);simp only[qz 73,qy 14,aI,u0,u1,G,rk,aj,dc,ix,bh,au,gt1,↓uL];refine⟨λu=>⟨vp u,?_⟩,λu=>?_⟩;refine eF rfl rfl (by decide) (by omega) λp b S=>?_;simp only[qz 16,qy 18,u0,u1,S,rk,aj,iz,au,↓uL];refine fP (s.fr b<|by decide) rfl (by decide) (by decide) (by rw[b.1,y];decide) oX (by simp) (by simp;omega) λD q K n=>?_;simp only[qz 20,au,gt1,cS,aY,↓uL];refine C0 (mk:=λa i=>[a,iv i]) (λ_ _=>rfl) (aL u) (by omega) trivial ?_ (d.trans<|(b.mono<|by decide).trans<|n.mono<|by decide);grind [Ez,aL];obtain rfl:k=L w.bC:=(by grind);rw[gV] at s;refine fP (new:=w.bU.map cs) s rfl (by decide) (by decide) (by omega) oX oX (by simp;omega) λO p H b=>?_;have T:box p (2,1)=_:=b.bt G;simp only[qz 22,qy 24,u0,u1,T,rk,aj,↓uL];refine fP (new:=w.ay.map cs) H rfl (by decide) (by decide) (by rw[b.1,y];decide) (by grind) oX (by simp;omega) λD q K n=>?_;have l4:L q=4096:=(by rw[n.1,b.1,y]);refine aD7 (by omega) λr A b5=>?_;have f:=K.fr A (by decide);rw[<-dg,<-dg] at f;change Gr r _ 9 1 D ((wB w vs).map cs) at f;have ag:L r=4096:=(by rw[A.1,l4]);generalize wB w vs=g at*;generalize(aZ q 50).lB+1=v at*;simp only[qz 26,aDk f,aY,bJ,↓uL];refine yV (L g) (λk _ Y'=>box Y' (50,v)=V ⟨276,0,U,U,[(yG<|g.take k).map ent]⟩/\Fr r Y' [50]) (by grind [Fr.refl]) ?_;rintro k _ Y6 hk ⟨E,B⟩;have W:=f.fr B (by decide);simp only[qz 133,aI,au,u0,u1,↓uL];refine⟨λh=>?_,λh=>trivial⟩;have e:=aL h;have x:=X k e;simp only[yn,cP,fK,aNG] at x;have l:=avR x.2;rw[aBJ W e];simp+contextual only[u0,u1,ar,rW,x.1,aDr E l,I9,↓uL];refine⟨λh=>(nomatch h),?_⟩;intro _;refine aEb E l λY7 M b7=>?_;simp only[qz 28,au,u0,u1,↓uL];refine yU e ⟨?_,B.trans M⟩;grind [iJ,bT]
def EX:FT:=aIc NJ
def axX{w vs Lw K}:=f210 EX NJ w vs Lw K (j:=by simp+contextual only[ij,j9])
def PY(w:vb)(s:mn)(d:fN w s=U/\L w.bC<=2):Ct 90 [.a w.c, .a s.c] (·=bv U):=by refine aMP rfl rfl λs0 l e f k=>?_;have b:=d.1;simp only[fN,bN,aBY] at b;obtain⟨g,h,i,j⟩:=b;simp+contextual only[akI,u0,u1,e,f,rk,ix,cT,aj,dc,ar,rW,g,h,i,j,d.2,awG,I9,↓uL];simp
def Gp:FT:=aIc PY
def azK{w s Lw K}:=f210 Gp PY w s Lw K (j:=by simp+contextual only[ij,j9])
def PT(w:vb)(s:mn)(d:fN w s=U/\L w.bC<=2):Ct 200 [.a w.c, .a s.c] (·=bv U):=by refine aMK rfl rfl λs0 l e f k=>?_;have b:=d.1;simp only[fN,bN,aBY] at b;obtain⟨g,h,i,j⟩:=b;simp+contextual only[akt,u0,u1,e,f,rk,ix,cT,aj,dc,ar,rW,g,h,i,j,d.2,awG,I9,↓uL];simp
def Gk:FT:=aIc PT
def azF{w s Lw K}:=f210 Gk PT w s Lw K (j:=by simp+contextual only[ij,j9])
def QO(w:vb)(s:aW)(t kind nt:Int):Bool:=
 bif Q (kind=6) then Q<|(gd s.ak nt.toNat).pw= -1
 else bif Q (kind=10) then Q ((gd s.ak nt.toNat).pw= -1)&&Q (L (gd s.ak nt.toNat).bk=0)
 else bif Q (kind=8) then Q ((gd s.ak nt.toNat).pw= -1)&&!Q (t∈(gd s.ak nt.toNat).bk)
 else bif Q (kind=7)||Q (kind=11) then Q ((gd s.ak nt.toNat).pw=t)
 else bif Q (kind=9) then Q<|t∈(gd s.ak nt.toNat).bk
 else bif Q (kind=12) then Q<|s.tx= -1
 else bif Q (kind=13) then Q<|s.tx=t
 else bif Q (kind=14) then !(gd s.ay t.toNat).atomic
 else bif Q (kind=15) then(gd s.ay t.toNat).atomic
 else bif Q (kind=16)||(Q (kind=18)||Q (kind=19)) then Q ((gd s.ak (gd w.bC nt.toNat).eg.toNat).pw=t)
 else bif Q (kind=20) then Q (nt≠t)&&Q ((gd s.ay nt.toNat).cQ=0)
 else bif Q (kind=21) then Q (nt≠t)&&Q ((gd s.ay nt.toNat).cQ=5)
 else bif Q (kind=22) then !(gd s.done nt.toNat)
 else bif Q (kind=23) then gd s.done nt.toNat
 else U
def axG{w:vb}{s:aW}{t kind nt:Int}:lc w s t kind nt=bif Q (kind=1) then Q ((gd s.ay t.toNat).cQ=1)
 else bif Q (kind=17) then Q ((gd s.ay t.toNat).cQ=4)&&(Q ((gd s.ay t.toNat).cond=nt)&&Q ((gd s.ak (gd w.bC nt.toNat).eg.toNat).pw= -1))
 else bif Q ((gd s.ay t.toNat).cQ≠2) then I else QO w s t kind nt:=rfl
structure KF(w:vb)(s:aW)(kind nt:Int):Prop where
 mI:aF (L w.bC) nt->aF (L s.ak) (gd w.bC nt.toNat).eg
 lk:6<=kind->kind<=11->aF (L s.ak) nt
 cd:16<=kind->kind<=19->aF (L w.bC) nt
 th:20<=kind->kind<=21->aF (L s.ay) nt
 dn:22<=kind->kind<=23->aF (L s.done) nt
def D0{w:vb}{s:aW}{kind nt:Int}(c:lh w s=U)(f:named w kind nt=U):KF w s kind nt:=by obtain⟨a,b,d,e⟩:=iY c;exact⟨λh=>by rw[b];exact a _<|ii h,(by grind [mJ]),(by grind [oT]),(by grind [Eb]),by grind [oU]⟩
def byR(w:vb)(s:aW)(t kind nt:Int)(o:lh w s=U/\named w kind nt=U/\aF (L s.ay) t/\(∀l∈s.ak,L l.bk<100000)):Ct 227 [.a w.c, .a s.c,iv t,iv kind,iv nt] (·=bv (QO w s t kind nt)):=by refine aK9 rfl rfl λE C j k B=>?_;obtain⟨m,n,f,y⟩:=o;obtain⟨v,D,z,F,A⟩:=D0 m n;have p:Q (kind=6)=U->aF (L s.ak) nt:=(by simp_all);have g:Q (kind=10)=U->aF (L s.ak) nt:=(by simp_all);have r:Q (kind=8)=U->aF (L s.ak) nt:=(by simp_all);have u:Q (kind=9)=U->aF (L s.ak) nt:=(by simp_all);have q:(Q (kind=7)||Q (kind=11))=U->aF (L s.ak) nt:=(by grind);have b:(Q (kind=16)||(Q (kind=18)||Q (kind=19)))=U->aF (L w.bC) nt:=(by grind);have h:Q (kind=20)=U->aF (L s.ay) nt:=(by simp_all);have i:Q (kind=21)=U->aF (L s.ay) nt:=(by simp_all);have d:Q (kind=22)=U->aF (L s.done) nt:=(by simp_all);have e:Q (kind=23)=U->aF (L s.done) nt:=(by simp_all);have x:aF (L s.ak) nt->L (gd s.ak nt.toNat).bk<4611686018427387904:=(by grind [ii]);have e0:(L (gd s.ak nt.toNat).bk:Int)=0↔L (gd s.ak nt.toNat).bk=0:=(by omega);simp only[abG,↓uL];simp+contextual (maxSteps:=3000000) only[aOe,qz 137,qz 135,qz 59,qz 57,sw,aI,au,↓iC,↓iB,↓iS,u0,u1,rW,ar,j,k,rk,ix,cT,aj,↓uL];simp+contextual (maxSteps:=3000000) only[QO,aNV,aPy,v,p,q,r,u,g,b,h,i,d,e,x,e0,f,I9,aNR,NA,awG,Bool.true_or,lG,wY,kz,sr,eE,aNU];done
def Fu:FT:=bpg byR
def ayv{w s t kind nt Lw K}:=KQ Fu byR w s t kind nt Lw K (j:=by simp+contextual only[ij,j9])
structure nK(x:jY):Prop where
 wo:kB x.w
 ss:x.ss=(aH<|L x.w.ac).map λk=>(cY x.w k).mp
def nK.at{x:jY}(h:nK x){k:Nat}(a:k<L x.w.ac):gd x.ss k=(cY x.w k).mp/\k<L x.ss:=by grind [nK.ss,bT]
theorem qI{n:Nat}{i:Int}(h:aF n i):i.toNat<n:=by have:=h.1;have:=h.2;omega
def nK.ix{x:jY}(h:nK x){i:Int}(a:aF (L x.w.ac) i):aF (L x.ss) i/\gd x.ss i.toNat=(cY x.w i.toNat).mp:=by have b:=h.at (qI a);refine⟨⟨a.1,?_⟩,b.1⟩;omega
def nK.kf{x:jY}(h:nK x){i j:Int}(b:aF (L x.w.ac) i)(c:aF (L x.w.ac) j):KF x.w.aQ (cY x.w j.toNat).mp (gd x.w.ac i.toNat).kind (gd x.w.ac i.toNat).nt:=by have a:=(h.wo.st _<|qI c).2;simp only[fN,bN] at a;exact D0 a.1 (h.wo.named<|qI b).1
def sG{x:jY}{Y:ae}:dG Y (.a x.c)= .a x.c:=rfl
def Of(x:jY)(i j:Int)(G:kB x.w/\aF (L x.w.ac) i/\aF (L x.w.ac) j/\i<j/\nh (gd x.w.ac i.toNat) (gd x.w.ac j.toNat)=U):Ct 153 [.a x.c,iv i,iv j] (·=bv (Q ((gd x.w.ac i.toNat).aq≠(gd x.w.ac j.toNat).aq)&&!(gd x.w.aQ.cells (gd x.w.ac i.toNat).nt.toNat).vol)):=by refine aKP rfl λH e s N=>?_;obtain⟨O,E,F,K,n⟩:=G;have v:box H (3,1)=V ⟨174,16,U,U,[x.w.c++[sl aW.c x.ss]]⟩:=s;have p:aN (V 16) (x.w.c++[sl aW.c x.ss])=V (.a x.c):=rfl;simp+contextual only[Z7,u0,u1,v,p,fi,qz 4,ar,sG,rW,kj,ix,rk,aj,E,F,I9,↓uL];have m:([i,j].all λi=>dh i<|L x.w.ac)=U:=(by grind [dX]);have o:Q (j<=i)=I:=(by simp;omega);rw[m,o,n];refine⟨by simp,λh=>(nomatch h),λ_=>?_⟩;refine mo e λM f t=>?_;simp only[qz 6,↓uL];refine mo (f.1.trans e) λq b u=>?_;simp only[qz 8,↓uL];have y:box q (7,_)=_:=b.bt t;refine gN (cs:=aP.c<|gd x.w.ac i.toNat) y (by rw[b.1,f.1,e];decide) rfl rfl λr g z=>?_;have A:box r (8,_)=_:=g.bt u;simp only[qz 10,↓uL];refine gN (cs:=aP.c<|gd x.w.ac j.toNat) A (by rw[g.1,b.1,f.1,e];decide) rfl rfl λl k D=>?_;have C:box l (7,_)=_:=k.bt z;have B:box l (3,1)=V ⟨174,16,U,U,[x.w.c++[sl aW.c x.ss]]⟩:=k.bt (g.bt<|b.bt<|by grind [Fr.box]);simp only[qz 12,↓uL];refine dT rfl ?_;have d:aF (L x.w.aQ.cells) (gd x.w.ac i.toNat).nt:=(by simp only[nh,bN,tT,fH,aBY] at n;grind [qP,kB.named,qI]);simp+contextual only[u0,u1,B,C,D,kj,rk,ix,aj,d,NA,I9,↓uL];done
def Ff:FT:=qe Of
def ayg{x i j Lw K}:=sT Ff Of x i j Lw K (j:=by simp+contextual only[ij,j9])
def Oa(x:jY)(j i:Int)(hp:nK x/\aF (L x.w.ac) i/\aF (L x.w.ac) j/\wW (gd x.w.ac j.toNat).kind=U):Ct 206 [.a x.c,iv j,iv i] (·=bv (aOj x.w j i)):=by refine aKK rfl λs2 n Z h0=>?_;obtain⟨A,G,u,F⟩:=hp;have bb:box s2 (3,1)=V ⟨174,16,U,U,[x.w.c++[sl aW.c x.ss]]⟩:=Z;simp+contextual only[ZH,u0,u1,bb,kj,ix,rk,aj,G,u,I9,↓uL];refine mo n λP o b2=>?_;simp only[qz 4,↓uL];refine mo (o.1.trans n) λR f b3=>?_;simp only[qz 6,↓uL];have c2:box R (7,_)=_:=f.bt b2;refine gN (cs:=aP.c<|gd x.w.ac i.toNat) c2 (by rw[f.1,o.1,n];decide) rfl rfl λS q d2=>?_;have d3:box S (8,_)=_:=q.bt b3;simp only[qz 8,↓uL];refine gN (cs:=aP.c<|gd x.w.ac j.toNat) d3 (by rw[q.1,f.1,o.1,n];decide) rfl rfl λr z D=>?_;have e2:box r (7,_)=_:=z.bt d2;have e1:box r (3,1)=V ⟨174,16,U,U,[x.w.c++[sl aW.c x.ss]]⟩:=z.bt (q.bt<|f.bt<|by grind [Fr.box]);simp only[qz 10,↓uL];refine dT rfl ?_;simp+contextual only[u0,u1,e2,D,rk,ar,rW,aj,F,aOe,qz 41,qz 53,qz 51,qz 39,qy 12,aI,au,gt1,e1,kj,ix,ND,sr,eE,aNU,aOw,aNR,↓uL];obtain⟨W,X⟩:=A.ix u;obtain⟨M,C,cd,th,dn⟩:=A.kf G u;have hL:L r=4096:=(by rw[z.1,q.1,f.1,o.1,n]);have H:∀l∈(cY x.w j.toNat).mp.ak,L l.bk<100000:=(A.wo.st _<|qI u).1.1;have key:∀{m:Int} {K:be},aF (L (cY x.w j.toNat).mp.ak) m->(∀(y:ae) (v:Nat),box y (8,(aZ P 8).lB+1)=V ⟨87,7,U,U,[aP.c<|gd x.w.ac j.toNat]⟩->box y (11,v)=V ⟨186,2,U,U,[cg.c<|gd (cY x.w j.toNat).mp.ak m.toNat]⟩->L (gd (cY x.w j.toNat).mp.ak m.toNat).bk<100000->K (.p (11,v) 0 0) y)->eV (alA 186 aPz r 11) λy N=>sV (aK 2 N y<|AV.a (gd (cY x.w j.toNat).mp.ak m.toNat).c) (K y):=(by intro m K hm h;exact eF rfl rfl (by decide) (by omega) λT O b=>h T _ (O.bt D) b<|H _<|ii hm);rw[X] at*;simp only[W,I9];simp only[wW] at F;refine⟨(by grind [aOj]),λh=>⟨λs=>?_,λs=>⟨λe=>?_,λe=>⟨λt=>?_,λt=>⟨λg=>?_,λg=>⟨λE=>?_,λE=>?_⟩⟩⟩⟩⟩⟩;have k:=aNK s;have:=C (by omega) (by omega);refine⟨this,key this λy v d b B=>?_⟩;simp+contextual only[qz 14,u0,u1,b,d,rk,ar,rW,aj,au,gt1,↓uL];exact⟨λ_=>by omega,by grind [aOj]⟩;have k:=aNK e;have:=C (by omega) (by omega);refine⟨this,key this λy v d b B=>?_⟩;simp+contextual only[qz 14,u0,u1,b,d,rk,ar,rW,aj,au,gt1,↓uL];exact⟨λ_=>by omega,by grind [aOj]⟩;have k:=aNK t;have:=C (by omega) (by omega);refine⟨this,key this λy v d b B=>?_⟩;simp+contextual only[qz 14,u0,u1,b,d,rk,ar,rW,aj,au,gt1,↓uL];refine⟨λ_=>by omega,?_⟩;rw[aOj,h,s,e,t];(cases Q ((gd (cY x.w j.toNat).mp.ak (gd x.w.ac i.toNat).nt.toNat).pw=(gd x.w.ac j.toNat).aq)<;>simp[jA,jN,uO,aY,↓uL]<;>first|exact⟨rfl,rfl⟩|rfl);have k:=aNK g;have:=cd (by omega) (by omega);refine⟨this,M this,key (M this) λy v d b B=>?_⟩;simp+contextual only[qz 14,u0,u1,b,d,rk,ar,rW,aj,au,gt1,↓uL];refine⟨λ_=>by omega,?_⟩;rw[aOj,h,s,e,t,g];(cases Q ((gd (cY x.w j.toNat).mp.ak (gd x.w.aQ.bC (gd x.w.ac i.toNat).nt.toNat).eg.toNat).pw=(gd x.w.ac j.toNat).aq)<;>simp[jA,jN,uO,aY,↓uL]<;>first|exact⟨rfl,rfl⟩|rfl);grind [aOj];grind [aOj]
def E8:FT:=qe Oa
def ayc{x j i Lw K}:=sT E8 Oa x j i Lw K (j:=by simp+contextual only[ij,j9])
def slE{l:List aP}{i j:Int}{Y:ae}{K:o8}:rV (fo 7 Y (sl aP.c l) (V<|iv i) (V<|iv j) J) K=((0<=i/\i<=j/\j<=L l)/\K (sl aP.c<|(l.take j.toNat).drop i.toNat)):=by simp only[fo,lM,sl];by_cases a:0<=i;by_cases d:0<=j;simp only[a,d,aNZ,qY,Option.getD_none,mi,bJ,I9];by_cases e:i<=j/\j<=L l;have b:i.toNat<=j.toNat/\j.toNat<=L l:=(by omega);rw[J9 ⟨b.1,b.2,by simp[aP.c]⟩];simp only[aNZ,rV,e,awG,I9,kM];grind [aP.c,List.map_drop,List.map_take,List.drop_take];grind [rV];grind [rV];simp[a,rV]
def ams{l:List aP}{i j k:Nat}(a:j<=L l)(b:k<L ((l.take j).drop i)):gd ((l.take j).drop i) k=gd l (i+k)/\i+k<j:=by grind [List.length_drop,gC,Nat.min_eq_left,bT]
def NZ(x:jY)(i j:Int)(A:nK x/\aF (L x.w.ac) i/\aF (L x.w.ac) j/\i<j/\(gd x.w.ac j.toNat).aq=(gd x.w.ac i.toNat).aq/\(gd (cY x.w i.toNat).mp.ay (gd x.w.ac i.toNat).aq.toNat).atomic=U/\(∀k,k<j.toNat->i.toNat<=k->((gd x.w.ac k).aq≠(gd x.w.ac i.toNat).aq\/(gd x.w.ac k).kind≠15))):Ct 157 [.a x.c,iv i,iv j] (·=bv U):=by refine aKJ rfl λB z t K=>?_;obtain⟨d,b,m,D,o,f,C⟩:=A;have v:box B (3,1)=V ⟨174,16,U,U,[x.w.c++[sl aW.c x.ss]]⟩:=t;obtain⟨r,s⟩:=d.ix b;have O:=d.wo.ev;have p:aF (L (cY x.w i.toNat).mp.ay) (gd x.w.ac i.toNat).aq:=(by have e:=(d.wo.st _<|qI b).2;simp only[fN,bN] at e;rw[(iY e.1).2.2.2];exact(d.wo.named<|qI b).2);have l:Q (j<=i)=I:=(by simp;omega);have q:dq.wrap (i+1)=i+1:=(by have:=b.1;have:=b.2;grind [eM]);have g:0<=i+1/\i+1<=j/\j<=L x.w.ac:=(by have:=b.1;have:=m.2;omega);have n:Q ((gd x.w.ac j.toNat).aq≠(gd x.w.ac i.toNat).aq)=I:=(by simp[o]);simp+contextual only[Ie,u0,u1,v,kj,ix,ND,rk,aj,dc,b,m,r,s,p,l,f,q,slE,g,n,fh,kz,lG,eE,aNU,aOw,NA,I9,cT,↓uL];refine pQ (L<|(x.w.ac.take j.toNat).drop (i+1).toNat) [9] (λk=>True) trivial λk Y N M y=>?_;simp+contextual only[qz 43,qy 4,u0,u1,ix,rk,bh,au,aI,aj,↓uL];have E:L ((x.w.ac.take j.toNat).drop (i+1).toNat)<=16:=(by simp;omega);refine⟨λh=>⟨vp h,?_⟩,λh=>trivial⟩;obtain⟨g1,H⟩:=ams (by omega)<|aL h;refine eF rfl rfl (by decide) (by rw[y.1,z];decide) λG F u=>?_;simp+contextual only[qz 6,qz 43,qy 4,Ie,u0,u1,u,rk,aj,au,↓uL];grind [oL,aL,Fr.trans]
def E7:FT:=qe NZ
def ayb{x i j Lw K}:=sT E7 NZ x i j Lw K (j:=by simp+contextual only[ij,j9])
def Oe(x:jY)(i j:Int)(hp:nK x/\aF (L x.w.ac) i/\aF (L x.w.ac) j/\j<i/\((gd x.w.ac i.toNat).kind=18\/(gd x.w.ac i.toNat).kind=19)/\(gd x.w.ac j.toNat).kind=16/\(gd x.w.ac i.toNat).nt=(gd x.w.ac j.toNat).nt/\(gd x.w.ac i.toNat).aq≠(gd x.w.ac j.toNat).aq/\(∀k,k<i.toNat->j.toNat<k->(gd x.w.ac k).aq≠(gd x.w.ac j.toNat).aq)/\(gd (cY x.w i.toNat).mp.ay (gd x.w.ac j.toNat).aq.toNat).cQ=3/\((gd x.w.ac i.toNat).kind=19\/(gd x.w.ac i.toNat).value=(gd x.w.ac j.toNat).aq)):Ct 155 [.a x.c,iv i,iv j] (·=bv U):=by refine aKO rfl λE e O h0=>?_;obtain⟨m,n,b,ak,al,am,ao,av,A,ap,hv⟩:=hp;have T:box E (3,1)=V ⟨174,16,U,U,[x.w.c++[sl aW.c x.ss]]⟩:=O;obtain⟨a1,a2⟩:=m.ix n;have hw:=m.wo.ev;have aw:aF (L (cY x.w i.toNat).mp.ay) (gd x.w.ac j.toNat).aq:=(by have v:=(m.wo.st _<|qI n).2;simp only[fN,bN] at v;rw[(iY v.1).2.2.2];exact(m.wo.named<|qI b).2);have C:aN (V 16) (x.w.c++[sl aW.c x.ss])=V (.a x.c):=rfl;have y:([i,j].all λi=>dh i<|L x.w.ac)=U:=(by grind [dX]);have B:Q (i<=j)=I:=(by simp;omega);have D:dq.wrap (j+1)=j+1:=(by have:=b.1;have:=b.2;grind [eM]);have z:0<=j+1/\j+1<=i/\i<=L x.w.ac:=(by have:=b.1;have:=n.2;omega);simp+contextual only[ZZ,u0,u1,T,C,fi,qz 4,ar,sG,rW,kj,ix,rk,aj,n,b,I9,↓uL];rw[y,B];refine⟨by simp,λh=>(nomatch h),λ_=>?_⟩;refine mo e λH f P=>?_;simp only[qz 6,↓uL];refine mo (f.1.trans e) λK d R=>?_;simp only[qz 8,↓uL];have W:box K (7,_)=_:=d.bt P;refine gN (cs:=aP.c<|gd x.w.ac i.toNat) W (by rw[d.1,f.1,e];decide) rfl rfl λM g X=>?_;have Z:box M (8,_)=_:=g.bt R;simp only[qz 10,↓uL];refine gN (cs:=aP.c<|gd x.w.ac j.toNat) Z (by rw[g.1,d.1,f.1,e];decide) rfl rfl λp o t=>?_;have s:box p (7,_)=_:=o.bt X;have r:box p (3,1)=V ⟨174,16,U,U,[x.w.c++[sl aW.c x.ss]]⟩:=o.bt (g.bt<|d.bt<|by grind [Fr.box]);simp only[qz 12,↓uL];refine dT rfl ?_;have q:(Q ((gd x.w.ac i.toNat).kind≠18)&&Q ((gd x.w.ac i.toNat).kind≠19)||Q ((gd x.w.ac j.toNat).kind≠16)||Q ((gd x.w.ac i.toNat).nt≠(gd x.w.ac j.toNat).nt)||Q ((gd x.w.ac i.toNat).aq=(gd x.w.ac j.toNat).aq))=I:=(by grind);simp+contextual only[u0,u1,r,s,t,kj,rk,ix,aj,q,eE,aNU,aOw,I9,D,slE,z,cT,↓uL];generalize(aZ H 8).lB+1=F at*;generalize(aZ E 7).lB+1=v7 at*;have hL:L p=4096:=(by rw[o.1,g.1,d.1,f.1,e]);refine pQ (L<|(x.w.ac.take i.toNat).drop (j+1).toNat) [10] (λk=>True) trivial λk Y hk hc l=>?_;have f1:box Y (3,1)=_:=l.bt r;have f2:box Y (7,v7)=_:=l.bt s;have u:box Y (8,F)=_:=l.bt t;have an:L ((x.w.ac.take i.toNat).drop (j+1).toNat)<=16:=(by simp;omega);simp+contextual only[qz 61,qy 14,u0,u1,f1,f2,u,kj,ix,ND,rk,bh,au,aI,aj,↓uL];refine⟨λh=>⟨vp h,?_⟩,λh=>?_⟩;obtain⟨g1,g2⟩:=ams (by omega)<|aL h;refine eF rfl rfl (by decide) (by rw[l.1,hL];decide) λN G S=>?_;have h3:box N (8,F)=_:=G.bt u;simp+contextual only[qz 16,u0,u1,S,h3,rk,aj,au,↓uL];rw[g1];have:=A ((j+1).toNat+k) g2 (by have:=b.1;omega);grind [oL,aL,Fr.trans];simp_all
def Fc:FT:=qe Oe
def al5{x i j Lw K}:=sT Fc Oe x i j Lw K (j:=by simp+contextual only[ij,j9])
def Ob(x:jY)(g:cJ)(n:kB x.w/\aF (L x.w.ac) g.ea/\aF (L x.w.ac) g.eb/\aF (L x.w.ac) g.ec/\aF (L x.w.ac) g.ed/\g.ec<=g.ed/\(rP x.w g).aq=(xI x.w g).aq/\(rP x.w g).aq≠(jn x.w g).aq/\nh (jn x.w g) (rP x.w g)=U/\nh (xI x.w g) (mB x.w g)=U):Ct 158 [.a x.c, .a g.c] (·=bv U):=by refine aKL rfl rfl λs u i j t=>?_;obtain⟨v,o,p,q,r,d,f,h,l,m⟩:=n;have k:box s (2,1)=V ⟨174,16,U,U,[x.w.c++[sl aW.c x.ss]]⟩:=i;have e:aN (V 16) (x.w.c++[sl aW.c x.ss])=V (.a x.c):=rfl;have b:¬(gd x.w.ac g.ed.toNat).aq=(gd x.w.ac g.ea.toNat).aq:=f▸h;simp+contextual only[ZQ,u0,u1,k,j,e,ar,sG,rW,kj,ix,rk,aj,o,p,q,r,d,f,b,l,m,I9,bnq,byX,aPI,NA,awG,↓uL];done
def E9:FT:=aIc Ob
def ayd{x g Lw K}:=f210 E9 Ob x g Lw K (j:=by simp+contextual only[ij,j9])
def Dq{b:Bool}{A:(be)->Prop}{Y:ae}{K:be}(a:b=U->A K)(c:b=I->K (.t []) Y):gF b A Y K:=by(cases b);exact c rfl;exact a rfl
def Bc{a:AV}{b:Bool}:mL (bv I) a (bv b)=V (bv b):=rfl
def Dc{Y:ae}{d:Nat}{K:be}{b:Id}{w:am}{t:Int}(g:box Y b=V ⟨43,15,U,U,[w.c]⟩)(i:L Y=4096)(e:K (bv<|nO w t) Y):cF (.f 151 [] [.p b 0 0]) [iv t] Y d K:=by simp only[cF,bqK];rw[J7 (show¬GG.nw 151=U by decide),J9<|show GG.imp 151=U by decide];refine(aS2 rfl (aMT i ?_) e:cB 151 [iv t, .p b 0 0] Y d K);simp+contextual only[aV0,u0,u1,g,rk,ix,cT,aj,dc,fe,aoz,↓uL];refine⟨λh=>?_,?_,Fx.refl _ _⟩;intro a;exact⟨by simpa using h,by simpa using a⟩;simp[nO,dh,BI]
def Qa(w:am)(X:ny w=U/\L w.init.mp.ak=L w.aQ.ak/\L w.aQ.ak<=4/\L w.init.mp.ay<=4/\(∀l∈w.init.mp.ak,L l.bk<=100)):Ct 93 [.a w.c] (·=bv U):=by refine aMS rfl λs2 W M h0=>?_;obtain⟨z,Z,aa,ab,B⟩:=X;simp only[ny,bN,aBY,eH] at z;obtain⟨R,o,S⟩:=z;simp+contextual only[akU,u0,u1,M,rk,aj,dc,cT,↓uL];refine pQ (L w.init.mp.ak) [5] (λk=>True) trivial λk Y hk hc P=>?_;have r:box Y (1,1)=V ⟨43,15,U,U,[w.c]⟩:=(by grind [Fr.box]);have f:L Y=4096:=(by rw[P.1,W]);simp+contextual only[qz 25,qy 4,u0,u1,r,ix,rk,bh,au,aI,aj,dc,cT,↓uL];refine⟨λh=>⟨vp h,?_⟩,λh=>?_⟩;(focus refine eF rfl rfl (by decide) (by omega) λq F y=>?_;have t:box q (1,1)=V ⟨43,15,U,U,[w.c]⟩:=(by grind [Fr.box]);have j:L q=4096:=(by rw[F.1,f]);have A:=R k<|aL h;obtain⟨e,C⟩:=A;simp only[AM,cP] at e;simp+contextual only[qz 6,u0,u1,y,rk,aj,au,↓uL];have ac:L (gd w.init.mp.ak k).bk<=100:=B _<|dB<|aL h;have E:Q (0<(L (gd w.init.mp.ak k).bk:Int))=U->aF (L w.aQ.ak) (k:Int):=(by grind [dJ,aL]);have n:=e.2;refine Dq (λb=>Dc t j ?_) (λb=>?_);all_goals simp+contextual only[u0,u1,y,t,rk,ix,aj,au,cT,b,jN,Bc,↓uL];rw[b] at e n;refine⟨λg=>?_,λ_=>⟨E,λg=>?_,λ_=>?_⟩⟩;(first|cases g|simp[g] at e);(try simp only[kz] at n);rw[bh] at g;rw[g] at n;cases n;refine jD (α:=Int) (λa i=>[iv a,iv i]) 1 (L (gd w.init.mp.ak k).bk) (λi a Y'=>(a=if i=0 then-1 else gd (gd w.init.mp.ak k).bk (i-1))/\Y'=q) (s0:= -1) ⟨by simp,rfl⟩ ?_;rintro i _ _ T ⟨rfl,rfl⟩;simp+contextual only[qz 103,aI,u0,u1,ix,rk,bh,au,gt1,↓uL];refine⟨λd=>⟨vp d,?_⟩,λd=>?_⟩;obtain⟨v,r2⟩:=C i<|aL d;have u:Q (gd (gd w.init.mp.ak k).bk i<=if i=0 then-1 else gd (gd w.init.mp.ak k).bk (i-1))=I:=(by simp only[nO,bN] at v;have:=(dX.1 v.1).1;grind);refine Dq (λb=>Dc t j ?_) (by grind);simp+contextual only[u0,u1,au,gt1,u,v,fh,kN,jA,qE,kz,eE,aNU,aOw,I9,↓uL];refine dR (mk:=λa i=>[iv a,iv i]) (p:=1) (s:=if i=0 then-1 else gd (gd w.init.mp.ak k).bk (i-1)) (s':=gd (gd w.init.mp.ak k).bk i) (λ_ _=>rfl) (aL d) (by omega) ?_;simp;grind [oL,aL,Fr.trans]);(focus simp only[yS] at o;refine Dq (λb=>Dc r f ?_) (λb=>?_);all_goals rw[b] at o;(try simp only[iw,fK] at o);simp+contextual only[u0,u1,r,rk,aj,dc,cT,b,o,fh,jN,Bc,eE,aNU,aOw,I9,↓uL];refine pQ (L w.init.mp.ay) [10] (λk=>True) trivial λi H T _ x=>?_;have e1:box H (1,1)=V ⟨43,15,U,U,[w.c]⟩:=(by grind [Fr.box]);simp+contextual only[qz 181,qy 14,aI,u0,u1,ix,rk,bh,au,↓uL];refine⟨λd=>⟨vp d,?_⟩,λ_=>trivial⟩;refine eF rfl rfl (by decide) (by rw[x.1,f];decide) λK G N=>?_;have O:box K (1,1)=V ⟨43,15,U,U,[w.c]⟩:=(by grind [Fr.box]);have D:=S i<|aL d;simp only[pX,bN,eH] at D;have m:=D.1;simp+contextual only[qz 16,u0,u1,N,rk,aj,au,↓uL];refine Dq (λb=>Dc O (by rw[G.1,x.1,f]) ?_) (λb=>?_);rw[b] at m;simp only[iw,fK] at m;simp+contextual only[u0,u1,b,m,fh,eE,aNU,aOw,I9,↓uL];grind [oL,aL,Fr.trans];simp+contextual only[u0,u1,b,jN,Bc,eE,aNU,aOw,I9,↓uL];grind [oL,aL,Fr.trans])
def Gt:FT:=mT Qa
def azN{w Lw K}:=f110 Gt Qa w Lw K (j:=by simp+contextual only[ij,j9])
def apk:dO:=(147,EX)::(90,Gp)::(200,Gk)::(227,Fu)::(153,Ff)::(206,E8)::(157,E7)::(155,Fc)::(158,E9)::(93,Gt)::apj
def Rd:eJ apk:=it (aCb NJ)<|it (aCb PY)<|it (aCb PT)<|it (Rt byR)<|it (tE Of)<|it (tE Oa)<|it (tE NZ)<|it (tE Oe)<|it (aCb Ob)<|it (pg Qa)<|rf
def aBm:=ai @axX<|ai @azK<|ai @azF<|ai @ayv<|ai @ayg<|ai @ayc<|ai @ayb<|ai @al5<|ai @ayd<|ai @azN<|@rW
def Sv a s0 R:=(.mk _:NR apk at1 Tryz.f285 [a] [] s0 R).p
def aJV{a:AV}{R:o8}(h:H0 λs0=>Sv a s0 R):Ct 285 [a] R:=z0 at1 Rd Tryz.func285 h
def atx:=bA 11 [(1,([0,2],[])),(4,([0,2],[])),(7,([0,2],[]))]
def aaz a s0 R:=(.mk _:NR apk atx Tryz.f268 [a] [] s0 R).p
def aKY{a:AV}{R:o8}(h:H0 λs0=>aaz a s0 R):Ct 268 [a] R:=z0 atx Rd Tryz.func268 h
def brH(x:Int):Ct 285 [iv x] (·=bv I):=by refine aJV λs0 b a=>?_;simp only[Sv,u0,u1,bnq,bAR,aPF,↓uL]
def BO:FT:=lH brH
def axT{x Lw K}:=f100 BO brH x Lw K
def avZ{a b:Int}:wl .geq 0 [] (.s<|.int .u64 a) (.s<|.int .u64 b)=V (bv<|Q<|b<=a):=rfl
def Oo(n:Int)(g:0<=n/\n<=12):Ct 268 [.s<|.int .u64 n] (λr=>∃k:Int,r=iv k):=by refine aKY λs0 f e=>?_;obtain⟨m,rfl⟩:∃m:Nat,n=m:=⟨n.toNat,by omega⟩;have d:m<=12:=(by omega);have a:Q (4294967296<=(m:Int))=I:=(by simp;omega);have b:Q (65536<=(m:Int))=I:=(by simp;omega);have c:Q (256<=(m:Int))=I:=(by simp;omega);simp+contextual only[qz 45,qz 47,qz 27,qz 29,qz 9,qz 11,aaz,aOe,u0,avZ,au,gt1,a,b,c,aI,↓iB,eE,aNU,aOw,I9,↓uL];match m,d with|0,_=>exact⟨rfl,_,rfl⟩|1,_=>exact⟨rfl,_,rfl⟩|2,_=>exact⟨rfl,_,rfl⟩|3,_=>exact⟨rfl,_,rfl⟩|4,_=>exact⟨rfl,_,rfl⟩|5,_=>exact⟨rfl,_,rfl⟩|6,_=>exact⟨rfl,_,rfl⟩|7,_=>exact⟨rfl,_,rfl⟩|8,_=>exact⟨rfl,_,rfl⟩|9,_=>exact⟨rfl,_,rfl⟩|10,_=>exact⟨rfl,_,rfl⟩|11,_=>exact⟨rfl,_,rfl⟩|12,_=>exact⟨rfl,_,rfl⟩
def Fo:FT:=om Oo
def ayo{n Lw K}:=f111 Fo Oo n Lw K
def apm:dO:=(285,BO)::(268,Fo)::apk
def Re:eJ apm:=it (nH brH)<|it (rj Oo)<|Rd
def La:=ai @axT<|ai @ayo<|@aBm
def Su a b s0 R:=(.mk _:NR apm at1 Tryz.f264 [a,b] [] s0 R).p
def aJU{a b:AV}{R:o8}(h:H0 λs0=>Su a b s0 R):Ct 264 [a,b] R:=z0 at1 Re Tryz.func264 h
def atw:=bA 4 []
def aay a s0 R:=(.mk _:NR apm atw Tryz.f229 [a] [] s0 R).p
def aKX{a:AV}{R:o8}(h:H0 λs0=>aay a s0 R):Ct 229 [a] R:=z0 atw Re Tryz.func229 h
def NE(x y:Int):Ct 264 [iv x,iv y] (·=bv (Q<|x<y)):=by refine aJU λs0 b a=>?_;simp+contextual only[Su,u0,u1,ar,La,kN,kM,lG,jN,jA,qE,Bc,↓uL]
def BN:FT:=lI NE
def axS{x y Lw K}:=f200 BN NE x y Lw K
def Om(n:Int)(a:0<=n/\n<=12):Ct 229 [.s<|.int .u64 n] (λr=>∃k:Int,r=iv k):=by refine aKX λs0 c b=>?_;simp+contextual only[aay,u0,u1,ar,La,eE,aNU,aOw,I9,↓uL];refine⟨a,?_⟩;rintro r ⟨k,rfl⟩;exact⟨.inl rfl,rfl,k,rfl⟩
def Fm:FT:=om Om
def ayn{n Lw K}:=f111 Fm Om n Lw K
def apn:dO:=(264,BN)::(229,Fm)::apm
def wR:eJ apn:=it (nI NE)<|it (rj Om)<|Re
def ut:=ai @axS<|ai @ayn<|@La
def au5:=bA 23 [(6,([3],[0])),(14,([3,5],[0,4])),(17,([3],[0,4,5]))]
def JN a s0 R:=(.mk _:NS apn au5 Tryz.f186 [a] [] s0 R).p
def aMy{a:AV}{s0:ae}{R:be}(b:L s0=4096)(h:JN a s0 R):EB 186 [a] s0 R:=zB au5 wR Tryz.func186 h
def avb:=bA 10 [(1,([6],[0,1,2])),(6,([7],[0,1,2,6]))]
def JT a b c s0 R:=(.mk _:NS apn avb Tryz.f258 [a,b,c] [] s0 R).p
def aME{a b c:AV}{s0:ae}{R:be}(d:L s0=4096)(h:JT a b c s0 R):EB 258 [a,b,c] s0 R:=zB avb wR Tryz.func258 h
def JQ a b s0 R:=(.mk _:NS apn au9 Tryz.f230 [a,b] [] s0 R).p
def aMB{a b:AV}{s0:ae}{R:be}(c:L s0=4096)(h:JQ a b s0 R):EB 230 [a,b] s0 R:=zB au9 wR Tryz.func230 h
def Ij a b s0 R:=(.mk _:NS apn at1 Tryz.f188 [a,b] [] s0 R).p
def aK2{a b:AV}{s0:ae}{R:be}(c:L s0=4096)(h:Ij a b s0 R):EB 188 [a,b] s0 R:=zB at1 wR Tryz.func188 h
def atF:=bA 13 [(4,([7,13],[1,2,3,11,12])),(7,([7],[1,2,3,11,12,13])),(10,([],[7]))]
def Ir a b c d R:=(.mk _:NS apn atF Tryz.f189 [.u,b,c] [a] d R).p
def aK7{c0:List AV}{b c:AV}{s0:ae}{R:be}(d:L s0=4096)(l0:L c0=4)(h:HB1 36 4 3 c0 s0 λf e=>Ir f b c e R):EB 189 [.a c0,b,c] s0 R:=zB1 atF wR Tryz.func189 d l0 h
def atG:=bA 12 [(4,([5,11],[1,2,9,10])),(7,([5],[1,2,9,10,11]))]
def Is a b c R:=(.mk _:NS apn atG Tryz.f190 [.u,b] [a] c R).p
def aK8{c0:List AV}{b:AV}{s0:ae}{R:be}(c:L s0=4096)(l0:L c0=4)(h:HB1 36 4 2 c0 s0 λe d=>Is e b d R):EB 190 [.a c0,b] s0 R:=zB1 atG wR Tryz.func190 c l0 h
theorem axp(n c:Nat)(w:World)(R:Ending->World->Prop)(a:R (.returned<|.slice J 0 0) w):Calls aS 133 #[.slice J n c] w R:=by have b:=λ(W:World)=>run_eql_slice_nil (P:=aS) W 38 3 J n c (by kernel_rfl);go_enter Tryz.func133,Tryz.ntmps133;go_wp2;exact a
theorem axt(A:Addr)(n c:Nat)(w:World)(R:Ending->World->Prop)(b:(nU Tryz.f133).wp aS (bodyPost aS Tryz.f133 R) {tmps:=#[.slice (V A) n c,undef, .slice J 0 0, .slice (V A) n c, .bool I,undef,undef,undef],defers:=[]} w):Calls aS 133 #[.slice (V A) n c] w R:=by have d:=λ(W:World)=>run_eql_slice_nil (P:=aS) W 38 3 (V A) n c (by kernel_rfl);go_enter Tryz.func133,Tryz.ntmps133;generalize a:(BM 3 _ I).seq ET=T;go_wp2;subst a;exact b
def aCM{aa:List (List AV)}(g:∀r∈aa,L r=1)(q:L aa<1000000):∃r a,bc a 3 1 r aa/\cZ aS GG 133 [.l aa I I] eK r a/\(aa=[]->r= .l [] U U):=by have h:=DX (fn:=133) (f:=Tryz.f133) (an:=[J,J]) Tryz.func133 rfl rfl (by grind [axp]) (by grind [axt]) (by kernel_rfl) (by kernel_rfl) (aa:=aa) (R:=λr a=>bc a 3 1 r aa/\(aa=[]->r= .l [] U U/\a=eK)) (aND (show iV aS GG [] [J,J] (nU Tryz.f133) 0 (tO aS Tryz.f133 λr a=>bc a 3 1 r aa/\(aa=[]->r= .l [] U U/\a=eK)) (gt<|xE<|.l aa I I) eK=(eV (aX bH 0 eK []) λk i=>eV (cj 3 fB 8 i 7 k<|.l aa I I) λt4 j=>fe (λr a=>bc a 3 1 r aa/\(aa=[]->r= .l [] U U/\a=eK)) j [t4]) by kernel_rfl) ?_) (λr a h=>h.2);obtain⟨r,a,b,d⟩:=h;exact⟨r,a,b.1,d,λe=>(b.2 e).1⟩;simp only[nS,bQ];by_cases c:aa=[];subst c;simp only[cj,gL,vw,aNZ,eV,fe,aoz];grind [bc.nil];refine gD (e:=3) (new:=aa) bc.nil rfl (by decide) (by rw[show L eK=4096 from oA ..];decide) (by simp) g (by grind) λn Y' o m p _=>?_;grind [fe,aoz,absurd]
def Kr{Y:ae}{d:Nat}{K:be}{aa:List (List AV)}{x:AV}(p:dG Y x= .l aa I I)(o:∀r∈aa,L r=1)(n:L aa<1000000)(q:aa.all (λr=>r.all gY)=U)(c:d<L Y)(e:∀a Y',bc Y' 3 1 a aa->Fx Y Y' []->(∀k∈aA a,bK Y k/\k.1=d)->K a Y'):cN 133 [x] Y d K:=by obtain⟨r,i,g,h,_⟩:=aCM o n;have f:[x].map (dG Y)=[.l aa I I]:=(by simp[p]);refine .inl ⟨by rw[f];rfl,by simp[vg,c],r,i,by rw[f];exact h,?_⟩;rcases g with⟨j,rfl⟩|⟨b,rfl,m⟩;exact .inl ⟨rfl,e _ _ (.inl ⟨j,rfl⟩) (Fx.refl _ _) (by simp[aA])⟩;refine .inr ⟨b,_,_,rfl,m,?_,e _ _ (.inr ⟨lA Y d,rfl,iy c⟩) (kH c)<|by simp[aA,lA,bK]⟩;grind [qA]
theorem axo(n c:Nat)(w:World)(R:Ending->World->Prop)(a:R (.returned<|.slice J 0 0) w):Calls aS 132 #[.slice J n c] w R:=by have b:=λ(W:World)=>run_eql_slice_nil (P:=aS) W 33 4 J n c (by kernel_rfl);go_enter Tryz.func132,Tryz.ntmps132;go_wp2;exact a
theorem axs(A:Addr)(n c:Nat)(w:World)(R:Ending->World->Prop)(b:(nU Tryz.f132).wp aS (bodyPost aS Tryz.f132 R) {tmps:=#[.slice (V A) n c,undef, .slice J 0 0, .slice (V A) n c, .bool I,undef,undef,undef],defers:=[]} w):Calls aS 132 #[.slice (V A) n c] w R:=by have d:=λ(W:World)=>run_eql_slice_nil (P:=aS) W 33 4 (V A) n c (by kernel_rfl);go_enter Tryz.func132,Tryz.ntmps132;generalize a:(BM 3 _ I).seq ET=T;go_wp2;subst a;exact b
def aCL{aa:List (List AV)}(g:∀r∈aa,L r=1)(q:L aa<1000000):∃r a,bc a 4 1 r aa/\cZ aS GG 132 [.l aa I I] eK r a/\(aa=[]->r= .l [] U U):=by have h:=DX (fn:=132) (f:=Tryz.f132) (an:=[J,J]) Tryz.func132 rfl rfl (by grind [axo]) (by grind [axs]) (by kernel_rfl) (by kernel_rfl) (aa:=aa) (R:=λr a=>bc a 4 1 r aa/\(aa=[]->r= .l [] U U/\a=eK)) (aND (show iV aS GG [] [J,J] (nU Tryz.f132) 0 (tO aS Tryz.f132 λr a=>bc a 4 1 r aa/\(aa=[]->r= .l [] U U/\a=eK)) (gt<|xE<|.l aa I I) eK=(eV (aX BD 0 eK []) λk i=>eV (cj 4 BE 1 i 7 k<|.l aa I I) λt4 j=>fe (λr a=>bc a 4 1 r aa/\(aa=[]->r= .l [] U U/\a=eK)) j [t4]) by kernel_rfl) ?_) (λr a h=>h.2);obtain⟨r,a,b,d⟩:=h;exact⟨r,a,b.1,d,λe=>(b.2 e).1⟩;simp only[nS,bQ];by_cases c:aa=[];subst c;simp only[cj,gL,vw,aNZ,eV,fe,aoz];grind [bc.nil];refine gD (e:=4) (new:=aa) bc.nil rfl (by decide) (by rw[show L eK=4096 from oA ..];decide) (by simp) g (by grind) λn Y' o m p _=>?_;grind [fe,aoz,absurd]
def aw2{Y:ae}{d:Nat}{K:be}{aa:List (List AV)}{x:AV}(p:dG Y x= .l aa I I)(o:∀r∈aa,L r=1)(n:L aa<1000000)(q:aa.all (λr=>r.all gY)=U)(c:d<L Y)(e:∀a Y',bc Y' 4 1 a aa->Fx Y Y' []->(∀k∈aA a,bK Y k/\k.1=d)->K a Y'):cN 132 [x] Y d K:=by obtain⟨r,i,g,h,_⟩:=aCL o n;have f:[x].map (dG Y)=[.l aa I I]:=(by simp[p]);refine .inl ⟨by rw[f];rfl,by simp[vg,c],r,i,by rw[f];exact h,?_⟩;rcases g with⟨j,rfl⟩|⟨b,rfl,m⟩;exact .inl ⟨rfl,e _ _ (.inl ⟨j,rfl⟩) (Fx.refl _ _) (by simp[aA])⟩;refine .inr ⟨b,_,_,rfl,m,?_,e _ _ (.inr ⟨lA Y d,rfl,iy c⟩) (kH c)<|by simp[aA,lA,bK]⟩;grind [qA]
theorem axn(n c:Nat)(w:World)(R:Ending->World->Prop)(a:R (.returned<|.slice J 0 0) w):Calls aS 182 #[.slice J n c] w R:=by have b:=λ(W:World)=>run_eql_slice_nil (P:=aS) W 34 85 J n c (by kernel_rfl);go_enter Tryz.func182,Tryz.ntmps182;go_wp2;exact a
theorem axr(A:Addr)(n c:Nat)(w:World)(R:Ending->World->Prop)(b:(nU Tryz.f182).wp aS (bodyPost aS Tryz.f182 R) {tmps:=#[.slice (V A) n c,undef, .slice J 0 0, .slice (V A) n c, .bool I,undef,undef,undef],defers:=[]} w):Calls aS 182 #[.slice (V A) n c] w R:=by have d:=λ(W:World)=>run_eql_slice_nil (P:=aS) W 34 85 (V A) n c (by kernel_rfl);go_enter Tryz.func182,Tryz.ntmps182;generalize a:(BM 3 _ I).seq ET=T;go_wp2;subst a;exact b
def aCK{aa:List (List AV)}(g:∀r∈aa,L r=3)(q:L aa<1000000):∃r a,bc a 85 3 r aa/\cZ aS GG 182 [.l aa I I] eK r a/\(aa=[]->r= .l [] U U):=by have h:=DX (fn:=182) (f:=Tryz.f182) (an:=[J,J]) Tryz.func182 rfl rfl (by grind [axn]) (by grind [axr]) (by kernel_rfl) (by kernel_rfl) (aa:=aa) (R:=λr a=>bc a 85 3 r aa/\(aa=[]->r= .l [] U U/\a=eK)) (aND (show iV aS GG [] [J,J] (nU Tryz.f182) 0 (tO aS Tryz.f182 λr a=>bc a 85 3 r aa/\(aa=[]->r= .l [] U U/\a=eK)) (gt<|xE<|.l aa I I) eK=(eV (aX biW 0 eK []) λk i=>eV (cj 85 aQ2 24 i 7 k<|.l aa I I) λt4 j=>fe (λr a=>bc a 85 3 r aa/\(aa=[]->r= .l [] U U/\a=eK)) j [t4]) by kernel_rfl) ?_) (λr a h=>h.2);obtain⟨r,a,b,d⟩:=h;exact⟨r,a,b.1,d,λe=>(b.2 e).1⟩;simp only[nS,bQ];by_cases c:aa=[];subst c;simp only[cj,gL,vw,aNZ,eV,fe,aoz];grind [bc.nil];refine gD (e:=85) (new:=aa) bc.nil rfl (by decide) (by rw[show L eK=4096 from oA ..];decide) (by simp) g (by grind) λn Y' o m p _=>?_;grind [fe,aoz,absurd]
def aw1{Y:ae}{d:Nat}{K:be}{aa:List (List AV)}{x:AV}(p:dG Y x= .l aa I I)(o:∀r∈aa,L r=3)(n:L aa<1000000)(q:aa.all (λr=>r.all gY)=U)(c:d<L Y)(e:∀a Y',bc Y' 85 3 a aa->Fx Y Y' []->(∀k∈aA a,bK Y k/\k.1=d)->K a Y'):cN 182 [x] Y d K:=by obtain⟨r,i,g,h,_⟩:=aCK o n;have f:[x].map (dG Y)=[.l aa I I]:=(by simp[p]);refine .inl ⟨by rw[f];rfl,by simp[vg,c],r,i,by rw[f];exact h,?_⟩;rcases g with⟨j,rfl⟩|⟨b,rfl,m⟩;exact .inl ⟨rfl,e _ _ (.inl ⟨j,rfl⟩) (Fx.refl _ _) (by simp[aA])⟩;refine .inr ⟨b,_,_,rfl,m,?_,e _ _ (.inr ⟨lA Y d,rfl,iy c⟩) (kH c)<|by simp[aA,lA,bK]⟩;grind [qA]
theorem axq(n c:Nat)(w:World)(R:Ending->World->Prop)(a:R (.returned<|.slice J 0 0) w):Calls aS 204 #[.slice J n c] w R:=by have b:=λ(W:World)=>run_eql_slice_nil (P:=aS) W 37 2 J n c (by kernel_rfl);go_enter Tryz.func204,Tryz.ntmps204;go_wp2;exact a
theorem axu(A:Addr)(n c:Nat)(w:World)(R:Ending->World->Prop)(b:(nU Tryz.f204).wp aS (bodyPost aS Tryz.f204 R) {tmps:=#[.slice (V A) n c,undef, .slice J 0 0, .slice (V A) n c, .bool I,undef,undef,undef],defers:=[]} w):Calls aS 204 #[.slice (V A) n c] w R:=by have d:=λ(W:World)=>run_eql_slice_nil (P:=aS) W 37 2 (V A) n c (by kernel_rfl);go_enter Tryz.func204,Tryz.ntmps204;generalize a:(BM 3 _ I).seq ET=T;go_wp2;subst a;exact b
def aCN{aa:List (List AV)}(g:∀r∈aa,L r=1)(q:L aa<1000000):∃r a,bc a 2 1 r aa/\cZ aS GG 204 [.l aa I I] eK r a/\(aa=[]->r= .l [] U U):=by have h:=DX (fn:=204) (f:=Tryz.f204) (an:=[J,J]) Tryz.func204 rfl rfl (by grind [axq]) (by grind [axu]) (by kernel_rfl) (by kernel_rfl) (aa:=aa) (R:=λr a=>bc a 2 1 r aa/\(aa=[]->r= .l [] U U/\a=eK)) (aND (show iV aS GG [] [J,J] (nU Tryz.f204) 0 (tO aS Tryz.f204 λr a=>bc a 2 1 r aa/\(aa=[]->r= .l [] U U/\a=eK)) (gt<|xE<|.l aa I I) eK=(eV (aX yW 0 eK []) λk i=>eV (cj 2 EN 8 i 7 k<|.l aa I I) λt4 j=>fe (λr a=>bc a 2 1 r aa/\(aa=[]->r= .l [] U U/\a=eK)) j [t4]) by kernel_rfl) ?_) (λr a h=>h.2);obtain⟨r,a,b,d⟩:=h;exact⟨r,a,b.1,d,λe=>(b.2 e).1⟩;simp only[nS,bQ];by_cases c:aa=[];subst c;simp only[cj,gL,vw,aNZ,eV,fe,aoz];grind [bc.nil];refine gD (e:=2) (new:=aa) bc.nil rfl (by decide) (by rw[show L eK=4096 from oA ..];decide) (by simp) g (by grind) λn Y' o m p _=>?_;grind [fe,aoz,absurd]
def alG{Y:ae}{d:Nat}{K:be}{aa:List (List AV)}{x:AV}(p:dG Y x= .l aa I I)(o:∀r∈aa,L r=1)(n:L aa<1000000)(q:aa.all (λr=>r.all gY)=U)(c:d<L Y)(e:∀a Y',bc Y' 2 1 a aa->Fx Y Y' []->(∀k∈aA a,bK Y k/\k.1=d)->K a Y'):cN 204 [x] Y d K:=by obtain⟨r,i,g,h,_⟩:=aCN o n;have f:[x].map (dG Y)=[.l aa I I]:=(by simp[p]);refine .inl ⟨by rw[f];rfl,by simp[vg,c],r,i,by rw[f];exact h,?_⟩;rcases g with⟨j,rfl⟩|⟨b,rfl,m⟩;exact .inl ⟨rfl,e _ _ (.inl ⟨j,rfl⟩) (Fx.refl _ _) (by simp[aA])⟩;refine .inr ⟨b,_,_,rfl,m,?_,e _ _ (.inr ⟨lA Y d,rfl,iy c⟩) (kH c)<|by simp[aA,lA,bK]⟩;grind [qA]
def jC(l:List Int):Prop:=∀i,i+1<L l->gd l i<gd l (i+1)
def AD{l:List Int}(h:jC l):∀{i j:Nat},i<j->j<L l->gd l i<gd l j:=by intro i j c a;induction j with|zero=>omega|succ j e=>have d:=h j a;grind
section
variable{Y:ae}{b:Id}{l:List Int}{n:Nat}{K:o8}
theorem mx{e:TypeId}{i:Int}{o v:Bool}{aa:List (List AV)}(d:box Y b=V ⟨e,1,o,v,aa⟩)(h:aF n i):rV (cz 1 Y (.m b n)<|iv i) K=K (.p b i.toNat 0):=by have a:0<=i:=h.1;have c:i.toNat<n:=(by have:=h.1;have:=h.2;omega);grind [cz,rV]
theorem ml{e:TypeId}{o v:Bool}{k:Nat}(a:box Y b=V ⟨e,1,o,v,l.map ci⟩)(c:k<L l):lS J Y (.p b k 0)=V (iv<|gd l k):=by grind [lS,iE,aN,bT]
end
theorem aIh{l:List Int}{k:Nat}{x:Int}:(l.map ci).set k ((ci<|gd l k).set 0<|iv x)=(l.set k x).map ci:=by simp
def Qo{Y:ae}{b:Id}{l:List Int}{k:Nat}{x:Int}{K:ae->Prop}(c:box Y b=V ⟨3,1,U,I,l.map ci⟩)(d:k<L l)(a:∀Y',Fx Y Y' [b]->box Y' b=V ⟨3,1,U,I,(l.set k x).map ci⟩->K Y'):sV (aK 1 Y (.p b k 0)<|iv x) K:=by have e:(l.map ci)[k]?=V (ci<|gd l k):=(by grind [eC,bT]);grind [wL,aIh]
def Dt{a b:List Int}{k:Nat}(h:k<L a):gd (a++b) k=gd a k:=by grind [bT,List.getElem_append_left]
def aBD{a:List Int}{j k:Nat}(h:k<j)(c:k<L a):gd (a.take j) k=gd a k:=by grind [bT]
def aBB{a d:List Int}{t:Int}:gd (a++t::d) (L a)=t:=by grind [bT]
def aIA{r:List Int}{t:Int}{j:Nat}(c:0<j)(g:j<=L r):((r.take j++t::r.drop j).set j<|gd r<|j-1).set (j-1) t=r.take (j-1)++t::r.drop (j-1):=by obtain⟨i,rfl⟩:∃i,j=i+1:=⟨j-1,by omega⟩;have a:i<L r:=(by omega);have d:r.take (i+1)=r.take i++[gd r i]:=(by rw[iJ a,bT a]);have e:r.drop i=gd r i::r.drop (i+1):=(by rw[List.drop_eq_getElem_cons a,bT a]);have f:L (r.take i)=i:=(by simp;omega);simp_all
def aCw{Y:ae}{b:Id}{r:List Int}{t:Int}(q:jC r)(ht:t∉r)(hn:L r<12)(M:box Y b=V ⟨3,1,U,I,(r++[t]).map ci⟩)(hl:L Y=4096):∃y f,(y= .t []/\box f b=V ⟨3,1,U,I,(fk r t).map ci⟩/\Fx Y f [b])/\cZ aS GG 258 [.m b<|L r+1,iv 0,iv ((L r+1:Nat):Int)] Y y f:=by refine aME hl ?_;simp only[JT,cS,aY,↓uL];rw[show dq.wrap (0+1)=((1:Nat):Int) from rfl];refine AI (α:=Unit) (λ_ i=>[iv i]) 0 (L r+1) 1 (by omega) (λi _ Y'=>1<=i/\box Y' b=V ⟨3,1,U,I,(if i<L r+1 then r++[t] else fk r t).map ci⟩/\Fx Y Y' [b]) (s0:=()) ⟨by omega,?_,Fx.refl _ _⟩ ?_;split;exact M;have:r=[]:=(by simp_all);subst this;exact M;rintro i _ f hi ⟨ac,p,F1⟩;simp only[qz 7,aI,au,u0,u1,↓uL];refine⟨λh=>?_,λh=>?_⟩;have x:=aL h;rw[J9 x] at p;have e:∀{k:Nat},k<L r+1->k<L (r++[t]):=λh=>(by simp;omega);have nx:∀g,box g b=V ⟨3,1,U,I,(if i+1<L r+1 then r++[t] else fk r t).map ci⟩->Fx Y g [b]->yI (λ(_:Unit) i=>[iv i]) (L r+1) (λi _ Y'=>1<=i/\box Y' b=V ⟨3,1,U,I,(if i<L r+1 then r++[t] else fk r t).map ci⟩/\Fx Y Y' [b]) [iv<|dq.wrap<|(i:Int)+1] g/\gM 0 (L r+1) [iv<|dq.wrap<|(i:Int)+1] g<gM 0 (L r+1) [iv i] f:=λg N z=>yU x ⟨by omega,N,z⟩;have R:Q ((0:Int)<(i:Int))=U:=(by simp;omega);have C:∀j:Nat,0<j->j<100->dq.wrap ((j:Int)-1)=((j-1:Nat):Int):=(by grind [eM]);rcases jj i (L r) with u|u;refine⟨λvs Y'=>vs=[iv i]/\Y'=f,λ_ _=>0,⟨rfl,rfl⟩,?_⟩;rintro vs Y' ⟨rfl,rfl⟩;have T:Q (gd (r++[t]) i<gd (r++[t]) (i-1))=I:=(by rw[Dt u,Dt<|by omega];have:=AD q (show i-1<i by omega) u;simp;omega);simp only[qz 37,aI,au,u0,u1,R,jA,qE,C i (by omega) (by omega),mx p<|dJ<|show i<L r+1 by omega,mx p<|dJ<|show i-1<L r+1 by omega,bh,ml p<|e<|show i<L r+1 by omega,ml p<|e<|show i-1<L r+1 by omega,ar,ut,T,uO,aNV,eE,aNU,aOw,I9,AL,↓uL];simp_all;obtain rfl:i=L r:=(by omega);refine⟨λvs Y'=>∃j:Nat,j<=L r/\vs=[iv j]/\box Y' b=V ⟨3,1,U,I,(r.take j++t::r.drop j).map ci⟩/\(∀k,j<=k->k<L r->t<gd r k)/\Fx Y Y' [b],λvs _=>match gt vs 0 with| .s (.int _ i)=>i.toNat|_=>0,(by grind),?_⟩;rintro vs Y' ⟨j,S,rfl,o,Z,D⟩;have w:L (r.take j++t::r.drop j)=L r+1:=(by simp;omega);have G:(∀k,k<j->gd r k<t)->box Y' b=V ⟨3,1,U,I,(if L r+1<L r+1 then r++[t] else fk r t).map ci⟩:=λA=>(by rw[J7 (by omega),o];congr 3;rw[QJ r t j S A (by grind),J7];grind);rcases oD j with rfl|v;simp only[qz 37,aI,au,u0,u1,Int.lt_irrefl,Int.ofNat_eq_natCast,Int.natCast_zero,aPF,jN,Bc,eE,aNU,aOw,I9,↓uL];simp_all;have B:Q ((0:Int)<(j:Int))=U:=(by simp;omega);have O:gd (r.take j++t::r.drop j) j=t:=(by have:=aBB (a:=r.take j) (d:=r.drop j) (t:=t);simp_all);have P:gd (r.take j++t::r.drop j) (j-1)=gd r (j-1):=(by rw[Dt (by simp;omega),aBD (by omega)<|by omega]);simp only[qz 37,aI,au,u0,u1,B,jA,qE,C j v (by omega),mx o<|dJ<|show j<L r+1 by omega,mx o<|dJ<|show j-1<L r+1 by omega,bh,ml o (show j<_ by rw[w];omega),ml o (show j-1<_ by rw[w];omega),ar,ut,O,P,uO,aNV,aOw,I9,AL,↓uL];refine⟨λc=>?_,λc=>?_⟩;have ab:=aNK c;refine Qo o (by omega) λg z E=>?_;simp only[qz 2,mx E<|dJ<|show j-1<L r+1 by omega,bh,↓uL];refine Qo E (by simp;omega) λY3 W F=>?_;simp only[qz 4,↓uL];refine dT rfl ?_;simp only[au,u0,u1,C j v (by omega),↓uL];rw[aIA v S] at F;refine⟨⟨j-1,by omega,rfl,F,λk X h2=>?_,(D.trans<|z.trans W).mono<|by simp⟩,by omega⟩;grind;have ad:=be7 c;refine nx _ (G λk hk=>?_) D;have X:gd r (j-1)<t:=(by grind [gd,dB]);rcases jj k (j-1) with H|H;have:=AD q H (by omega);omega;grind;grind [Nat.le_antisymm,bw,fe,aoz]
def aCq{Y:ae}{b:Id}{l:List Int}(f:jC l)(c:box Y b=V ⟨3,1,U,I,l.map ci⟩)(o:L Y=4096)(s:L l<1000):∃e g,(e= .m b (L l)/\g=Y)/\cZ aS GG 186 [.m b<|L l] Y e g:=by refine aMy o ?_;have d:fS Y (.m b<|L l)=V (iv<|L l):=(by simp[fS,c]);simp only[JN,d,u0,u1,↓uL];refine⟨λh=>by simp[fe,aoz],λh=>?_⟩;show lV [iv ((1:Nat):Int)] _ _;refine AI (α:=Unit) (λ_ i=>[iv i]) 0 (L l) 1 (by grind) (λi _ Y'=>1<=i/\Y'=Y) (s0:=()) ⟨by omega,rfl⟩ ?_;rintro i _ Y' r ⟨q,rfl⟩;simp only[qz 37,aI,au,d,u0,u1,↓uL];refine⟨λj=>?_,λj=>by simp[fe,aoz]⟩;have a:=aL j;have p:dq.wrap ((i:Int)-1)=((i-1:Nat):Int):=(by grind [eM]);have k:Q (gd l i=gd l (i-1))=I:=(by have:=AD f (show i-1<i by omega) a;simp;omega);simp only[mx c<|dJ a,bh,ml c a,u0,u1,p,mx c<|dJ<|show i-1<L l by omega,ml c (show i-1<L l by omega),k,eE,aNU,aOw,I9,↓uL];exact yU a ⟨by omega,rfl⟩
def alB{Y:ae}{d:Nat}{K:be}{b:Id}{t x:Int}{e:TypeId}(c:box Y b=V ⟨e,1,U,U,[[iv t]]⟩)(g:L Y=4096)(a:K (bv<|Q<|x=t) Y):cF (.f 188 [] [.p b 0 0]) [iv x] Y d K:=by simp only[cF,bqK];rw[J7 (show¬GG.nw 188=U by decide),J9<|show GG.imp 188=U by decide];refine(aS2 rfl (aK2 g ?_) a:cB 188 [iv x, .p b 0 0] Y d K);simp only[Ij,u0,u1,c,iF,fe,aoz,ip,↓uL];grind [Fx.refl]
def aCv{Y:ae}{b c:Id}{l:List Int}{t:Int}{e:TypeId}(g:box Y b=V ⟨3,1,U,I,l.map ci⟩)(r:box Y c=V ⟨e,1,U,U,[[iv t]]⟩)(o:L Y=4096)(w:L l<1000):∃d i,(d=iv (oW l t)/\Fx Y i [])/\cZ aS GG 230 [.m b<|L l, .f 188 [] [.p c 0 0]] Y d i:=by refine aMB o ?_;have q:fS Y (.m b<|L l)=V (iv<|L l):=(by simp[fS,g]);simp only[JQ,q,u0,u1,↓uL];refine yV (L l) (λk _ Y'=>Y'=Y/\∀j,j<k->gd l j≠t) ⟨rfl,by simp⟩ ?_;rintro k _ Y' v ⟨rfl,u⟩;simp only[qz 19,aI,au,u0,u1,↓uL];refine⟨λh=>?_,λh=>?_⟩;have a:=aL h;simp only[mx g<|dJ a,bh,ml g a,aY,↓uL];refine alB r o ?_;simp only[u0,u1,↓uL];refine⟨λs=>?_,λs=>yU a<|by grind⟩;grind [fe,aoz,anR,Fx.refl];grind [fe,aoz,anS,C3,bw,Fx.refl]
def gH(s:aW)(nt lD:Int)(k:Nat):Int:=if eh s nt k=[] then-1 else if lD∈eh s nt k then lD else gd (eh s nt k) 0
theorem AN{s:aW}{nt x:Int}{k:Nat}:x∈eh s nt k↔∃i:Nat,i<k/\pe s nt i=U/\x=i:=by grind [eh]
theorem Li{s:aW}{nt:Int}{k:Nat}(h:eh s nt k≠[]):0<=gd (eh s nt k) 0/\gd (eh s nt k) 0<k:=by grind [dB,eh,aqS,AN]
def axd{s:aW}{nt lD:Int}{k:Nat}(h:0<=gH s nt lD k):gH s nt lD k<k/\eh s nt k≠[]:=by grind [gH,AN,Li]
def axe{s:aW}{nt lD:Int}{k:Nat}:gH s nt lD (k+1)=if(pe s nt k&&(Q (gH s nt lD k<0)||Q ((k:Int)=lD)))=U then(k:Int) else gH s nt lD k:=by have d:=vc s nt k;cases j:pe s nt k with|false=>grind [eE,gH]|true=>rw[j,J9 rfl] at d;simp only[iw];by_cases c:eh s nt k=[];have f:gH s nt lD k= -1:=(by grind [gH]);rw[f,J9 (by simp),gH,d,c];simp only[dW,List.cons_ne_nil,bhR,cE];split;omega;rfl;have m:¬gH s nt lD k<0:=(by rw[gH,J7 c];split;grind [AN];simp_all [Li]);rw[show Q (gH s nt lD k<0)=I by grind,lG];rw[gH,d,J7<|by simp];by_cases i:(k:Int)=lD;simp_all;rw[J7 (show¬Q ((k:Int)=lD)=U by simpa using i),gH,J7 c];have e:lD∈eh s nt k++[(k:Int)]↔lD∈eh s nt k:=(by grind);have g:gd (eh s nt k++[(k:Int)]) 0=gd (eh s nt k) 0:=Dt<|aqS.2 c;by_cases a:lD∈eh s nt k;rw[J9<|e.2 a,J9 a];rw[J7<|λh=>a<|e.1 h,J7 a,g]
def giT{Y:ae}{a:AV}{l:List aoC}{k:Nat}{K:o8}(d:bc Y 85 3 a<|l.map aoC.c)(g:k<L l):(rV (cz 3 Y a<|iv k) λt=>rV (lS (V 3) Y t) K)=K (.a (gd l k).c):=by rcases d with⟨e,_⟩|⟨b,rfl,f⟩;simp_all;simp_all [cz,rV,lS,iE,aN,bT,aoC.c]
def DB{Y:ae}{a:AV}{l:List aoC}{i:Int}{j:Nat}{x:Value}{K:AV->be}(r:bc Y 85 3 a<|l.map aoC.c)(e:aF (L l) i)(y:j<3)(g:aoC)(v:(gd l i.toNat).c.set j (.s x)=g.c)(t:∀b Y',aA a=[b]->Fx Y Y' (aA a)->bc Y' 85 3 a ((l.set i.toNat g).map aoC.c)->K (.p b i.toNat 0) (.p b i.toNat j) Y'):rV (cz 3 Y a<|iv i) λp=>rV (iQ j Y p) λq=>sV (aK 1 Y q<|.s x) (K p q):=by have o:i.toNat<L l:=(by have:=e.1;have:=e.2;omega);rcases r with⟨w,_⟩|⟨b,rfl,d⟩;simp_all;have f:cz 3 Y (.m b<|L<|l.map aoC.c) (iv i)=V (.p b i.toNat 0):=(by simp[cz,e.1,d,o]);rw[f];simp only[rV,rR,d,df,aj];have u:(l.map aoC.c)[i.toNat]?=V (gd l i.toNat).c:=(by grind [eC,bT]);refine wL d u (by grind [aoC.c]) λY' h k=>t b Y' rfl h ?_;rw[v] at k;refine .inr ⟨b,by simp,?_⟩;simp_all
def aCD(s:aW)(nt lD:Int){x1 x2 g:AV}{Y:ae}(E:L Y=4096)(hn:L s.ay<1000)(W:bc Y 85 3 g<|s.ay.map aoC.c):∃r e,(r=iv (gH s nt lD<|L s.ay)/\bc e 85 3 g ((if 0<=gH s nt lD (L s.ay) then s.ay.set (gH s nt lD<|L s.ay).toNat {gd s.ay (gH s nt lD<|L s.ay).toNat with cQ:=4} else s.ay).map aoC.c)/\Fx Y e (aA g))/\cZ aS GG 189 [.a [x1,iv s.tx,x2,g],iv nt,iv lD] Y r e:=by refine aK7 E rfl λt v3 v ad nf x=>?_;have u:=v.fx [];have A:=W.fx u (by simp);have H:L t=4096:=v.len.trans E;simp only[Ir,u0,u1,x,aj,iF,nM,ip,lnI A,bJ,↓uL];refine jD (α:=Int) (λa i=>[iv a,iv i]) 1 (L s.ay) (λk a Y'=>a=gH s nt lD k/\Fx t Y' []) (s0:= -1) ⟨by simp[gH,eh],Fx.refl _ _⟩ ?_;rintro k _ e hk ⟨rfl,f⟩;have B:=A.fx f (by simp);have G:L e=4096:=f.len.trans H;have S:=f.kq x;simp only[qz 25,aI,au,gt1,u0,u1,di,↓uL];refine⟨λh=>?_,λh=>?_⟩;have o:=aL h;refine bqF (λd=>∀(a:Int) (y:ae),a=gH s nt lD (k+1)->Fx t y []->d [iv a] y) ?_ λd nx=>?_;rintro a y rfl F;simp only[qz 45,aI,au,gt1,u0,u1,↓uL];exact dR (mk:=λa i=>[iv a,iv i]) (p:=1) (s:=gH s nt lD k) (s':=gH s nt lD<|k+1) (λ_ _=>rfl) o (by omega) ⟨rfl,F⟩;simp only[qz 47,qy 4,au,gt1,giT B o,↓uL];refine so G λZ Y2 O N2 T=>?_;refine cy (cs:=aoC.c<|gd s.ay k) T rfl rfl (by decide) λw P z=>?_;have q:box w (9,Z)=V ⟨85,3,U,U,[aoC.c<|gd s.ay k]⟩:=z;have j:Fx e w []:=(O.trans P).mono (by grind [bK.no]);have ab:=axe (s:=s) (nt:=nt) (lD:=lD) (k:=k);have M:(Q ((gd s.ay k).cQ=3)&&Q ((gd s.ay k).cond=nt))=pe s nt k:=rfl;simp+contextual only[qz 6,u0,u1,q,rk,ar,ut,aj,au,gt1,M,↓uL];refine⟨λX=>nx _ _ ?_<|f.trans j,λX=>nx _ _ ?_<|f.trans j⟩;simp_all;simp_all;obtain rfl:k=L s.ay:=(by grind);have R:Fx Y e []:=(u.trans f).mono (by simp);simp only[qz 65,qy 8,au,gt1,u0,u1,↓uL];refine⟨λD=>?_,λD=>?_⟩;have m:=aNK D;have C:=(axd m).1;simp only[S,u0,u1,aj,iF,nM,ip,↓uL];refine DB B ⟨m,C⟩ (by decide) {gd s.ay (gH s nt lD<|L s.ay).toNat with cQ:=4} rfl λb Y' ac N g'=>?_;simp only[qz 63,aI,au,fe,aoz,↓uL];refine⟨trivial,?_,(R.trans N).mono<|by simp_all⟩;simp_all;simp only[qz 63,aI,au,fe,aoz,↓uL];grind [Fx.mono]
abbrev mH(s:aW)(l:List Int):aW:=l.foldl (λs u=>aNN s u {fA s u with cQ:=4}) s
def anr:∀(l:List Int) (s:aW),L (mH s l).ay=L s.ay
 |[],s=>rfl
 |u::l,s=>by
  show L (mH (aNN s u _) l).ay=_
  rw[anr l];simp[aNN]
theorem anq:∀(l:List Int) (s:aW) (k:Nat),(∀u∈l,u.toNat≠k)->gd (mH s l).ay k=gd s.ay k
 |[],s,k,_=>rfl
 |u::l,s,k,h=>by
  show gd (mH (aNN s u _) l).ay k=_
  rw[anq l _ k<|by simp_all]
  grind [aNN,gd]
def aD2(s:aW)(l:List Int)(u:Int):mH s (l++[u])=aNN (mH s l) u {fA (mH s l) u with cQ:=4}:=by simp[mH]
def aCE(s:aW)(nt:Int){x1 x2 d:AV}{Y:ae}(G:L Y=4096)(hn:L s.ay<1000)(v:bc Y 85 3 d<|s.ay.map aoC.c):∃r f,(r=iv (L<|fO s nt)/\bc f 85 3 d ((mH s<|fO s nt).ay.map aoC.c)/\Fx Y f (aA d))/\cZ aS GG 190 [.a [x1,iv s.tx,x2,d],iv nt] Y r f:=by refine aK8 G rfl λP v3 A ak nf q=>?_;have z:=A.fx [];have D:=v.fx z (by simp);have M:L P=4096:=A.len.trans G;have y:∀{R:ae} {l:List aoC} {w:Id} {x:bY},bc R 85 3 d (l.map aoC.c)->box R w=V x->x.var=U->w∉aA d:=λv hw hx hm=>(by rcases v with⟨_,rfl⟩|⟨b,rfl,o⟩;simp[aA] at hm;grind [aA,cE]);simp only[Is,u0,u1,q,aj,iF,nM,ip,lnI D,bJ,↓uL];refine jD (α:=Int) (λa i=>[iv a,iv i]) 1 (L s.ay) (λk a Y'=>a=(L (eh s nt k):Int)/\bc Y' 85 3 d ((mH s<|eh s nt k).ay.map aoC.c)/\Fx P Y' (aA d)) (s0:=0) (by grind [eh,Fx.refl]) ?_;rintro k _ f hk ⟨rfl,u,g⟩;have H:L f=4096:=g.len.trans M;have X:=g.keep _ _ (y D q rfl) q;have N:=anr (eh s nt k) s;have ah:=wU s nt k;simp only[qz 25,aI,au,gt1,u0,u1,di,↓uL];refine⟨λh=>?_,λh=>?_⟩;have j:=aL h;have F:gd (mH s<|eh s nt k).ay k=gd s.ay k:=(by grind [anq,AN]);simp only[qz 47,qy 4,au,gt1,giT u (by rw[N];exact j),F,↓uL];refine so H λv9 Y2 T N2 b9=>?_;refine cy (cs:=aoC.c<|gd s.ay k) b9 rfl rfl (by decide) λB W C=>?_;have t:box B (7,v9)=V ⟨85,3,U,U,[aoC.c<|gd s.ay k]⟩:=C;have e:Fx f B []:=(T.trans W).mono (by grind [bK.no]);have E:=u.fx e (by simp);have Z:=e.kq X;have m:=vc s nt k;have O:(Q ((gd s.ay k).cQ=3)&&Q ((gd s.ay k).cond=nt))=pe s nt k:=rfl;simp+contextual only[qz 6,qy 8,u0,u1,t,rk,ar,ut,aj,au,gt1,O,↓uL];refine⟨λo=>?_,λo=>?_⟩;rw[o,J9 rfl] at m;simp only[Z,u0,u1,aj,iF,nM,ip,↓uL];refine DB E (by grind [dJ]) (by decide) {fA (mH s<|eh s nt k) k with cQ:=4} rfl λb Y' ag S g'=>?_;simp only[qz 45,aI,au,gt1,u0,u1,↓uL];refine dR (mk:=λa i=>[iv a,iv i]) (p:=1) (s:=(L (eh s nt k):Int)) (s':=dq.wrap<|(L (eh s nt k):Int)+1) (λ_ _=>rfl) j (by omega) ?_;refine⟨?_,?_,(g.trans<|e.trans S).mono<|by simp_all⟩;grind [fX];rw[m,aD2];exact g';rw[o] at m;simp only[eE,bhR,cL] at m;simp only[qz 45,aI,au,gt1,u0,u1,↓uL];refine dR (mk:=λa i=>[iv a,iv i]) (p:=1) (s:=(L (eh s nt k):Int)) (s':=(L (eh s nt k):Int)) (λ_ _=>rfl) j (by omega) ?_;rw[m];exact⟨rfl,E,(g.trans e).mono<|by simp_all⟩;obtain rfl:k=L s.ay:=(by grind);simp only[fe,aoz];exact⟨rfl,u,(z.trans g).mono<|by simp_all⟩
def apl:dO:=apn
def yR:eJ apl:=wR
def aBn:=@ut
def atE:=bA 13 [(4,([13],[1,2,3,11,12]))]
def Iq a b R:=(.mk _:NS apl atE Tryz.f184 [.u] [a] b R).p
def aK6{c0:List AV}{s0:ae}{R:be}(b:L s0=4096)(l0:L c0=4)(h:HB1 36 4 1 c0 s0 λd c=>Iq d c R):EB 184 [.a c0] s0 R:=zB1 atE yR Tryz.func184 b l0 h
def avc:=bA 34 [(2,([1,2,3,8,9],[0])),(10,([3],[0,1,2,8,9,10])),(14,([11,12],[0,1,2,3,8,9,10])),(18,([],[0,1,2,3,8,9,10,11]))]
def JU a b c d s0 R:=(.mk _:NS apl avc Tryz.f228 [a,b,c,d] [] s0 R).p
def aMF{a b c d:AV}{s0:ae}{R:be}(e:L s0=4096)(h:JU a b c d s0 R):EB 228 [a,b,c,d] s0 R:=zB avc yR Tryz.func228 h
def ava:=bA 1 []
def JS a s0 R:=(.mk _:NS apl ava Tryz.f185 [a] [] s0 R).p
def aMD{a:AV}{s0:ae}{R:be}(b:L s0=4096)(h:JS a s0 R):EB 185 [a] s0 R:=zB ava yR Tryz.func185 h
def au7:=bA 16 [(7,([5,6],[0,1])),(10,([5],[0,1,6]))]
def JO a b s0 R:=(.mk _:NS apl au7 Tryz.f187 [a,b] [] s0 R).p
def aMA{a b:AV}{s0:ae}{R:be}(c:L s0=4096)(h:JO a b s0 R):EB 187 [a,b] s0 R:=zB au7 yR Tryz.func187 h
def atB:=bA 12 []
def In b a c d e f R:=(.mk _:NR apl atB Tryz.f183 [.u, .u,c,d,e] [b,a] f R).p
def aK3{c0:List AV}{b:List AV}{c d e:AV}{R:o8}(l0:L c0=6)(l1:L b=4)(h:H2 31 6 5 c0 36 4 6 b λia f g=>In ia f c d e g R):Ct 183 [.a c0, .a b,c,d,e] R:=z2 atB yR Tryz.func183 l0 l1 h
def aCG{Y:ae}{b:Id}{r:List Int}{t d:Int}(e:jC r)(k:t∉r)(j:L r<12)(i:box Y b=V ⟨3,1,U,I,(r++[t]).map ci⟩)(f:L Y=4096):∃a c,(a= .t []/\box c b=V ⟨3,1,U,I,(fk r t).map ci⟩/\Fx Y c [b])/\cZ aS GG 228 [.m b<|L r+1,iv 0,iv ((L r+1:Nat):Int),iv d] Y a c:=by refine aMF f ?_;simp only[JU,↓uL];refine⟨λvs Y'=>vs=[iv 0,iv ((L r+1:Nat):Int),iv d,bv U,bv U]/\Y'=Y,λ_ _=>0,⟨rfl,rfl⟩,?_⟩;rintro vs Y' ⟨rfl,rfl⟩;have g:Q (((L r+1:Nat):Int)<=12)=U:=(by simp;omega);simp only[qz 13,qy 2,aI,au,gt1,u0,u1,Int.sub_zero,eM (x:=((L r+1:Nat):Int)) (by omega) (by omega),g,↓iC,↓uL];refine jH rfl (aCw e k j i f) ?_;rintro a c ⟨rfl,l,h⟩;exact⟨h.len,by grind [fe,aoz]⟩
def aCO{Y:ae}{b:Id}{r:List Int}{t:Int}(d:jC r)(l:t∉r)(j:L r<12)(e:box Y b=V ⟨3,1,U,I,(r++[t]).map ci⟩)(g:L Y=4096):∃a c,(a= .t []/\box c b=V ⟨3,1,U,I,(fk r t).map ci⟩/\Fx Y c [b])/\cZ aS GG 185 [.m b<|L r+1] Y a c:=by refine aMD g ?_;have h:fS Y (.m b<|L r+1)=V (iv ((L r+1:Nat):Int)):=(by simp[fS,e]);have f:sO (V .u64) (iv ((L r+1:Nat):Int))=V (.s<|.int .u64 ((L r+1:Nat):Int)):=(by show V (AV.s<|.int .u64<|IntKind.u64.wrap _)=_;grind [IntKind.wrap_u64]);simp only[JS,qy 2,h,aY,f,ar,ut,jM,↓uL];refine⟨by omega,?_⟩;rintro k ⟨n,rfl⟩;refine⟨.inl rfl,?_⟩;refine jH rfl (aCG d l j e g) ?_;rintro a c ⟨rfl,o,i⟩;exact⟨i.len,by grind [fe,aoz]⟩
def apJ{l:List Int}{t:Int}{j:Nat}(h:j<L l):fJ (l.take<|j+1) t=fJ (l.take j) t++if gd l j≠t then[gd l j] else[]:=by grind [fJ,iJ,bT]
theorem aE6{l:List Int}{t:Int}(h:t∈l):∃i:Nat,oW l t=i/\i<L l/\gd l i=t/\∀j,j<i->gd l j≠t:=by have a:(l.findIdx? λx=>Q<|x=t).isSome=U:=(by simp_all);grind [zz,List.findIdx?_eq_some_iff_getElem,oW,bT]
def aCs{Y:ae}{b c:Id}{l:List Int}{t:Int}{e:TypeId}(hm:t∈l)(B:box Y b=V ⟨3,1,U,I,l.map ci⟩)(D:box Y c=V ⟨e,1,U,U,[[iv t]]⟩)(z:L Y=4096)(hn:L l<1000):∃x n,(x= .m b (L<|fJ l t)/\box n b=V ⟨3,1,U,I,(fJ l t++er (L l-L (fJ l t)) 0).map ci⟩/\Fx Y n [b])/\cZ aS GG 187 [.m b<|L l, .f 188 [] [.p c 0 0]] Y x n:=by refine aMA z ?_;have C:c≠b:=(by grind);simp only[JO,↓uL];refine aS2 rfl (aCv B D z hn) ?_;obtain⟨v,hp,N,M,ac⟩:=aE6 hm;rw[hp];have R:Q ((v:Int)= -1)=I:=(by simp);simp only[qz 2,u0,u1,R,eE,aNU,aOw,I9,↓uL];rw[fX<|by omega];have X:fJ (l.take<|v+1) t=l.take v:=(by rw[apJ N,J7 (by simp[M]),cL,fJ,List.filter_eq_self];grind [ou,bT]);refine AI (α:=Nat) (λa i=>[iv (a:Int),iv i]) 1 (L l) (v+1) (by omega) (λj a Y'=>∃d:List Int,a=L (fJ (l.take j) t)/\a<j/\L d=L l/\d.take a=fJ (l.take j) t/\d.drop j=l.drop j/\box Y' b=V ⟨3,1,U,I,d.map ci⟩/\Fx Y Y' [b]) (s0:=v) ⟨l,?_,by omega,rfl,?_,rfl,B,Fx.refl _ _⟩ ?_;grind;rw[X];rintro j a n hj ⟨d,A,ak,F,W,K,o,r⟩;have O:L n=4096:=r.len.trans z;have c1:=r.keep _ _ (by simpa using C) D;have P:fS n (.m b<|L l)=V (iv<|L l):=(by simp[fS,o]);simp only[qz 43,aI,au,gt1,P,u0,u1,↓uL];refine⟨λh=>?_,λh=>?_⟩;have q:=aL h;have H:gd d j=gd l j:=(by have h1:(d.drop j)[0]?=(l.drop j)[0]?:=(by rw[K]);grind [eC,bT]);have w:=apJ (t:=t) q;simp only[di,qz 65,qy 6,au,gt1,mx o<|dJ q,bh,ml o (show j<L d by omega),aY,H,↓uL];refine alB c1 O ?_;simp only[u0,u1,↓uL];refine⟨λhv=>?_,λhv=>?_⟩;have u:gd l j≠t:=(by grind);rw[J9 u] at w;simp only[mx o<|dJ<|show a<L l by omega,bh];refine Qo o (by omega) λY2 Z b2=>?_;simp only[qz 63,aI,au,gt1,u0,u1,↓uL];rw[fX (k:=a)<|by omega];refine dR (mk:=λ(a:Nat) i=>[iv (a:Int),iv i]) (p:=1) (s:=a) (s':=a+1) (λ_ _=>rfl) q (by omega) ?_;refine⟨d.set a<|gd l j,by simp_all,by omega,by simp[F],?_,?_,b2,(r.trans Z).mono<|by simp⟩;grind [iJ,List.take_set_of_le];rw[List.drop_set_of_lt<|by omega];have:d.drop (j+1)=(d.drop j).drop 1:=(by simp);simp_all;have u:gd l j=t:=(by grind);rw[J7 (by simp[u]),cL] at w;simp only[qz 63,aI,au,gt1,u0,u1,↓uL];refine dR (mk:=λ(a:Nat) i=>[iv (a:Int),iv i]) (p:=1) (s:=a) (s':=a) (λ_ _=>rfl) q (by omega) ?_;refine⟨d,by simp_all,by omega,F,by simp_all,?_,o,r⟩;have:d.drop (j+1)=(d.drop j).drop 1:=(by simp);simp_all;obtain rfl:j=L l:=(by grind);rw[gV] at A W;have T:fo 1 n (.m b<|L l) (V<|iv (a:Int)) J J=V (.g 2 b a<|L l-a):=(by simp only[fo,lM];grind [qY,bh]);simp only[T,aY,↓uL];have E:pA (.int .i64 0) n (.g 2 b a<|L l-a)=V (wr n b ⟨3,1,U,I,(d.take a++er (L l-a) 0++d.drop (L l)).map ci⟩):=(by simp only[pA,o];rw[J9 ⟨trivial,by omega⟩];congr 3;rw[show a+(L l-a)=L l by omega];simp);simp only[E,aoq,qz 8,au,↓uL];have y:=lO (x':=⟨3,1,U,I,(d.take a++er (L l-a) 0++d.drop (L l)).map ci⟩) o;have S:fo 1 (wr n b ⟨3,1,U,I,(d.take a++er (L l-a) 0++d.drop (L l)).map ci⟩) (.m b<|L l) J (V<|iv (a:Int)) J=V (.m b a):=(by simp only[fo,lM];rw[J9<|by omega];simp only[qY,y,qd,bh,mi];rw[J9 ⟨trivial,trivial,by omega⟩]);simp only[S,aY,fe,aoz,↓uL];have G:d.drop (L l)=[]:=(by grind);rw[G,cL,W] at y;subst A;rw[show d.take (L<|fJ l t)++er (L l-L (fJ l t)) 0++d.drop (L l)=fJ l t++er (L l-L (fJ l t)) 0 by simp_all];exact⟨rfl,y,(r.trans<|wc o).mono<|by simp⟩
def anf{Y a:ae}{b:Id}{x:bY}(c:Fx Y a [b])(h:box a b=V x):LoC b x Y a:=⟨c.len,c.lB,(by grind [Fx.keep]),h⟩
def awP{Y:ae}{d:Nat}{K:be}{b:Id}{l:List Int}(e:jC l)(c:box Y b=V ⟨3,1,U,I,l.map ci⟩)(j:L Y=4096)(k:L l<1000)(i:∀Y',Fx Y Y' [b]->box Y' b=V ⟨3,1,U,I,l.map ci⟩->K (.m b<|L l) Y'):cN 186 [.m b<|L l] Y d K:=by refine .inr (.inl ⟨.m b<|L l,b,_,⟨3,1,U,I,l.map ci⟩,L l,rfl,c,(by grind [qA,gY]), .inr ⟨_,rfl⟩,λg f n=>?_,i _ (wc c)<|lO c⟩);have a:box g b=V ⟨3,1,U,I,l.map ci⟩:=(by grind [nQ,pP,dC,dK]);obtain⟨r,o,⟨rfl,rfl⟩,h⟩:=aCq e a (f.trans j) k;exact⟨_,h,anf (Fx.refl _ _) a⟩
def awR{Y:ae}{d:Nat}{K:be}{b c:Id}{l:List Int}{t:Int}{e:TypeId}(u:t∈l)(a:box Y b=V ⟨3,1,U,I,l.map ci⟩)(z:box Y c=V ⟨e,1,U,U,[[iv t]]⟩)(s:L Y=4096)(v:L l<1000)(q:∀Y',Fx Y Y' [b]->box Y' b=V ⟨3,1,U,I,(fJ l t++er (L l-L (fJ l t)) 0).map ci⟩->K (.m b<|L<|fJ l t) Y'):cN 187 [.m b<|L l, .f 188 [] [.p c 0 0]] Y d K:=by have x:L (fJ l t)<=L l:=fZ _ _;refine .inr (.inl ⟨.m b<|L<|fJ l t,b,_,⟨3,1,U,I,(fJ l t++er (L l-L (fJ l t)) 0).map ci⟩,L l,rfl,a,(by grind [qA,gY]), .inr ⟨_,rfl⟩,λg k w=>?_,q _ (wc a)<|lO a⟩);have i:box g b=V ⟨3,1,U,I,l.map ci⟩:=(by grind [nQ,pP,dC,dK]);have j:box g c=V ⟨e,1,U,U,[[iv t]]⟩:=(by grind [nQ,pP,dC,dK]);obtain⟨r,y,⟨rfl,n,o⟩,h⟩:=aCs u i j (k.trans s) v;exact⟨_,h,anf o n⟩
theorem Ny{x:Int}{l:List Int}:jC (x::l)↔(∀y∈l.head?,x<y)/\jC l:=by constructor;intro h;refine⟨λy a=>?_,λi b=>by have:=h (i+1) (by simp;omega);grind [gd]⟩;(cases l with|nil=>simp at a|cons z l=>simp only[List.head?_cons,Option.mem_def,bE] at a;subst a;have:=h 0 (by simp);grind [gd]);rintro⟨d,c⟩ i b;cases i with|zero=>(cases l with|nil=>simp at b|cons z l=>simp_all [gd])|succ i=>have:=c i (by simp_all);grind [gd]
def aE9{l:List Int}{t:Int}:∀y∈(fk l t).head?,y=t\/y∈l.head?:=by cases l with|nil=>simp[fk]|cons x l=>grind [fk]
theorem Nz:∀{l:List Int} {t:Int},jC l->jC (fk l t)
 |[],t,_=>by intro i c;simp[fk] at c
 |x::l,t,h=>by
  have b:=Ny.1 h
  simp only[fk]
  split
  ·rename_i d
   refine Ny.2 ⟨λy a=>?_,Nz b.2⟩
   rcases aE9 y a with rfl|a
   ·exact d
   simp_all
  grind [Ny]
def an0:∀{l:List Int} {t:Int},(∀x∈l,x<t)->fk l t=l++[t]
 |[],t,_=>rfl
 |x::l,t,h=>by
  simp only[fk,J9<|h x<|by simp,zn]
  rw[an0<|by simp_all]
def an3{l:List Int}(h:jC l):∀k,k<=L l->jh [] l k=l.take k
 |0,_=>rfl
 |k+1,f=>by
  have a:k<L l:=by omega
  have c:jh [] l (k+1)=fk (jh [] l k) (gd l k):=by
   grind [jh,iJ,bT]
  rw[c,an3 h k (by omega),iJ a,<-bT a]
  refine an0 λx d=>?_
  obtain⟨j,e,rfl⟩:=ou d
  have b:j<k:=by grind
  have:=AD h b a
  grind [bT]
theorem Ro{l:List Int}{t:Int}(h:jC l):mP l [t]=fk l t:=by show jh (jh [] l<|L l) [t] 1=_;rw[an3 h _<|dA _,gV];rfl
def io(n:Nat)(f:Nat->List AV):List (List AV):=(aH n).map f
theorem aH0{n:Nat}{f:Nat->List AV}:L (io n f)=n:=by simp[io]
def uU{n:Nat}{f:Nat->List AV}{k:Nat}(h:k<n):(io n f)[k]?=V (f k):=by simp[io,h]
def yC{n:Nat}{f g:Nat->List AV}(h:∀i,i<n->f i=g i):io n f=io n g:=ja λi a=>h i<|fq.1 a
def Bl{n:Nat}{f:Nat->List AV}{k:Nat}{x:List AV}:(io n f).set k x=io n λi=>if i=k then x else f i:=by refine biF (by simp[io]) λj a b=>?_;grind [io]
def Q0{n:Nat}{x:List AV}:er n x=io n λ_=>x:=by refine biF (by simp[io]) λj a b=>?_;simp[io]
def aH1{α:Type}[Inhabited α]{l:List α}{g:α->List AV}:(l.map g)=io (L l) λi=>g (gd l i):=by refine biF (by simp[io]) λj a b=>?_;grind [io,bT]
def qg(Y:ae)(e:TypeId)(z:Nat)(a:AV)(aa:List<|List AV):Prop:=(aa=[]/\a= .l [] U U)\/∃b c,a= .m b (L aa)/\box Y b=V ⟨e,z,U,I,c⟩/\c.take (L aa)=aa
theorem qg.fx{Y Y':ae}{ks:List Id}{e:TypeId}{z:Nat}{a:AV}{aa:List (List AV)}(i:qg Y e z a aa)(g:Fx Y Y' ks)(j:∀b∈aA a,b∉ks):qg Y' e z a aa:=by rcases i with h|⟨b,c,rfl,d,f⟩;exact .inl h;exact .inr ⟨b,c,rfl,g.keep b _ (j b<|by simp[aA]) d,f⟩
def bc.x{Y:ae}{e:TypeId}{z:Nat}{a:AV}{aa:List (List AV)}(d:bc Y e z a aa):qg Y e z a aa:=by rcases d with h|⟨b,rfl,c⟩;exact .inl h;exact .inr ⟨b,aa,rfl,c,gV⟩
theorem qg.ids{Y:ae}{e:TypeId}{z:Nat}{a:AV}{aa:List (List AV)}(d:qg Y e z a aa):∀k∈aA a,∃c,box Y k=V ⟨e,z,U,I,c⟩:=by rcases d with⟨_,rfl⟩|⟨b,c,rfl,f,g⟩;simp[aA];grind [aA,cE]
theorem qg.ce{Y:ae}{e:TypeId}{z:Nat}{a:AV}{aa:List (List AV)}(c:qg Y e z a aa):eY a=V [a]:=by rcases c with⟨_,rfl⟩|⟨b,_,rfl,_⟩<;>rfl
theorem qg.fr{Y:ae}{e:TypeId}{a:AV}{l:List Int}(f:qg Y e 1 a<|l.map ci):frN Y a=sl ci l:=by rcases f with⟨h,rfl⟩|⟨b,g,rfl,c,d⟩;simp at h;subst h;rfl;simp only[frN,aOn,c,aNZ,gK];rw[d];rfl
def vC(Y:ae)(a:AV)(ls:List cg):Prop:=∃(b:Id) (f:Nat->AV),a= .m b (L ls)/\box Y b=V ⟨186,2,U,U,io (L ls) λi=>[iv (gd ls i).pw,f i]⟩/\(∀i,i<L ls->bc Y 3 1 (f i) ((gd ls i).bk.map ci))/\(∀i j,i<L ls->j<L ls->i≠j->∀k∈aA (f i),k∉aA (f j))/\∀i,i<L ls->∀k∈aA (f i),k.1=24
def sC(Y:ae)(a:AV)(ls:List cg):Prop:=∃(b:Id) (f:Nat->AV),a= .m b (L ls)/\box Y b=V ⟨186,2,U,U,io (L ls) λi=>[iv (gd ls i).pw,f i]⟩/\(∀i,i<L ls->qg Y 3 1 (f i) ((gd ls i).bk.map ci))/\∀i j,i<L ls->j<L ls->i≠j->∀k∈aA (f i),k∉aA (f j)
def Bp{Y:ae}{b:Id}{i j z y:Nat}{e:TypeId}{o:Bool}{aa:List (List AV)}{r cs:List AV}{x:AV}{K:ae->Prop}(a:box Y b=V ⟨e,z,o,U,aa⟩)(g:aa[i]?=V r)(h:eY x=V cs)(k:L cs=y)(f:j+y<=L r)(d:∀Y',Fx Y Y' [b]->box Y' b=V ⟨e,z,o,U,aa.set i<|r.take j++cs++r.drop (j+y)⟩->K Y'):sV (aK y Y (.p b i j) x) K:=by have c:aK y Y (.p b i j) x=V (wr Y b ⟨e,z,o,U,aa.set i<|r.take j++cs++r.drop (j+y)⟩):=(by grind [aK,aBG,pW]);rw[c];exact d _ (wc a)<|lO a
def AP{e:TypeId}{zs:List AV}{by' d n:Nat}{Y:ae}{K:be}(i:0<L zs)(h:zs.all eN=U)(a:d<L Y)(j:n*(by'+1)<=1099511627776)(g:∀b Y',b.1=d->bK Y b->Fx Y Y' []->box Y' b=V ⟨e,L zs,U,uj zs,er n<|mz zs⟩->K (.m b n) Y'):eV (qO e zs by' Y d (iv n)<|iv n) K:=by have c:qO e zs by' Y d (iv n) (iv n)=V (.m (lA Y d) n,put Y d ⟨e,L zs,U,uj zs,er n<|mz zs⟩):=(by have f:(n:Int)*((by':Int)+1)<=((1099511627776:Nat):Int):=(by grind);simp only[qO];rw[J9 ⟨by omega,Int.le_refl _,i,h,by simp[vg,a],f⟩];simp);rw[c];exact g _ _ rfl (qQ Y d) (kH a)<|iy a
def aqw(s:aW)(r:AV)(f Y:ae):Prop:=∃d e b,r= .a [d,iv s.tx,e,b]/\vC Y d s.ak/\bc Y 4 1 e (s.done.map cb)/\bc Y 85 3 b (s.ay.map aoC.c)/\(∀k∈aA d++aA e++aA b,bK f k)/\∀k∈aA b,k.1≠7/\k.1≠8
def aCp(s:aW){Y:ae}(hl:L Y=4096)(hp:L s.ak<1000/\L s.done<1000/\L s.ay<1000/\∀l∈s.ak,L l.bk<1000):∃r Y1,(aqw s r Y Y1/\Fx Y Y1 [])/\cZ aS GG 184 [.a s.c] Y r Y1:=by refine aK6 hl rfl λs2 n K2 bx bA b1=>?_;have D:Fx Y s2 []:=K2.fx [];have ao:L s2=4096:=K2.len.trans hl;simp only[Iq,↓uL];refine so ao λK Y2 N N2 b2=>?_;have d1:=N.kq b1;have a1:L Y2=4096:=N.len.trans ao;simp only[qz 4,u0,u1,d1,rk,aj,cT,↓uL];refine AP (by decide) (by decide) (by omega) (by omega) λd Y3 bu NL F3 aR=>?_;have hL:box Y3 d=V ⟨186,2,U,U,io (L s.ak) λ_=>[iv 0, .l [] U U]⟩:=(by rw[aR,Q0];rfl);have e1:=F3.kq d1;simp only[qz 6,u0,u1,e1,rk,aj,cT,↓uL];refine yV (L s.ak) (λk _ Y'=>Fx Y2 Y' []/\∃f:Nat->AV,box Y' d=V ⟨186,2,U,U,io (L s.ak) λi=>if i<k then[iv (gd s.ak i).pw,f i] else[iv 0, .l [] U U]⟩/\(∀i,i<k->bc Y' 3 1 (f i) ((gd s.ak i).bk.map ci))/\(∀i j,i<k->j<k->i≠j->∀q∈aA (f i),q∉aA (f j))/\(∀i,i<k->∀q∈aA (f i),q≠d)/\∀i,i<k->∀q∈aA (f i),q.1=24) (by simp_all) ?_;rintro k _ A hk ⟨E,f,aU,T,aQ,bt,aT⟩;have W:L A=4096:=E.len.trans a1;have g1:=E.kq d1;have g2:=E.kq b2;simp only[qz 25,qy 8,aI,au,u0,u1,ix,rk,bh,g1,aj,↓uL];refine⟨λh=>⟨vp h,?_⟩,λh=>?_⟩;have X:=aL h;refine so W λv5 Y5 o N5 b5=>?_;refine cy (cs:=cg.c<|gd s.ak k) b5 rfl rfl (by decide) λZ t P=>?_;have aO:box Z (5,v5)=V ⟨186,2,U,U,[cg.c<|gd s.ak k]⟩:=P;have C:Fx A Z []:=(o.trans t).mono (by grind [bK.no]);have bv:L Z=4096:=C.len.trans W;simp only[qz 10,u0,u1,aO,rk,aj,↓uL];refine Kr (aa:=(gd s.ak k).bk.map ci) rfl fF (by grind [dB]) (by simp[gY]) (by omega) λG Y7 g7 u N7=>?_;have aV:bM aPz C2 [(0,iv (gd s.ak k).pw),(1,G)]=V (.a [iv (gd s.ak k).pw,G]):=(by simp[bM,aly,ms g7,zU]);have an:=u.kq<|C.kq aU;have aX:cz 2 Y7 (.m d<|L s.ak) (iv k)=V (.p d k 0):=(by simp[cz,an,X]);simp only[qz 12,aV,aY,aX,au,↓uL];refine Bp an (uU X) (x:= .a [iv (gd s.ak k).pw,G]) rfl rfl (by simp) λY8 F R=>?_;simp only[qz 14,↓uL];refine dT rfl ?_;simp only[au,u0,u1,↓uL];have bn:∀q∈aA G,q≠d:=(by grind);have bo:∀i,i<k->∀q∈aA (f i),q∉aA G:=λi y q g a5=>(by obtain⟨v,b⟩:=(T i y).x.ids q g;exact(N7 q a5).1.no _<|C.kq b);have aD:Fx A Y8 [d]:=(C.trans<|u.trans F).mono (by simp);refine yU X ⟨(E.trans aD).mono (by grind [bK.no]),λi=>if i=k then G else f i,?_,?_,?_,?_,?_⟩;rw[R,Bl];congr 2;refine yC λi y=>?_;grind;intro i y;by_cases h1:i=k;grind [bc.fx];grind [bc.fx];grind;grind;grind;obtain rfl:k=L s.ak:=(by grind);have aC:box A d=V ⟨186,2,U,U,io (L s.ak) λi=>[iv (gd s.ak i).pw,f i]⟩:=(by simp_all [yC,J9]);have n1:d≠(1,n):=(NL.ne d1).symm;refine cy (cs:=[.m d<|L s.ak]) g1 rfl rfl (by simp[aW.c]) λY5 o b5=>?_;have al:box Y5 (1,n)=V ⟨36,4,U,U,[[.m d<|L s.ak,iv s.tx,sl cb s.done,sl aoC.c s.ay]]⟩:=b5;have a4:L Y5=4096:=o.len.trans W;simp only[qz 16,u0,u1,al,aj,iF,nM,ip,↓uL];refine aw2 (aa:=s.done.map cb) rfl (by grind) (by simp;omega) (by simp[gY]) (by omega) λB Z g6 t N6=>?_;have P:=t.kq al;simp only[qz 18,u0,u1,P,aj,↓uL];refine cy (cs:=[B]) P (ms g6) rfl (by simp) λY7 u b7=>?_;have am:box Y7 (1,n)=V ⟨36,4,U,U,[[.m d<|L s.ak,iv s.tx,B,sl aoC.c s.ay]]⟩:=b7;have bw:L Y7=4096:=u.len.trans<|t.len.trans a4;simp only[qz 20,u0,u1,am,aj,iF,nM,ip,↓uL];refine aw1 (aa:=s.ay.map aoC.c) rfl (qW (f:=aoC.c) λ_=>rfl) (by simp;omega) (by simp[gY,aoC.c]) (by omega) λH Y8 g8 F N8=>?_;have R:=F.kq am;simp only[qz 22,u0,u1,R,aj,↓uL];refine cy (cs:=[H]) R (ms g8) rfl (by simp) λY9 F9 b9=>?_;have aP:box Y9 (1,n)=V ⟨36,4,U,U,[[.m d<|L s.ak,iv s.tx,B,H]]⟩:=b9;have af:Fx A Y9 [(1,n)]:=(o.trans<|t.trans<|u.trans<|F.trans F9).mono (by simp);have bz:(2,K)≠(1,n):=(by simp);have g9:=af.kq g2;simp only[qz 24,qy 26,u0,u1,aP,aj,uS,↓uL];refine cy (cs:=[.m d<|L s.ak,iv s.tx,B,H]) g9 rfl rfl (by decide) λah M aN=>?_;have av:box ah (2,K)=V ⟨36,4,U,U,[[.m d<|L s.ak,iv s.tx,B,H]]⟩:=aN;simp only[u0,u1,av,aj,uS,fe,aoz,↓uL];have ag:Fx Y A []:=(D.trans<|N.trans E).mono (by simp);have O:Fx A ah [(1,n),(2,K)]:=(af.trans M).mono (by simp);have hv:∀{q:Id} {e:TypeId} {z:Nat} {v:List (List AV)} {τ:ae},box τ q=V ⟨e,z,U,I,v⟩->∀{w:Id} {x:bY},box τ w=V x->x.var=U->q≠w:=(by grind);have k1:∀i,i<L s.ak->∀q∈aA (f i),q∉[(1,n),(2,K)]:=λi y q g=>(by obtain⟨v,b⟩:=(T i y).x.ids q g;simp only[eW,ql,a7c,not_or];grind);have i2:∀q∈aA B,q∉[(1,n)]/\q∉[(2,K)]:=λq g=>(by obtain⟨v,b⟩:=g6.x.ids q g;have S:=t.kq<|o.kq g2;exact⟨by simpa using hv b P rfl,by simpa using hv b S rfl⟩);have i3:∀q∈aA H,q∉[(1,n)]/\q∉[(2,K)]:=λq g=>(by obtain⟨v,b⟩:=g8.x.ids q g;have S:=F.kq<|u.kq<|t.kq<|o.kq g2;exact⟨by simpa using hv b R rfl,by simpa using hv b S rfl⟩);refine⟨⟨_,B,H,rfl,⟨d,f,rfl,?_,λi y=>(T i y).fx O<|k1 i y,aQ,aT⟩,?_,?_,?_,λk hk=>by have:=(N8 k hk).2;omega⟩,?_⟩;refine O.keep _ _ ?_ aC;simp only[eW,ql,a7c,not_or];grind;exact((g6.fx u λq g=>(i2 q g).1).fx F<|by simp).fx (F9.trans M) (by grind);exact g8.fx (F9.trans M) (by grind);intro q g;simp only[dF,aA,cE] at g;rcases g with(rfl|g)|g;exact NL.old<|D.trans N;exact rC (gl (ag.lB _)<|o.lB _) (N6 q g).1;exact rC (gl (ag.lB _)<|gl (o.lB _)<|gl (t.lB _)<|u.lB _) (N8 q g).1;refine((D.trans N).trans<|E.trans O).mono ?_;simp only[dW,eW,ql,a7c];rintro q (rfl|rfl);grind;exact .inr λx hx=>N2.no _<|D.kq hx
def Ov(w:vb)(s:aW)(t kind nt:Int)(v:lh w s=U/\L w.bC<=2/\(∀l∈s.ak,L l.bk<100000)):Ct 183 [.a w.c, .a s.c,iv t,iv kind,iv nt] (·=bv (jm w s t kind nt)):=by refine aK3 rfl rfl λK G h i D=>?_;obtain⟨b,k,n⟩:=v;obtain⟨z,A,B,C⟩:=iY b;simp+contextual only[In,qy 6,u0,u1,ut,ar,h,i,rk,ix,cT,aj,b,k,fh,lG,I9,awG,↓uL];rcases g:dh t (L w.ay) with _|_;simp[jm,g,iC];rcases d:named w kind nt with _|_;simp[jm,g,d,iC];have f:aF (L s.ay) t:=(by grind [dX]);simp only[fh,kz,↓iB,f,I9,eE,aNU,aOw];refine eF rfl rfl (by decide) (by omega) λY F o=>?_;have p:box Y (5,1)=_:=F.bt h;have q:box Y (6,1)=_:=F.bt i;have m:jm w s t kind nt=lc w s t kind nt:=(by simp[jm,b,g,d]);rw[m,axG];simp+contextual only[qz 8,In,qy 6,↓iC,↓iB,↓iS,u0,u1,ut,ar,o,p,q,rk,ix,cT,aj,↓uL];obtain⟨x,H,r,M,y⟩:=D0 b d;refine⟨λu=>?_,λu=>⟨λe=>?_,λe=>⟨λ_=>⟨b,d,f,n⟩,?_⟩⟩⟩;rfl;have:=aNK e;have j:=r (by omega) (by omega);exact⟨λ_ _=>j,λ_ _=>x j,rfl⟩;simp only[aPy];rcases E:Q ((gd s.ay t.toNat).cQ=2) with _|_<;>simp_all
def BU:FT:=bpg Ov
def ays{w s t kind nt Lw K}:=KQ BU Ov w s t kind nt Lw K
def Rm:dO:=(183,BU)::apl
def ape:eJ Rm:=it (Rt Ov)<|yR
def aml:=ai @ays<|@aBn
def ak9:=bA 31 [(6,([15],[7,12])),(10,([42],[4,5,6,7,8,12,15,27])),(12,([51],[4,5,6,7,8,12,15,27]))]
def Ii c b a d e f g R:=(.mk _:NR Rm ak9 Tryz.f130 [.u, .u, .u,d,e,f] [c,b,a] g R).p
def aK1{c0:List AV}{e:List AV}{d f g i:AV}{R:o8}(l0:L c0=6)(l1:L e=4)(y:eY d=V [d])(h:∀b:ae,L b=4096->box b (6,1)=V ⟨31,6,U,U,[c0]⟩->box b (7,1)=V ⟨36,4,U,U,[e]⟩->box b (8,1)=V ⟨3,1,U,U,[[d]]⟩->(∀k,k≠6->k≠7->k≠8->aZ b k=mO)->Ii (.p (6,1) 0 0) (.p (7,1) 0 0) (.p (8,1) 0 0) f g i b R):Fn aS GG 130 [.a c0, .a e,d,f,g,i] R:=by refine uq ready ape Tryz.func130 (an:=ak9) (by kernel_rfl) (aND (show ZF aS GG Rm ak9 Tryz.f130 [.a c0, .a e,d,f,g,i] R=(eV (bxA 31 6 (ly Tryz.f130) 6<|.a c0) λo l=>eV (bxA 36 4 l 7<|.a e) λn m=>eV (bxA 3 1 m 8 d) λc b=>Ii o n c f g i b R) by kernel_rfl) ?_);refine mY (N:=4096) rfl l0 (by decide) (by decide) uB (by rw[i8]) λl z q C g0=>?_;refine mY (N:=4096) rfl l1 (by decide) (by decide) z (by rw[g0 _ (by decide),i8]) λm A r t g1=>?_;refine mY (N:=4096) y rfl (by decide) (by decide) A (by rw[g1 _ (by decide),g0 _ (by decide),i8]) λb B s j u=>?_;exact h b B (by rw[j _ _ (by decide),t _ _<|by decide];exact q) (by rw[j _ _<|by decide];exact r) s (λk v w x=>by rw[u k x,g1 k w,g0 k v];exact i8 _ k)
def aCn{B:aG}{A:(aG)->Prop}(Q:aG)(b:∀a,(∀vs Y',Q vs Y'->a vs Y')->A a)(c:∀vs Y',Q vs Y'->B vs Y'):A B:=b B c
structure Sz(Y:ae)(s:aW)(a1 a2 a3:AV):Prop where
 bx:box Y (7,1)=V ⟨36,4,U,U,[[a1,iv s.tx,a2,a3]]⟩
 g1:sC Y a1 s.ak
 g2:bc Y 4 1 a2 (s.done.map cb)
 g3:bc Y 85 3 a3 (s.ay.map aoC.c)
theorem bc.ids{Y:ae}{e:TypeId}{z:Nat}{a:AV}{aa:List (List AV)}(c:bc Y e z a aa):∀k∈aA a,box Y k=V ⟨e,z,U,I,aa⟩:=by rcases c with⟨_,rfl⟩|⟨b,rfl,d⟩;simp[aA];grind [aA,cE]
def vC.g{Y:ae}{a:AV}{ls:List cg}(h:vC Y a ls):sC Y a ls:=by obtain⟨b,f,c,d,e,j,_⟩:=h;exact⟨b,f,c,d,λi k=>(e i k).x,j⟩
theorem vC.fx{Y Y':ae}{ks:List Id}{a:AV}{ls:List cg}(h:vC Y a ls)(c:Fx Y Y' ks)(p:∀k∈ks,(∃x,box Y k=V x/\((x.var=U/\x.elem≠186)\/(x.var=I/\x.elem≠3)))\/∀x,box Y k≠V x):vC Y' a ls:=by obtain⟨b,f,rfl,m,d,g,j⟩:=h;refine⟨b,f,rfl,c.keep _ _ (λn=>?_) m,λi e=>(d i e).fx c λq o n=>?_,g,j⟩;grind;have l:=(d i e).ids q o;grind
theorem sC.fx{Y Y':ae}{ks:List Id}{a:AV}{ls:List cg}(e:sC Y a ls)(c:Fx Y Y' ks)(m:∀k∈ks,(∃x,box Y k=V x/\((x.var=U/\x.elem≠186)\/(x.var=I/\x.elem≠3)))\/∀x,box Y k≠V x):sC Y' a ls:=by obtain⟨b,f,rfl,h,g,d⟩:=e;refine⟨b,f,rfl,c.keep _ _ (λl=>?_) h,λi j=>(g i j).fx c λq n l=>?_,d⟩;grind;grind [qg.ids]
theorem sC.fr{Y:ae}{a:AV}{ls:List cg}(j:sC Y a ls):dQ Y a= .l (ls.map cg.c) I U:=by obtain⟨b,f,rfl,o,e,n⟩:=j;have m:∀i,i<L ls->([iv (gd ls i).pw,f i].map<|frN Y)=cg.c (gd ls i):=λi d=>(by simp only[ji,mU,(e i d).fr,cg.c];rfl);have p:(io (L ls) λi=>[iv (gd ls i).pw,f i]).map (·.map (frN Y))=ls.map cg.c:=(by rw[aH1 (l:=ls) (g:=cg.c)];grind [io,vA,ja]);have k:((io (L ls) λi=>[iv (gd ls i).pw,f i]).all λr=>r.all λc=>eN<|frN Y c)=U:=(by rw[dV];intro r h;simp only[io,dN,fq] at h;obtain⟨i,d,rfl⟩:=h;simp only[Cs,aqG,(e i d).fr,ru];rfl);have q:(io (L ls) λi=>[iv (gd ls i).pw,f i]).take (L ls)=io (L ls) λi=>[iv (gd ls i).pw,f i]:=(by grind [List.take_of_length_le,aH0]);grind [dQ]
def bc.frD{Y:ae}{e:TypeId}{z:Nat}{a:AV}{aa:List (List AV)}(c:bc Y e z a aa):∃t o,dQ Y a= .l aa t o:=by rcases c with⟨rfl,rfl⟩|⟨b,rfl,d⟩;exact⟨_,_,rfl⟩;simp_all [dQ]
section
variable{Y:ae}{s:aW}{a1 a2 a3:AV}
theorem Sz.fx{Y':ae}(S:Sz Y s a1 a2 a3)(a:Fx Y Y' []):Sz Y' s a1 a2 a3:=⟨a.kq S.bx,S.g1.fx a (by simp),S.g2.fx a (by simp),S.g3.fx a<|by simp⟩
theorem Sz.th{i:Int}{j:Nat}{x:Value}{K:AV->be}(S:Sz Y s a1 a2 a3)(n:aF (L s.ay) i)(o:j<3)(d:aoC)(r:(gd s.ay i.toNat).c.set j (.s x)=d.c)(m:∀b Y',Fx Y Y' (aA a3)->Sz Y' (aNN s i d) a1 a2 a3->aA a3=[b]->K (.p b i.toNat 0) (.p b i.toNat j) Y'):rV (cz 3 Y a3<|iv i) λp=>rV (iQ j Y p) λq=>sV (aK 1 Y q<|.s x) (K p q):=by refine DB S.g3 n o d r λb Y' h a l=>m b Y' a ⟨?_,?_,?_,l⟩ h;refine a.keep _ _ (λf=>?_) S.bx;have:=S.g3.ids _ f;rw[S.bx] at this;cases this;exact S.g1.fx a λk e=> .inl ⟨_,S.g3.ids k e, .inr ⟨rfl,by simp⟩⟩;exact S.g2.fx a λk e f=>by have g:=S.g2.ids _ e;rw[S.g3.ids _ f] at g;cases g
theorem Sz.lk{i o:Int}{K:AV->be}(S:Sz Y s a1 a2 a3)(e:aF (L s.ak) i)(r:∀b Y',Fx Y Y' (aA a1)->Sz Y' (lC s i {cH s i with pw:=o}) a1 a2 a3->aA a1=[b]->K (.p b i.toNat 0) (.p b i.toNat 0) Y'):rV (cz 2 Y a1<|iv i) λp=>rV (iQ 0 Y p) λq=>sV (aK 1 Y q<|iv o) (K p q):=by have h:i.toNat<L s.ak:=(by have:=e.1;have:=e.2;omega);obtain⟨b,f,rfl,d,w,v⟩:=S.g1;have j:cz 2 Y (.m b<|L s.ak) (iv i)=V (.p b i.toNat 0):=(by simp[cz,e.1,d,h]);rw[j];simp only[rV,rR,d,df,aj];refine Bp d (uU h) (x:=iv o) rfl rfl (by simp) λY' c l=>r b Y' c ⟨?_,?_,?_,?_⟩ rfl;refine c.keep _ _ (λg=>?_) S.bx;simp only[cE] at g;have:=S.bx;simp_all;refine⟨b,f,by simp[lC],?_,λk a=>?_,?_⟩;rw[l,Bl];simp only[lC,zq];congr 2;refine yC λk a=>?_;grind [gd,cH,oq];have t:k<L s.ak:=(by grind [lC]);have u:(gd (lC s i {cH s i with pw:=o}).ak k).bk=(gd s.ak k).bk:=(by grind [lC,cH,gd,oq]);grind [qg.fx,qg.ids];grind [lC];exact S.g2.fx c λk a g=>(by have n:=S.g2.ids _ a;simp_all);exact S.g3.fx c λk a g=>by have n:=S.g3.ids _ a;simp_all
theorem Sz.dn{i:Int}{v:Bool}{K:ae->Prop}(S:Sz Y s a1 a2 a3)(e:aF (L s.done) i)(g:∀Y',Fx Y Y' (aA a2)->Sz Y' {s with done:=s.done.set i.toNat v} a1 a2 a3->K Y'):rV (cz 1 Y a2<|iv i) λp=>sV (aK 1 Y p<|bv v) K:=by have n:i.toNat<L s.done:=(by have:=e.1;have:=e.2;omega);refine ixI S.g2 (by grind) λb d h=>?_;have l:(s.done.map cb)[i.toNat]?=V (cb<|gd s.done i.toNat):=(by grind [eC,bT]);refine wL h l (by simp) λY' f m=>?_;have F:Fx Y Y' (aA a2):=(by rw[d];exact f);refine g Y' F ⟨?_,?_,?_,?_⟩;grind [Fx.keep,bc.ids,Sz.g2,Sz.bx];exact S.g1.fx F λk a=> .inl ⟨_,S.g2.ids k a, .inr ⟨rfl,by simp⟩⟩;refine .inr ⟨b,by rw[d];simp,?_⟩;simp_all;exact S.g3.fx F λk a j=>by have c:=S.g3.ids _ a;rw[S.g2.ids _ j] at c;cases c
theorem Sz.tx{x:Int}{K:ae->Prop}(S:Sz Y s a1 a2 a3)(e:∀Y',Fx Y Y' [(7,1)]->Sz Y' {s with tx:=x} a1 a2 a3->K Y'):sV (aK 1 Y (.p (7,1) 0 1)<|iv x) K:=by refine cy (cs:=[iv x]) S.bx rfl rfl (by simp) λY' F c=>e Y' F ⟨c,?_,?_,?_⟩;exact S.g1.fx F (by grind [Sz.bx]);exact S.g2.fx F λk a b=>(by simp only[cE] at b;have d:=S.g2.ids _ a;grind [Sz.bx]);exact S.g3.fx F λk a b=>by simp only[cE] at b;have d:=S.g3.ids _ a;grind [Sz.bx]
end
theorem sC.ids{Y:ae}{a:AV}{ls:List cg}(c:sC Y a ls):∀k∈aA a,∃aa,box Y k=V ⟨186,2,U,U,aa⟩:=by obtain⟨b,f,rfl,d,_⟩:=c;grind [aA,cE]
theorem Sz.no{Y:ae}{s:aW}{a1 a2 a3:AV}(S:Sz Y s a1 a2 a3){c:Id}{x:bY}(b:box Y c=V x)(e:x.var=U)(d:x.elem≠186):c∉aA a1/\c∉aA a2/\c∉aA a3:=by refine⟨λh=>?_,λh=>?_,λh=>?_⟩;obtain⟨aa,a⟩:=S.g1.ids _ h;grind;have a:=S.g2.ids _ h;grind;have a:=S.g3.ids _ h;grind
def Bk{a b c d:AV}:aN J ([a,b,c,d].drop 3)=V d:=rfl
def aHW{a b c d:AV}:aN J ([a,b,c,d].drop 2)=V c:=rfl
def QW{a b c d:AV}:aN J ([a,b,c,d].drop 0)=V a:=rfl
def Ou(w:vb)(s:aW)(t kind nt lD:Int)(hp:jm w s t kind nt=U/\L w.bC<=2/\(∀l∈s.ak,L l.bk<12)/\(∀l∈s.ak,jC l.bk)/\L s.ak<1000/\L s.done<1000/\L s.ay<1000):Ct 130 [.a w.c, .a s.c,iv t,iv kind,iv nt,iv lD] (λr=>∃f,r= .t [.a<|eD (cU w s t kind nt lD).1 f,iv (cU w s t kind nt lD).2,bv U]):=by refine aK1 rfl rfl rfl λs6 hl b1 b2 b3 h0=>?_;obtain⟨he,cB,bd,cG,dv,dw,bF⟩:=hp;have br:=he;simp only[jm,bN] at br;obtain⟨hf,hi,hn,af⟩:=br;obtain⟨f1,f2,f3,f4⟩:=iY hf;obtain⟨mI,lk,cd,th,dn⟩:=D0 hf hn;have ag:aF (L s.ay) t:=(by grind [dX]);simp only[Ii,↓uL];refine mo hl λs8 F8 b8=>?_;have c1:box s8 (6,1)=_:=F8.bt b1;have c2:box s8 (7,1)=V ⟨36,4,U,U,[s.c]⟩:=(by grind [Fr.box]);have c3:box s8 (8,1)=V ⟨3,1,U,U,[[iv t]]⟩:=(by grind [Fr.box]);have bu:L s8=4096:=(by rw[F8.1,hl]);generalize(aZ s6 12).lB+1=Z at*;have ca:lh w s=U/\L w.bC<=2/\∀l∈s.ak,L l.bk<100000:=⟨hf,cB,λl hl=>by have:=bd l hl;omega⟩;simp+contextual only[qz 8,u0,u1,c1,c2,c3,rk,iF,ip,ar,aml,he,aj,fh,eE,aNU,aOw,I9,↓uL];refine⟨ca,?_⟩;refine jH rfl (aCp s bu<|by grind) ?_;rintro r Y1 ⟨⟨a1,a2,a3,rfl,g1,g2,g3,hN,bD⟩,F1⟩;refine⟨F1.len,?_⟩;have d1:=F1.kq c1;have d2:=F1.kq c2;have d3:=F1.kq c3;have d8:=F1.kq b8;simp only[qz 12,↓uL];refine cy (cs:=[a1,iv s.tx,a2,a3]) d2 rfl rfl (by simp[aW.c]) λB F2 e2=>?_;have bp:vC B a1 s.ak:=(by grind [vC.fx]);have S:Sz B s a1 a2 a3:=(by refine⟨e2,g1.g.fx F2 λk W=>?_,g2.fx F2 λk W H=>?_,g3.fx F2 λk W H=>?_⟩;simp_all;simp only[cE] at H;have y:=g2.ids _ W;simp_all;grind);have e1:box B (6,1)=_:=F2.kq d1;have e3:=F2.kq d3;have e8:box B (12,Z)=V ⟨36,4,U,U,[aNC]⟩:=F2.kq d8;have ax:L B=4096:=F2.len.trans<|F1.len.trans bu;simp only[qz 14,di,↓uL];refine aCn (λvs Y'=>vs=[iv (cU w s t kind nt lD).2]/\Sz Y' (cU w s t kind nt lD).1 a1 a2 a3/\∃aa,box Y' (12,Z)=V ⟨36,4,U,U,[aa]⟩/\L aa=4) (λo hJ=>?_) ?_;have aq:∀(sv:aW×Int) Y',cU w s t kind nt lD=sv->Sz Y' sv.1 a1 a2 a3->(∃aa,box Y' (12,Z)=V ⟨36,4,U,U,[aa]⟩/\L aa=4)->o [iv sv.2] Y':=(by grind);have r0:∃aa,box B (12,Z)=V ⟨36,4,U,U,[aa]⟩/\L aa=4:=⟨_,e8,rfl⟩;have rK:∀{Y Y':ae} {s':aW} {ks:List Id},Sz Y s' a1 a2 a3->(∃aa,box Y (12,Z)=V ⟨36,4,U,U,[aa]⟩/\L aa=4)->Fx Y Y' ks->(ks=aA a1\/ks=aA a2\/ks=aA a3\/ks=[(7,1)])->(∃aa,box Y' (12,Z)=V ⟨36,4,U,U,[aa]⟩/\L aa=4):=(by rintro Y Y' s' ks N ⟨aa,y,A⟩ F dt;obtain⟨n1,n2,n3⟩:=N.no y rfl (by simp);refine⟨aa,F.keep _ _ ?_ y,A⟩;grind);simp+contextual only[qz 41,qy 16,qy 18,u0,u1,S.bx,e3,aj,dc,Bk,iF,ip,↓uL];refine⟨λk1=>?_,λk1=>⟨λk2=>?_,λk2=>?_⟩⟩;have dx:=aNK k1;exact S.th ag (by decide) {fA s t with cQ:=2} rfl (by grind [cU]);have dy:=aNK k2;exact S.th ag (by decide) {fA s t with cQ:=5} rfl (by grind [cU]);simp only[aOe,qz 65,iM,aY,sw,↓uL];simp+contextual only[qz 63,qy 20,aI,au,u0,u1,S.bx,e3,aj,dc,Bk,QW,iF,ip,↓uL];refine⟨λk6=>?_,λk6=>?_⟩;simp only[fH,aBY] at k6;exact S.lk (by grind) (by grind [cU]);simp only[aOe,qz 77,iM,aY,sw,↓uL];simp+contextual only[qz 75,qy 22,qy 24,qy 38,qy 40,qy 42,qy 44,qy 58,qy 60,qy 62,qy 64,aI,au,u0,u1,S.bx,e1,e3,aj,dc,Bk,QW,aHW,iF,ip,↓uL];refine⟨λk7=>?_,λk7=>?_⟩;simp only[fH,aBY] at k7;exact S.lk (by grind) (by grind [cU]);refine⟨λk8=>?_,λk8=>⟨λk9=>?_,λk9=>⟨λbG=>?_,λbG=>⟨λbH=>?_,λbH=>⟨λbI=>?_,λbI=>⟨λbM=>?_,λbM=>⟨λbO=>?_,λbO=>⟨λbR=>?_,λbR=>⟨λbS=>?_,λbS=>⟨λbT=>?_,λbT=>⟨λbU=>?_,λbU=>⟨λbV=>?_,λbV=>?_⟩⟩⟩⟩⟩⟩⟩⟩⟩⟩⟩⟩;have k:=aNK k8;have M:=lk (by omega) (by omega);have G:nt.toNat<L s.ak:=qI M;obtain⟨C,f,rfl,P,hX,hD,hP⟩:=bp;have hc:=hX _ G;have aM:=cG _<|ii M;have be:=bd _<|ii M;have bB:t∉(gd s.ak nt.toNat).bk:=(by rw[lc] at af;simp[k] at af;exact af.2.2);have ba:cz 2 B (.m C<|L s.ak) (iv nt)=V (.p C nt.toNat 0):=(by simp[cz,M.1,P,G]);have bb:lS J B (.p C nt.toNat 1)=V (f nt.toNat):=(by simp only[lS,iE,P,qd,uU G,df];rfl);simp only[ba,aY,rR,P,df,aj,bb,iz,bQ,↓uL];refine gD (new:=[ci t]) hc rfl (by decide) (by omega) fF (by simp) (by simp;omega) λa' R ao D cD cF=>?_;have cv:(gd s.ak nt.toNat).bk.map ci++[ci t]=((gd s.ak nt.toNat).bk++[t]).map ci:=(by simp);rw[cv] at ao;obtain⟨z,rfl,a6⟩:∃z,a'= .m z (L (gd s.ak nt.toNat).bk+1)/\box R z=V ⟨3,1,U,I,((gd s.ak nt.toNat).bk++[t]).map ci⟩:=(by rcases ao with⟨y,_⟩|⟨z,y,A⟩;simp at y;exact⟨z,by rw[y];simp,A⟩);have a8:z.1≠7:=(by rcases cF z (by simp[aA]) with h|h;grind;omega);have bq:z∈aA (f nt.toNat)\/bK B z:=cD z (by simp[aA]);simp only[qz 26,↓uL];refine dT (by simp[eL,okT,tok,lb,J3,dC,dK]) ?_;refine jH rfl (aCO aM bB be a6<|D.len.trans ax) ?_;rintro r Y4 ⟨rfl,cx,F4⟩;refine⟨F4.len,?_⟩;have nv:∀{q:Id} {x:bY},box B q=V x->x.elem≠3\/x.var=U->q∉aA (f nt.toNat)/\q≠z:=λ{q x} v X=>(by have y:q∉aA (f nt.toNat):=λH=>(by rw[hc.ids _ H] at v;grind);grind [bK.no]);have bX:∀{q:Id} {x:bY},box B q=V x->x.elem≠3\/x.var=U->box Y4 q=V x:=λ{q x} v X=>(by obtain⟨n1,n2⟩:=nv v X;exact F4.keep _ _ (by simpa using n2)<|D.keep _ _ n1 v);simp only[qz 28,u0,u1,bX S.bx<|.inl<|by simp,aj,QW,ip,iF,↓uL];have ch:L (fk (gd s.ak nt.toNat).bk t)=L (gd s.ak nt.toNat).bk+1:=(by have:=QK (gd s.ak nt.toNat).bk t;have h0:∀{l:List Int} {t:Int},t∉l->L (fk l t)=L l+1:=(by intro l;induction l with|nil=>intro t _;rfl|cons x l ih=>intro t ht;simp only[eW,not_or] at ht;simp only[fk];split;simp[ih ht.2];grind);exact h0 bB);have bz:=λK=>awP (d:=76) (K:=K) (Nz aM) cx (F4.len.trans<|D.len.trans ax) (by omega);simp only[ch] at bz;refine bz _ λY5 F5 cA=>?_;have b0:∀{q:Id} {x:bY},box B q=V x->x.elem≠3\/x.var=U->box Y5 q=V x:=λ{q x} v X=>F5.keep _ _ (by simpa using(nv v X).2) (bX v X);have aJ:=b0 P (.inl<|by simp);have cf:cz 2 Y5 (.m C<|L s.ak) (iv nt)=V (.p C nt.toNat 0):=(by simp[cz,M.1,aJ,G]);simp only[qz 30,cf,aY,rR,aJ,df,aj,↓uL];refine Bp aJ (uU G) (x:= .m z<|L (gd s.ak nt.toNat).bk+1) rfl rfl (by simp) λY6 F6 a7=>?_;simp only[qz 32,↓uL];have nL:∀{q:Id} {x:bY},box B q=V x->x.elem≠186->q≠C:=(by grind);have O:∀{q:Id} {x:bY},box B q=V x->x.elem≠3\/x.var=U->x.elem≠186->box Y6 q=V x:=λ{q x} v X hL=>F6.keep _ _ (by simpa using nL v hL)<|b0 v X;have aD:z≠C:=(by grind);have S6:Sz Y6 (lC s nt {cH s nt with bk:=mP (cH s nt).bk [t]}) (.m C<|L s.ak) a2 a3:=(by refine⟨O S.bx (.inr rfl) (by simp),⟨C,λi=>if i=nt.toNat then .m z (L (gd s.ak nt.toNat).bk+1) else f i,by simp[lC],?_,λi hi=>?_,λi j hi hj bA q v=>?_⟩,?_,?_⟩;rw[a7,Bl];simp only[lC,zq];congr 2;refine yC λi hi=>?_;by_cases h:i=nt.toNat;subst h;simp[gd,G,cH];have:gd (s.ak.set nt.toNat {cH s nt with bk:=mP (cH s nt).bk [t]}) i=gd s.ak i:=(by simp only[gd,eI];rw[oq<|λe=>h e.symm]);grind;have E:i<L s.ak:=(by simpa[lC] using hi);by_cases h:i=nt.toNat;subst h;have:(gd (lC s nt {cH s nt with bk:=mP (cH s nt).bk [t]}).ak nt.toNat).bk=fk (gd s.ak nt.toNat).bk t:=(by rw[show gd (lC s nt {cH s nt with bk:=mP (cH s nt).bk [t]}).ak nt.toNat={cH s nt with bk:=mP (cH s nt).bk [t]} from by simp[lC,gd,G]];exact Ro aM);simp only[this,↓reduceIte];refine .inr ⟨z,(fk (gd s.ak nt.toNat).bk t).map ci,by grind,F6.keep _ _ (by simpa using aD) cA,gV⟩;have:gd (lC s nt {cH s nt with bk:=mP (cH s nt).bk [t]}).ak i=gd s.ak i:=(by simp only[lC,gd,eI];rw[oq<|λe=>h e.symm]);simp only[this,J7 h];have q0:∀q∈aA (f i),q∉aA (f nt.toNat)/\q≠z/\q≠C:=λq v=>(by have y:=hD i nt.toNat E G h q v;have A:=(hX i E).ids q v;refine⟨y,?_,by grind⟩;rintro rfl;rcases bq with h3|h3;exact y h3;exact h3.no _ A);exact((((hX i E).fx D λq v=>(q0 q v).1).fx F4 λq v=>by simpa using(q0 q v).2.1).fx F5 λq v=>by simpa using(q0 q v).2.1).fx F6 (λq v=>by simpa using(q0 q v).2.2)|>.x;have E:i<L s.ak:=(by simpa[lC] using hi);have aO:j<L s.ak:=(by simpa[lC] using hj);have aw:∀m,m<L s.ak->m≠nt.toNat->z∉aA (f m):=λm H bw v=>(by rcases bq with h3|h3;grind;exact h3.no _<|(hX m H).ids _ v);by_cases y:i=nt.toNat;have A:j≠nt.toNat:=(by omega);simp only[J9 y,aA,cE] at v;subst v;simp only[J7 A];exact aw j aO A;simp only[J7 y] at v;by_cases A:j=nt.toNat;simp only[J9 A,aA,cE];rintro rfl;exact aw i E y v;simp only[J7 A];exact hD i j E aO bA q v;rcases S.g2 with h|⟨q,y,A⟩;exact .inl h;exact .inr ⟨q,y,O A (.inl<|by simp) (by simp)⟩;rcases S.g3 with h|⟨q,y,A⟩;exact .inl h;exact .inr ⟨q,y,O A (.inl<|by simp) (by simp)⟩);obtain⟨aa,r1,r2⟩:=r0;refine dT (by simp[eL,okT,tok,lb,J3,dC,dK,a8.symm]) (aq (_,0) Y6 (by simp[cU,lC,k]) S6 ⟨aa,O r1 (.inr rfl) (by simp),r2⟩);have k:=aNK k9;have M:=lk (by omega) (by omega);have G:nt.toNat<L s.ak:=qI M;obtain⟨C,f,rfl,P,hX,hD,hP⟩:=bp;have hc:=hX _ G;have be:=bd _<|ii M;have H:t∈(gd s.ak nt.toNat).bk:=(by rw[lc] at af;simp[k] at af;exact af.2);obtain⟨z,bs,a6⟩:∃z,f nt.toNat= .m z (L (gd s.ak nt.toNat).bk)/\box B z=V ⟨3,1,U,I,(gd s.ak nt.toNat).bk.map ci⟩:=(by rcases hc with⟨y,_⟩|⟨z,y,A⟩;simp at y;grind;grind);have a9:aA (f nt.toNat)=[z]:=(by rw[bs];rfl);have a8:z.1≠7:=(by grind);have ba:cz 2 B (.m C<|L s.ak) (iv nt)=V (.p C nt.toNat 0):=(by simp[cz,M.1,P,G]);have bb:lS J B (.p C nt.toNat 1)=V (f nt.toNat):=(by simp only[lS,iE,P,qd,uU G,df];rfl);simp only[ba,aY,rR,P,df,aj,bb,bs,↓uL];refine awR H a6 e3 ax (by omega) λR D cw=>?_;have nv:∀{q:Id} {x:bY},box B q=V x->x.elem≠3\/x.var=U->q≠z:=(by grind);have bW:∀{q:Id} {x:bY},box B q=V x->x.elem≠3\/x.var=U->box R q=V x:=λ{q x} v X=>D.keep _ _ (by simpa using nv v X) v;have aG:=bW P (.inl<|by simp);have ce:cz 2 R (.m C<|L s.ak) (iv nt)=V (.p C nt.toNat 0):=(by simp[cz,M.1,aG,G]);simp only[qz 34,ce,aY,rR,aG,df,aj,↓uL];refine Bp aG (uU G) (x:= .m z<|L<|fJ (gd s.ak nt.toNat).bk t) rfl rfl (by simp) λY6 F6 a7=>?_;simp only[qz 36,↓uL];have nL:∀{q:Id} {x:bY},box B q=V x->x.elem≠186->q≠C:=(by grind);have O:∀{q:Id} {x:bY},box B q=V x->x.elem≠3\/x.var=U->x.elem≠186->box Y6 q=V x:=λ{q x} v X hL=>F6.keep _ _ (by simpa using nL v hL)<|bW v X;have aD:z≠C:=(by grind);have S6:Sz Y6 (lC s nt {cH s nt with bk:=fJ (cH s nt).bk t}) (.m C<|L s.ak) a2 a3:=(by refine⟨O S.bx (.inr rfl) (by simp),⟨C,λi=>if i=nt.toNat then .m z (L<|fJ (gd s.ak nt.toNat).bk t) else f i,by simp[lC],?_,λi hi=>?_,λi j hi hj bA q v=>?_⟩,?_,?_⟩;rw[a7,Bl];simp only[lC,zq];congr 2;refine yC λi hi=>?_;by_cases h:i=nt.toNat;subst h;simp[gd,G,cH];have:gd (s.ak.set nt.toNat {cH s nt with bk:=fJ (cH s nt).bk t}) i=gd s.ak i:=(by simp only[gd,eI];rw[oq<|λe=>h e.symm]);grind;have E:i<L s.ak:=(by simpa[lC] using hi);by_cases h:i=nt.toNat;subst h;have:(gd (lC s nt {cH s nt with bk:=fJ (cH s nt).bk t}).ak nt.toNat).bk=fJ (gd s.ak nt.toNat).bk t:=(by simp[lC,gd,G,cH]);simp only[this,↓reduceIte];refine .inr ⟨z,_,by simp,F6.keep _ _ (by simpa using aD) cw,?_⟩;simp;have:gd (lC s nt {cH s nt with bk:=fJ (cH s nt).bk t}).ak i=gd s.ak i:=(by simp only[lC,gd,eI];rw[oq<|λe=>h e.symm]);simp only[this,J7 h];have q0:∀q∈aA (f i),q≠z/\q≠C:=λq v=>(by have y:=hD i nt.toNat E G h q v;rw[a9] at y;have A:=(hX i E).ids q v;grind);exact(((hX i E).fx D<|by grind).fx F6<|λq v=>by simpa using(q0 q v).2).x;have E:i<L s.ak:=(by simpa[lC] using hi);have aO:j<L s.ak:=(by simpa[lC] using hj);have aw:∀m,m<L s.ak->m≠nt.toNat->z∉aA (f m):=λm H bw v=>hD m nt.toNat H G bw _ v (by grind);by_cases y:i=nt.toNat;have A:j≠nt.toNat:=(by omega);simp only[J9 y,aA,cE] at v;subst v;simp only[J7 A];exact aw j aO A;simp only[J7 y] at v;by_cases A:j=nt.toNat;simp only[J9 A,aA,cE];rintro rfl;exact aw i E y v;grind;rcases S.g2 with h|⟨q,y,A⟩;exact .inl h;exact .inr ⟨q,y,O A (.inl<|by simp) (by simp)⟩;rcases S.g3 with h|⟨q,y,A⟩;exact .inl h;exact .inr ⟨q,y,O A (.inl<|by simp) (by simp)⟩);obtain⟨aa,r1,r2⟩:=r0;refine dT (by simp[eL,okT,tok,lb,J3,dC,pP,dK,a8.symm]) (aq (_,0) Y6 (by simp[cU,lC,k]) S6 ⟨aa,O r1 (.inr rfl) (by simp),r2⟩);have k:=aNK bG;exact S.tx (by grind [cU]);have k:=aNK bH;exact S.tx (by grind [cU]);have k:=aNK bI;exact S.th ag (by decide) {fA s t with atomic:=U} rfl (by grind [cU]);have k:=aNK bM;exact S.th ag (by decide) {fA s t with atomic:=I} rfl (by grind [cU]);have k:=aNK bO;have T:=cd (by omega) (by omega);simp only[rk,ix,u0,u1,↓uL];refine⟨T,?_⟩;refine S.lk (mI T) λb Y' F' N a9=>?_;have n:=S.no e3 rfl (by simp);have a4:=F'.keep _ _ n.1 e3;simp only[qz 46,u0,u1,N.bx,a4,aj,Bk,iF,ip,↓uL];refine N.th (by grind [lC]) (by decide) {fA s t with cQ:=3} rfl λb3 R D S3 aL=>?_;simp only[qz 48,↓uL];refine S3.th (by grind [lC,aNN]) (by decide) {fA s t with cQ:=3,cond:=nt} (by simp only[aNN,lC];rw[Af ag];rfl) λb4 Y4 F4 S4 cc=>?_;simp only[qz 50,↓uL];refine dT ?_ (aq (_,0) Y4 ?_ S4<|rK S3 (rK N (rK S r0 F'<|by simp) D<|by simp) F4<|by simp);have:=bD b3 (by rw[aL];simp);simp[eL,okT,tok,lb,J3,dC,dK,this.1.symm,this.2.symm];simp[cU,k,aNN,lC];have k:=aNK bR;have T:=cd (by omega) (by omega);simp only[rk,ix,u0,u1,↓uL];refine⟨T,?_⟩;refine S.lk (mI T) λb Y' F' N a9=>?_;have n:=S.no e3 rfl (by simp);have a4:=F'.keep _ _ n.1 e3;simp only[qz 52,u0,u1,N.bx,a4,aj,Bk,iF,ip,↓uL];refine N.th (by grind [lC]) (by decide) {fA s t with cQ:=2} rfl λb3 R D S3 aL=>?_;simp only[qz 54,↓uL];refine S3.th (by grind [lC,aNN]) (by decide) {fA s t with cQ:=2,cond:=0} (by simp only[aNN,lC];rw[Af ag];rfl) λb4 Y4 F4 S4 cc=>?_;simp only[qz 56,↓uL];refine dT ?_ (aq (_,0) Y4 ?_ S4<|rK S3 (rK N (rK S r0 F'<|by simp) D<|by simp) F4<|by simp);have:=bD b3 (by rw[aL];simp);simp[eL,okT,tok,lb,J3,dC,dK,this.1.symm,this.2.symm];simp[cU,k,aNN,lC];have k:=aNK bS;simp only[uS,aY,↓uL];refine jH rfl (aCD s nt lD ax bF S.g3) ?_;rintro r R ⟨rfl,ao,D⟩;have ds:∀x:aW,x.ak=s.ak->x.tx=s.tx->x.done=s.done->bc R 85 3 a3 (x.ay.map aoC.c)->Sz R x a1 a2 a3:=λx q1 q2 q3 q4=>(by have n:=S.no S.bx rfl (by simp);refine⟨by grind [Fx.keep,Sz.bx],by rw[q1];exact S.g1.fx D λk W=> .inl ⟨_,S.g3.ids k W, .inr ⟨rfl,by simp⟩⟩,?_,q4⟩;rw[q3];exact S.g2.fx D λk W H=>by have y:=S.g2.ids _ W;rw[S.g3.ids _ H] at y;cases y);refine⟨D.len,?_⟩;by_cases hw:fO s nt=[];have hc:gH s nt lD (L s.ay)= -1:=(by rw[gH];exact J9 hw);grind [cU];have hc:gH s nt lD (L s.ay)=tD s nt lD:=(by rw[gH];exact J7 hw);have h0:0<=tD s nt lD:=(by rw[<-hc,gH,J7<|show¬eh s nt (L s.ay)=[] from hw];split;grind [AN];exact(Li hw).1);grind [cU,aNN,tD,fA];have k:=aNK bT;simp only[uS,aY,↓uL];refine jH rfl (aCE s nt ax bF S.g3) ?_;rintro r R ⟨rfl,ao,D⟩;have n:=S.no S.bx rfl (by simp);have H:∀(l:List Int) (s:aW),(mH s l).ak=s.ak/\(mH s l).tx=s.tx/\(mH s l).done=s.done:=(by intro l;induction l with|nil=>simp|cons u l ih=>grind [aNN]);obtain⟨q1,q2,q3⟩:=H (fO s nt) s;refine⟨D.len,?_⟩;refine aq (mH s<|fO s nt,L<|fO s nt) R (by simp[cU,k]) ⟨?_,?_,?_,ao⟩ (rK S r0 D<|by simp);grind [Fx.keep,Sz.bx];rw[q1];exact S.g1.fx D λk W=> .inl ⟨_,S.g3.ids k W, .inr ⟨rfl,by simp⟩⟩;rw[q3];exact S.g2.fx D λk W H=>(by have y:=S.g2.ids _ W;rw[S.g3.ids _ H] at y;cases y);have k:=aNK bU;exact S.th (by grind) (by decide) {fA s nt with cQ:=1} rfl (by grind [cU]);have k:=aNK bV;exact S.dn (by grind) (by grind [cU]);grind [cP,decide_eq_false_iff_not,cU];rintro vs Y' ⟨rfl,N,aa,r1,r2⟩;have du:(7:Nat)≠12:=(by decide);simp only[qz 39,aI,u0,u1,N.bx,aj,uS,↓uL];refine cy (cs:=[a1,iv (cU w s t kind nt lD).1.tx,a2,a3]) r1 rfl rfl (by omega) λad aV dr=>?_;have cp:box ad (12,Z)=V ⟨36,4,U,U,[[a1,iv (cU w s t kind nt lD).1.tx,a2,a3]]⟩:=(by simp_all);have n:=N.no r1 rfl (by simp);have y:=N.g1.fx aV (by simp_all);have A:=N.g2.fx aV (by grind);have h3:=N.g3.fx aV (by grind);simp only[qz 66,u0,u1,cp,aj,uS,au,↓uL];obtain⟨t2,o2,q2⟩:=A.frD;obtain⟨t3,o3,q3⟩:=h3.frD;have hr:jS ad [.a [a1,iv (cU w s t kind nt lD).1.tx,a2,a3],iv (cU w s t kind nt lD).2,bv U]= .t [.a<|eD (cU w s t kind nt lD).1 (I,U,t2,o2,t3,o3),iv (cU w s t kind nt lD).2,bv U]:=(by show AV.t [.a [dQ ad a1,dQ ad<|iv (cU w s t kind nt lD).1.tx,dQ ad a2,dQ ad a3],_,_]=_;rw[y.fr,q2,q3];rfl);unfold aE;rw[hr];exact⟨rfl,_,rfl⟩
def BT:FT:=BL Ou
def ayr{w s t kind nt lD Lw K}:=al4 BT Ou w s t kind nt lD Lw K
def aYa:dO:=(130,BT)::Rm
def Bv:eJ aYa:=it (apO Ou)<|ape
def rX:=ai @ayr<|@aml
def alc:=bA 21 [(8,([8],[3,4,5,6])),(15,([],[5,6,12]))]
def JW c b a d R:=(.mk _:NR aYa alc Tryz.f152 [.u, .u, .u] [c,b,a] d R).p
def aMI{c0:List AV}{b:List AV}{c:List AV}{R:o8}(l0:L c0=6)(l1:L b=7)(d:L c=7)(h:H3 31 6 3 c0 40 7 4 b 87 7 5 c λf g i e=>JW f g i e R):Ct 152 [.a c0, .a b, .a c] R:=z3 alc Bv Tryz.func152 l0 l1 d h
def ath:=bA 22 [(8,([32],[1,2,4,5,30,31])),(15,([8],[1,2,4,5,7,30,31,32]))]
def Zt a b R:=(.mk _:NR aYa ath Tryz.f96 [.u] [a] b R).p
def aKI{c0:List AV}{R:o8}(l0:L c0=15)(h:H1 43 15 1 c0 λia b=>Zt ia b R):Ct 96 [.a c0] R:=z1 ath Bv Tryz.func96 l0 h
def atm:=bA 23 [(6,([25],[1,2,23,24])),(15,([53],[1,2,6,23,24,25,51,52]))]
def ZW a b c R:=(.mk _:NR aYa atm Tryz.f154 [.u,b] [a] c R).p
def aKN{c0:List AV}{b:AV}{R:o8}(l0:L c0=16)(h:H1 174 16 2 c0 λia c=>ZW ia b c R):Ct 154 [.a c0,b] R:=z1 atm Bv Tryz.func154 l0 h
def asv:=bA 21 [(13,([62],[1,60,61]))]
def Sw a b R:=(.mk _:NR aYa asv Tryz.f89 [.u] [a] b R).p
def aJW{c0:List AV}{R:o8}(l0:L c0=6)(h:H1 31 6 1 c0 λia b=>Sw ia b R):Ct 89 [.a c0] R:=z1 asv Bv Tryz.func89 l0 h
def NG(w:vb)(C:mQ w=U):Ct 89 [.a w.c] (·=bv U):=by refine aJW rfl λO B e M=>?_;have u:=C;simp only[mQ,bN,eH] at u;obtain⟨d,h⟩:=u;obtain⟨l,b⟩:∃l,lY w=V l:=(by grind);rw[b] at h;simp only[bN,aBY] at h;obtain⟨q,s,K⟩:=h;have H:=anD b;have p:(jv w.cells (L w.cells) 0 []).isSome=U/\l=wB w (zV w.cells):=(by unfold lY at b;unfold zV;cases A:jv w.cells (L w.cells) 0 [] with|none=>simp_all|some r=>rw[A] at b;simp only[df,bE] at b;exact⟨rfl,b.symm⟩);obtain⟨n,rfl⟩:=p;simp only[wJ,cP,aNG] at d;obtain⟨⟨⟨⟨⟨⟨z1,z2⟩,z3⟩,D⟩,E⟩,F⟩,G⟩:=d;simp+contextual only[Sw,u0,u1,e,rk,aj,z1,z2,z3,D,E,F,G,aPF,kz,lG,eE,aNU,aOw,I9,ar,rX,n,↓uL];refine⟨by omega,?_⟩;rintro r ⟨t,o,rfl⟩;refine⟨.inl rfl,?_⟩;simp+contextual only[oJ,pG,u0,u1,e,rk,aj,ar,rX,AL,fh,kz,lG,eE,aNU,aOw,I9,↓uL];refine⟨⟨q,by omega⟩,?_⟩;refine pQ (L w.bC) [6] (λk=>True) trivial λk Y N _ i=>?_;have f:box Y (1,1)=_:=i.bt e;simp+contextual only[qz 79,qy 4,u0,u1,f,rk,ix,aj,bh,↓uL];refine⟨λg=>⟨vp g,?_⟩,λg=>?_⟩;refine eF rfl rfl (by decide) (by rw[i.1,B];decide) λx v y=>?_;have z:box x (1,1)=_:=v.bt f;have j:=s k<|aL g;simp only[uh,cP,aNG] at j;have m:dh (gd w.bC k).eg (L w.ak)=U:=(by rw[dX];exact⟨by omega,by omega⟩);simp+contextual only[qz 6,↓iC,↓iB,↓iS,u0,u1,y,z,rk,ix,aj,bh,ar,rX,m,j.2,iw,beq_self_eq_true,fh,eE,aNU,aOw,I9,↓uL];grind [oL,aL,Fr.trans];simp+contextual only[u0,u1,f,rk,aj,ar,rX,I9,↓uL];grind
def EU:FT:=mT NG
def axU{w Lw K}:=f110 EU NG w Lw K (j:=by simp+contextual only[ij,j9])
theorem awz{w:am}{f e:Int}(h:aOj w f e=U):wW (gd w.ac e.toNat).kind=U:=by grind [aOj,wW,decide,gd]
def Ds(l:List Int):cJ:=⟨2,0,0,0,0,l⟩
def Od(x:jY)(l:List Int)(B:nK x/\qx x.w (Ds l)=U):Ct 154 [.a x.c,sl ci l] (·=bv U):=by refine aKN rfl λC P u H=>?_;obtain⟨z,s⟩:=B;have D:=z.wo.ev;have n:box C (2,1)=V ⟨174,16,U,U,[x.w.c++[sl aW.c x.ss]]⟩:=u;simp only[qx,bN,eH,aBY] at s;obtain⟨K,t,f⟩:=s;have e:(Ds l).cW=l:=rfl;have F:2<=L l/\L l<=4:=(by grind [rO,cP,decide_eq_false_iff_not]);rw[e] at t f;have A:∀j,j<L l->aF (L x.w.ac) (gd l j):=(by grind [dX]);have o:(l.all λi=>dh i<|L x.w.ac)=U:=(by grind [dV,List.mem_iff_getElem,bT]);have z1:¬((L l:Int)<2):=(by omega);have z2:¬((4:Int)<L l):=(by omega);have d:aN (V 16) (x.w.c++[sl aW.c x.ss])=V (.a x.c):=rfl;simp+contextual only[ZW,u0,u1,n,kj,d,rk,ix,aj,z1,z2,aPF,kz,lG,eE,aNU,aOw,I9,ar,sG,rX,o,fh,↓uL];refine⟨by omega,?_⟩;refine C7 (L l) (λk=>True) trivial λk O N=>?_;have q:wl .rem 0 [] (iv<|dq.wrap<|(k:Int)+1) (iv<|L l)=V (iv (((k+1)%L l:Nat):Int)):=(by rw[fX<|by omega];exact aod<|by omega);have p:(k+1)%L l<L l:=Nat.mod_lt _ (by omega);simp+contextual only[qz 37,u0,u1,n,kj,d,rk,ix,aj,ar,sG,rX,bh,Gx,q,cT,↓uL];refine⟨λr=>?_,λr=>trivial⟩;have g:=aL r;obtain⟨y,M⟩:=f k g;have b:=y;simp only[rN,cP,fK,e,alP] at b;have G:wW (gd x.w.ac (gd l<|(k+1)%L l).toNat).kind=U:=(by grind [rN,cP,fK,awz]);simp+contextual only[b.1,b.2,eE,aNU,aOw,fh,kz,lG,I9,aov,cT,u0,u1,↓uL];refine⟨dJ g,⟨by omega,by omega⟩,dJ p,(by simp_all),(by omega),?_⟩;have h:L (l.take k)=k:=(by simp_all);rw[bh,h];refine C7 k (λm=>True) trivial λm R _=>?_;simp+contextual only[qz 91,u0,u1,n,kj,d,rk,ix,aj,bh,cT,h,↓uL];refine⟨λv=>?_,by grind [gS]⟩;have E:=aL v;grind [gd,bT,sP,dJ,gS]
def Fb:FT:=aIc Od
def ayf{x l Lw K}:=f210 Fb Od x l Lw K (j:=by simp+contextual only[ij,j9])
structure kQ(n:Nat)(s:aW):Prop where
 lo:L s.ak<=4
 dn:L s.done<=2
 th:L s.ay<=4
 rd:∀l∈s.ak,jC l.bk/\∀x∈l.bk,aF n x
def aB2{l:List Int}{n:Nat}(h:jC l)(b:∀x∈l,aF n x):∀i:Nat,i<L l->(i:Int)<=gd l i:=by intro i;induction i with|zero=>intro a;exact(b _<|dB a).1|succ i c=>intro a;have:=h i a;omega
def AC{l:List Int}{n:Nat}(h:jC l)(a:∀x∈l,aF n x):L l<=n:=by rcases oD (L l) with b|b;omega;have c:=aB2 h a (L l-1) (by omega);have d:=(a _<|dB<|show L l-1<L l by omega).2;omega
structure vL(w:am):Prop where
 wo:kB w
 th:L w.aQ.ay<=4
 sy:∀k:Nat,k<L w.ac->kQ (L w.aQ.ay) (cY w k).mp
def awH{ds:List AV}{s:aW}{Y:ae}(h:Lk ds s.c):aX bnE 1 Y [(0, .a ds)]=V (.l [s.c] U U,Y):=by unfold aX;simp only[ji,mU,Cz,RN,cL,show nrm (eR Y<|.a ds)= .a s.c from h.arg Y,x9 h];rfl
def aDi{s:aW}{f:Bool×Bool×Bool×Bool×Bool×Bool}:Lk (eD s f) s.c:=⟨rfl,rfl⟩
def aQv(w:am)(k:Nat):List aW:=(aH k).map λj=>(cY w j).mp
def aIv{w:am}{k:Nat}:aQv w (k+1)=aQv w k++[(cY w k).mp]:=by rw[aQv,qn,dg];rfl
theorem aIu{w:am}{k:Nat}:L (aQv w k)=k:=by simp[aQv]
def Kk{w:am}(h:vL w){k:Nat}(c:k<L w.ac):jm w.aQ (cY w k).mp (gd w.ac k).aq (gd w.ac k).kind (gd w.ac k).nt=U/\L w.aQ.bC<=2/\(∀l∈(cY w k).mp.ak,L l.bk<12)/\(∀l∈(cY w k).mp.ak,jC l.bk)/\L (cY w k).mp.ak<1000/\L (cY w k).mp.done<1000/\L (cY w k).mp.ay<1000:=by have d:=(h.wo.en k c).2;have a:=h.sy k c;have:=h.th;have:=a.lo;have:=a.dn;have:=a.th;refine⟨?_,h.wo.co,λl b=>by have:=AC (a.rd l b).1 (a.rd l b).2;omega,λl b=>(a.rd l b).1,by omega,by omega,by omega⟩;grind [C1,aOL,eH,cP,fK]
def aoF{w:am}(h:vL w){k:Nat}(a:k<L w.ac):(cY w<|k+1).mp=(cU w.aQ (cY w k).mp (gd w.ac k).aq (gd w.ac k).kind (gd w.ac k).nt<|og<|gd w.ac k).1:=by have b:=(h.wo.en k a).2;grind [cY,nD,oc]
def NX(w:am)(M:vL w):Ct 96 [.a w.c] (λr=>∃f o,r= .t [.a<|w.c++[.l ((aQv w<|L w.ac).map aW.c) f o],bv U]):=by refine aKI rfl λs2 x b1 h0=>?_;have bq:=M.wo.ev;have br:=M.th;have z1:¬((16:Int)<L w.ac):=(by omega);have z2:¬((4:Int)<L w.aQ.ay):=(by omega);simp only[Zt,↓uL];refine mo x λs3 s b3=>?_;have c1:box s3 (1,1)=_:=s.bt b1;have r15:aN (V 15) w.c=V (.a w.c):=rfl;have aP:bM baF [(0,15),(15,1)] [(0, .a w.c)]=V (.a<|w.c++[.l [] U U]):=rfl;simp only[qz 4,qy 6,u0,u1,c1,r15,aP,aY,↓uL];refine mo (s.1.trans x) λZ O ap=>?_;have aq:box Z (4,(aZ s3 4).lB+1)=V ⟨174,16,U,U,[baF]⟩:=ap;have aR:L (w.c++[AV.l [] U U])=16:=(by simp[am.c,vb.c,mn.c,aW.c]);have S:L (baF)=16:=rfl;have aU:4<L Z:=(by rw[O.1,s.1,x];decide);refine gN aq aU S aR λs4 al b4=>?_;have D:=O.trans al;have d1:box s4 (1,1)=_:=D.bt c1;have d3:box s4 (2,_)=_:=D.bt b3;simp+contextual only[qz 8,qy 10,qy 12,u0,u1,d1,rk,aj,Nat.add_zero,z1,z2,aPF,kz,lG,eE,aNU,aOw,I9,↓uL];refine eF rfl rfl (by decide) (by rw[D.1,s.1,x];decide) λB E b5=>?_;have e1:box B (1,1)=_:=E.bt d1;have e3:box B (2,_)=_:=E.bt d3;have e4:box B (4,_)=_:=E.bt b4;simp only[qz 14,u0,u1,e1,rk,aj,↓uL];generalize bs:(aZ s2 2).lB+1=v2 at e3⊢;generalize bu:(aZ s3 4).lB+1=q at e4⊢;generalize bw:(aZ s4 5).lB+1=C at b5⊢;have l5:L B=4096:=(by rw[E.1,D.1,s.1,x]);refine⟨λvs Y=>∃(k:Nat) (a:AV) (ds:List AV),vs=[iv k]/\k<=L w.ac/\Lk ds (cY w k).mp.c/\box Y (5,C)=V ⟨36,4,U,U,[ds]⟩/\box Y (4,q)=V ⟨174,16,U,U,[w.c++[a]]⟩/\Gr Y [40] 36 4 a ((aQv w k).map aW.c)/\Fr B Y [4,5,7,9,40],fM<|L w.ac,⟨0,_,_,rfl,Nat.zero_le _,⟨rfl,rfl⟩,b5,e4,Gr.nil,Fr.refl _ _⟩,?_⟩;rintro vs Y ⟨k,a,ds,rfl,hk,H,aO,P,hG,G⟩;have f1:box Y (1,1)=_:=G.bt e1;have f3:box Y (2,v2)=_:=G.bt e3;have z:L Y=4096:=(by rw[G.1,l5]);have aT:L ds=4:=(by have:=bhO L H.1;grind [aW.c]);have X:aN (V 4) ds=V (.a ds):=(by show(if 4<=L ds then V (AV.a<|ds.take 4) else J)=_;grind);have W:aN (V 16) (w.c++[a])=V (.a<|w.c++[a]):=rfl;simp only[qz 49,qy 16,qy 34,aI,u0,u1,au,f1,rk,ix,aj,bh,↓uL];refine⟨λh2=>⟨vp h2,?_⟩,λh2=>?_⟩;have A:=aL h2;refine eF rfl rfl (by decide) (by omega) λn d b7=>?_;have g1:box n (1,1)=_:=d.bt f1;have g4:box n (4,q)=_:=d.bt P;have g5:box n (5,C)=_:=d.bt aO;have G1:=hG.fr d (by decide);generalize bx:(aZ Y 7).lB+1=v7 at b7⊢;simp only[qz 18,qy 20,u0,u1,g4,g5,kj,X,aj,awH H,bQ,↓uL];refine fP (new:=[(cY w k).mp.c]) G1 rfl (by decide) (by decide) (by rw[d.1,z];decide) (by intro r N;obtain⟨y,_,rfl⟩:=dN.1 N;rfl) (by intro r N;simp at N;subst N;rfl) (by grind [bJ,aIu,bZ,vw]) λa' F G2 j=>?_;have h1:box F (1,1)=_:=j.bt g1;have h4:box F (4,q)=_:=j.bt g4;have h5:box F (5,C)=_:=j.bt g5;have h7:box F (7,v7)=_:=j.bt b7;simp only[qz 22,u0,u1,h4,aj,↓uL];have ad:15<L (w.c++[a]):=(by grind);refine Ev h4 (by rw[j.1,d.1,z];decide) (uc G2) ad λp e i4=>?_;have aX:box p (4,q)=V ⟨174,16,U,U,[w.c++[a']]⟩:=i4;have i1:box p (1,1)=_:=e.bt h1;have i5:box p (5,C)=_:=e.bt h5;have i7:box p (7,v7)=_:=e.bt h7;have G3:=G2.fr e (by decide);have l3:L p=4096:=(by rw[e.1,j.1,d.1,z]);simp only[qz 24,↓uL];refine bvA (λb=>b [iv<|og<|gd w.ac k]) ?_ λb K=>(by simp+contextual only[qz 95,u0,u1,i7,rk,aj,↓uL];refine⟨λh=>?_,λh=>?_⟩;simp only[aBY] at h;rw[og,J9 h] at K;exact K;simp only[aNG] at h;rw[og,J7 h] at K;exact K);simp only[qz 93,qy 26,aI,au,u0,u1,i1,i5,i7,X,rk,aj,↓uL];simp only[jM,kU,jt,zN,tW,H.arg,rX];refine⟨Kk M A,?_⟩;rintro r ⟨f,rfl⟩;refine⟨.inl ?_,?_⟩;simp only[nA,Cu,Cv,x9 H];rfl;rw[<-aoF M A];simp only[oJ,pG,KM,aY,↓uL];refine mo l3 λY4 g b9=>?_;generalize bz:(aZ p 9).lB+1=v9 at b9⊢;have T:Lk (eD (cY w<|k+1).mp f) (cY w<|k+1).mp.c:=aDi;generalize R:eD (cY w<|k+1).mp f=m at T⊢;have v:L m=4:=(by rw[<-R];rfl);have ag:aN (V 4) m=V (.a m):=(by rw[<-R];rfl);refine gN b9 (by rw[g.1,l3];decide) rfl v λY5 i ax=>?_;have j5:box Y5 (5,C)=_:=i.bt<|g.bt i5;have j4:box Y5 (4,q)=_:=i.bt<|g.bt aX;simp+contextual only[qz 28,qy 30,u0,u1,ax,ag,fh,eE,aNU,aOw,I9,↓uL];refine gN j5 (by rw[i.1,g.1,l3];decide) aT v λY6 u k5=>?_;have k4:box Y6 (4,q)=_:=u.bt j4;simp only[qz 32,au,cS,aY,↓uL];rw[fX<|by omega];refine⟨⟨k+1,a',m,rfl,A,T,k5,k4,?_,?_⟩,?_⟩;rw[aIv,dg];exact((G3.fr g<|by decide).fr i<|by decide).fr u (by decide);exact(((((G.trans<|d.mono<|by decide).trans<|j.mono<|by decide).trans<|e.mono<|by decide).trans<|g.mono<|by decide).trans<|i.mono<|by decide).trans (u.mono<|by decide);grind [fM,cM,bh];have aV:k=L w.ac:=(by grind);subst aV;simp only[P,W,u0,u1,↓uL];have ab:L (w.c++[a])=16:=(by grind);refine gN f3 (by omega) S ab λn d b2=>?_;simp only[b2,W,u0,u1,↓uL];obtain⟨f,o,hf⟩:=sU (hG.fr d<|by decide);have ae:jS n [.a<|w.c++[a],bv U]= .t [.a<|w.c++[.l ((aQv w<|L w.ac).map aW.c) f o],bv U]:=(by show AV.t [.a<|(w.c++[a]).map<|dQ n,bv U]=_;rw[dg];simp only[ji,mU,hf];rfl);unfold aE;rw[ae];exact⟨rfl,_,_,rfl⟩
def E6:FT:=om NX
def aya{w Lw K}:=f111 E6 NX w Lw K (j:=by simp+contextual only[ij,j9])
def Dw{Y:ae}{e:TypeId}{a:AV}{l:List Int}{i:Int}{K:o8}(f:bc Y e 1 a<|l.map ci)(c:aF (L l) i):(rV (cz 1 Y a<|iv i) λt=>rV (lS J Y t) K)=K (iv<|gd l i.toNat):=by have d:i.toNat<L l:=(by have:=c.1;have:=c.2;omega);rcases f with⟨h,_⟩|⟨b,rfl,g⟩;simp_all;simp[cz,c.1,g,d,rV,lS,iE,aN,bT d]
def DA{Y:ae}{e:TypeId}{a:AV}{l:List Int}{i v:Int}{K:be}(j:bc Y e 1 a<|l.map ci)(c:aF (L l) i)(k:∀p Y',Fx Y Y' (aA a)->bc Y' e 1 a ((l.set i.toNat v).map ci)->K p Y'):rV (cz 1 Y a<|iv i) λp=>sV (aK 1 Y p<|iv v) (K p):=by have h:i.toNat<L l:=(by have:=c.1;have:=c.2;omega);rcases j with⟨q,_⟩|⟨b,rfl,d⟩;simp_all;have f:cz 1 Y (.m b<|L<|l.map ci) (iv i)=V (.p b i.toNat 0):=(by simp[cz,c.1,d,h]);rw[f];simp only[rV];have n:(l.map ci)[i.toNat]?=V [iv<|gd l i.toNat]:=(by grind [eC,bT]);refine wL d n (by simp) λY' g o=>k _ Y' g ?_;refine .inr ⟨b,by simp,?_⟩;simp_all
def PR(w:vb)(s:mn)(e:aP)(hp:C1 w s e=U/\L w.bC<=2/\L w.ay<=4/\kQ (L w.ay) s.mp/\L s.cells<1000/\L s.bU<1000/\L s.count<1000/\vo e):Ct 152 [.a w.c, .a s.c, .a e.c] (λr=>∃cs,r= .t [.a cs,bv U]/\Lk cs (oc w s e).c):=by refine aMI rfl rfl rfl λs6 n b1 b2 b3 h0=>?_;obtain⟨a2,p1,p2,p3,p4,p5,p6,p7⟩:=hp;have D:=a2;simp only[C1,eH,cP] at D;obtain⟨q1,q2,q3,q4,q5⟩:=D;have ah:=q1;simp only[aOL,cP,fK,aNG] at ah;obtain⟨⟨⟨⟨hf,hi⟩,a0⟩,a1⟩,aX⟩:=ah;obtain⟨aZ,hn⟩:lh w s.mp=U/\named w e.kind e.nt=U:=(by grind [jm]);have ad:=dX.1 hi;obtain⟨m1,m2,m3⟩:L s.cells=L w.cells/\L s.bU=L w.bU/\L s.count=L w.ay:=(by grind [fN]);have ac:aF (L s.count) e.aq:=(by simp_all);have z1:¬e.aq<0:=(by have:=ad.1;omega);have z2:¬((L w.ay:Int)<=e.aq):=(by have:=ad.2;omega);simp only[bip,cP,fK,aBY] at q5;obtain⟨⟨n1,n2⟩,n3⟩:=q5;have a3:∀l∈s.mp.ak,L l.bk<12:=λl n=>(by have:=AC (p3.rd l n).1 (p3.rd l n).2;omega);have hP:yM w e=I/\yN e=I/\lZ e.dI (gd s.count e.aq.toNat)/\lZ e.ep (gd s.count e.aq.toNat)/\aF (L s.count) e.aq/\(e.kind=3\/e.kind=4->aF (L w.cells) e.nt)/\vo e:=(by grind [qP]);have hV:aO8 s e=U/\L s.mp.ay<1000000/\(e.kind=3->aF (L s.cells) e.nt)/\(e.kind=23->aF (L s.bU) e.nt):=(by grind [kQ.th,qP,oU]);have hE:lh w s.mp=U/\L w.bC<=2/\(∀l∈s.mp.ak,L l.bk<100000):=⟨aZ,p1,λl n=>by have:=a3 l n;omega⟩;have hA:jm w s.mp e.aq e.kind e.nt=U/\L w.bC<=2/\(∀l∈s.mp.ak,L l.bk<12)/\(∀l∈s.mp.ak,jC l.bk)/\L s.mp.ak<1000/\L s.mp.done<1000/\L s.mp.ay<1000:=(by grind [kQ.rd,kQ.lo,kQ.dn,kQ.th]);simp only[JW,↓uL];refine so n λv7 A G N7 b7=>?_;have c1:box A (3,1)=_:=G.kq b1;have c2:box A (4,1)=_:=G.kq b2;have O:box A (5,1)=_:=G.kq b3;have ae:L A=4096:=G.len.trans n;simp+contextual only[qz 8,qy 10,qy 12,u0,u1,c1,c2,O,rk,aj,ar,rX,hf,p1,hE,aX,hP,hV,q2,z1,z2,a0,a1,awG,aPF,fh,kN,kz,lG,eE,aNU,aOw,I9,↓uL];refine⟨λ_ _=>trivial,(by simp),(by simp),?_⟩;refine bs5 (λb=>b [iv<|og e]) ?_ λb R=>(by simp+contextual only[qz 53,u0,u1,O,rk,aj,↓uL];refine⟨λh=>?_,λh=>?_⟩;simp only[aBY] at h;rw[og,J9 h] at R;exact R;simp only[aNG] at h;rw[og,J7 h] at R;exact R);simp only[qz 51,qy 14,aI,au,u0,u1,c1,c2,O,rk,aj,ar,rX,↓uL];refine⟨hA,?_⟩;rintro r ⟨f,rfl⟩;refine⟨.inl rfl,?_⟩;simp only[oJ,pG,KM,aY,↓uL];generalize a7:(cU w s.mp e.aq e.kind e.nt<|og e).1=sy';refine so ae λv9 Y1 F1 N1 d9=>?_;refine cy (y:=4) (cs:=eD sy' f) d9 rfl rfl (by decide) λK u aQ=>?_;have ax:box K (9,v9)=V ⟨36,4,U,U,[eD sy' f]⟩:=aQ;have X:Fx A K []:=(F1.trans u).mono (by grind [bK.no]);have l2:L K=4096:=X.len.trans ae;have e2:=X.kq c2;have bm:aN (V 4) (eD sy' f)=V (.a<|eD sy' f):=rfl;simp+contextual only[qz 16,qy 18,u0,u1,ax,e2,bm,rk,aj,fh,eE,aNU,aOw,I9,↓uL];refine alG (aa:=s.cells.map ci) rfl fF (by simp;omega) (by simp[gY]) (by omega) λd C g4 v P4=>?_;have f2:=v.kq e2;have l3:L C=4096:=v.len.trans l2;simp only[qz 20,u0,u1,f2,rk,aj,↓uL];refine alG (aa:=s.bU.map ci) rfl fF (by simp;omega) (by simp[gY]) (by omega) λg Y4 g5 E P5=>?_;have h2:=E.kq f2;have l4:L Y4=4096:=E.len.trans l3;simp only[qz 22,u0,u1,h2,rk,aj,↓uL];refine Kr (aa:=s.count.map ci) rfl fF (by simp;omega) (by simp[gY]) (by omega) λi Y5 g6 F P6=>?_;have l5:L Y5=4096:=F.len.trans l4;have ab:bM BF aon [(0, .a<|eD sy' f),(1,d),(2,g),(3,i)]=V (.a<|eD sy' f++[d,g,i]):=(by simp[bM,aly,ms g4,ms g5,ms g6,eD,show∀x,eY (.a x)=V x fromλ_=>rfl]);have Z:∀{q:Id} {x:bY},box A q=V x->box Y5 q=V x:=λhq=>F.kq (E.kq<|by grind [Fx.keep]);simp only[qz 24,qy 26,ab,aY,↓uL];refine so l5 λbn Y6 F6 N6 aO=>?_;refine cy (y:=7) (cs:=eD sy' f++[d,g,i]) aO rfl rfl (by decide) λM aK aw=>?_;have o:box M (12,bn)=V ⟨40,7,U,U,[eD sy' f++[d,g,i]]⟩:=aw;have j:Fx Y5 M []:=(F6.trans aK).mono (by grind [bK.no]);have l7:L M=4096:=j.len.trans l5;have G4:=((g4.fx E<|by simp).fx F<|by simp).fx j (by simp);have G5:=(g5.fx F<|by simp).fx j (by simp);have G6:=g6.fx j (by simp);have i3:=j.kq<|Z O;have i7:=j.kq<|Z b7;have bf:∀k∈aA d,k.1=98:=λk z=>(P4 k z).2;have bg:∀k∈aA g,k.1=101:=λk z=>(P5 k z).2;have bi:∀k∈aA i,k.1=104:=λk z=>(P6 k z).2;clear ab;simp only[qz 28,↓uL];refine dT ?_ ?_;rcases g4 with⟨_,S⟩|⟨⟨k4,u4⟩,S,_⟩<;>rcases g5 with⟨_,T⟩|⟨⟨k5,u5⟩,T,_⟩<;>rcases g6 with⟨_,W⟩|⟨⟨k6,u6⟩,W,_⟩<;>(try(have h4:=bf (k4,u4) (by grind [aA]);simp only at h4;subst h4))<;>(try(have h5:=bg (k5,u5) (by grind [aA]);simp only at h5;subst h5))<;>(try(have h6:=bi (k6,u6) (by grind [aA]);simp only at h6;subst h6))<;>rw[S,T,W]<;>rfl;have S:∀{x:List Int},aN J (aOz 4<|eD sy' f++[d,g,i])=V d:=rfl;have T:aN J (aOz 5<|eD sy' f++[d,g,i])=V g:=rfl;have W:aN J (aOz 6<|eD sy' f++[d,g,i])=V i:=rfl;have r7:aN (V 7) (eD sy' f++[d,g,i])=V (.a<|eD sy' f++[d,g,i]):=rfl;refine bjf (λb=>∀Y N P,Fx M Y (aA d++aA g)->bc Y 2 1 d (N.map ci)->bc Y 2 1 g (P.map ci)->N=(if e.kind=4 then s.cells.set e.nt.toNat e.value else s.cells)->P=(if e.kind=22 then s.bU.set e.nt.toNat e.value else s.bU)->b [] Y) ?_ λb m=>?_;intro Y N P H H4 H5 e4 e5;have no:∀{q:Id},q.1≠98->q.1≠101->q∉aA d++aA g:=(by grind);have m3:=H.keep _ _ (by grind) i3;have m7:=H.keep _ _ (by grind) i7;have af:=H.keep _ _ (by grind) o;have H6:=G6.fx H λk z=>no (by grind) (by grind);simp only[qz 93,aI,u0,u1,af,m3,rk,W,aj,Dw H6 ac,cS,aY,↓uL];refine DA H6 ac λp K u K6=>?_;have ag:∀{q:Id},q.1≠104->q∉aA i:=(by grind);have K4:=H4.fx u (by grind);have K5:=H5.fx u (by grind);have bb:=u.keep _ _ (ag<|by simp) af;have n7:=u.keep _ _ (ag<|by simp) m7;simp only[qz 34,qy 36,u0,u1,bb,r7,↓uL];refine cy (y:=7) (cs:=eD sy' f++[d,g,i]) n7 rfl rfl (by decide) λC v o7=>?_;have bd:box C (6,v7)=V ⟨40,7,U,U,[eD sy' f++[d,g,i]]⟩:=o7;simp only[bd,u0,u1,r7,↓uL];have cv:∀{q:Id},q.1≠6->q∉[((6,v7):Id)]:=(by grind);obtain⟨x4,o4,z4⟩:=(K4.fx v<|by grind).frD;obtain⟨x5,o5,z5⟩:=(K5.fx v<|by grind).frD;obtain⟨x6,o6,z6⟩:=(K6.fx v<|by grind).frD;have aG:jS C [.a<|eD sy' f++[d,g,i],bv U]= .t [.a<|eD sy' f++[.l (N.map ci) x4 o4, .l (P.map ci) x5 o5, .l ((s.count.set e.aq.toNat<|dq.wrap<|gd s.count e.aq.toNat+1).map ci) x6 o6],bv U]:=(by show AV.t [.a<|(eD sy' f++[d,g,i]).map<|dQ C,bv U]=_;rw[dg];simp only[ji,mU,z4,z5,z6];rfl);unfold aE;rw[aG];refine⟨rfl,_,rfl,?_,rfl⟩;simp only[oc,a7,<-e4,<-e5];rfl;simp+contextual only[qz 95,qy 30,qy 32,u0,u1,i3,o,rk,S (x:=[]),T,aj,↓uL];refine⟨λh=>?_,λh=>⟨λh'=>?_,λh'=>?_⟩⟩;have h4:=aNK h;refine DA G4 (by grind) λp Y8 B K4=>?_;exact m _ _ _ (B.mono<|by grind) K4 (G5.fx B<|by grind) (by grind) (by rw[J7<|by omega]);have cu:=aNK h';refine DA G5 (by grind [oU]) λp Y8 B K5=>?_;exact m _ _ _ (B.mono<|by grind) (G4.fx B<|by grind) K5 (by grind) (by grind);exact m _ _ _ (Fx.refl _ _) G4 G5 (by grind) (by grind)
def Gi:FT:=vn PR
def azD{w s e Lw K}:=zZ Gi PR w s e Lw K (j:=by simp+contextual only[ij,j9])
def apo:dO:=(89,EU)::(154,Fb)::(96,E6)::(152,Gi)::aYa
def Rf:eJ apo:=it (pg NG)<|it (aCb Od)<|it (rj NX)<|it (By PR)<|Bv
def Ac:=ai @axU<|ai @ayf<|ai @aya<|ai @azD<|@rX
def avl:=bA 32 [(5,([23],[1,3,4,21,22])),(16,([42],[1,3,4,6,7,21,22,23,41])),(22,([47],[1,3,4,6,7,21,22,23,41,42,45,46]))]
def akJ a b R:=(.mk _:NR apo avl Tryz.f95 [.u] [a] b R).p
def aMQ{c0:List AV}{R:o8}(l0:L c0=15)(h:H1 43 15 1 c0 λia b=>akJ ia b R):Ct 95 [.a c0] R:=z1 avl Rf Tryz.func95 l0 h
def zE b a c R:=(.mk _:NR apo atB Tryz.f97 [.u, .u] [b,a] c R).p
def aKQ{c0:List AV}{b:List AV}{R:o8}(l0:L c0=16)(l1:L b=6)(h:H2 174 16 2 c0 46 6 3 b λia c d=>zE ia c d R):Ct 97 [.a c0, .a b] R:=z2 atB Rf Tryz.func97 l0 l1 h
def Lg{A:(be)->Prop}{Y:ae}{K:be}:gF U A Y K=A K:=rfl
def Og(x:jY)(g:cJ)(S:nK x/\qC x.w g=U):Ct 97 [.a x.c, .a g.c] (·=bv U):=by refine aKQ rfl rfl λZ hl P l h0=>?_;obtain⟨n,b⟩:=S;have m:box Z (2,1)=V ⟨174,16,U,U,[x.w.c++[sl aW.c x.ss]]⟩:=P;have e:aN (V 16) (x.w.c++[sl aW.c x.ss])=V (.a x.c):=rfl;simp only[qC] at b;(cases f:Q<|g.kind=2);simp only[f,aPy,bN] at b;obtain⟨⟨ia,T,W,X⟩,b⟩:=b;have t:=dX.1 ia;have u:=dX.1 T;have F:=dX.1 W;have G:=dX.1 X;(cases d:Q<|g.kind=1);simp only[d,aPy] at b;(cases p:Q<|g.kind=3);simp only[p,aPy] at b;(cases y:Q<|g.kind=4);simp only[y,aPy] at b;cases b;simp only[y,aNV,tZ,bpK,vQ,bN,eH,cP,aNG,aBY,fK,aNS] at b;obtain⟨⟨⟨h,j⟩,q⟩,⟨⟨⟨⟨r,N⟩,O⟩,y7⟩,y8⟩,y9,K⟩:=b;have H:((L g.cW:Int)=0):=(by omega);have A:([g.ea,g.eb,g.ec,g.ed].all λi=>dh i<|L x.w.ac)=U:=(by simp_all);have v:nK x/\aF (L x.w.ac) g.ea/\aF (L x.w.ac) g.eb/\g.ea<g.eb/\(gd x.w.ac g.eb.toNat).aq=(gd x.w.ac g.ea.toNat).aq/\(gd (cY x.w g.ea.toNat).mp.ay (gd x.w.ac g.ea.toNat).aq.toNat).atomic=U/\(∀k,k<g.eb.toNat->g.ea.toNat<=k->((gd x.w.ac k).aq≠(gd x.w.ac g.ea.toNat).aq\/(gd x.w.ac k).kind≠15)):=(by simp_all);have hC:kB x.w/\aF (L x.w.ac) g.ea/\aF (L x.w.ac) g.eb/\aF (L x.w.ac) g.ec/\aF (L x.w.ac) g.ed/\g.ec<=g.ed/\(rP x.w g).aq=(xI x.w g).aq/\(rP x.w g).aq≠(jn x.w g).aq/\nh (jn x.w g) (rP x.w g)=U/\nh (xI x.w g) (mB x.w g)=U:=(by grind [nK.wo]);simp+contextual only[zE,u0,u1,m,l,e,kj,rk,aj,d,f,p,y,H,vR,Lg,aPI,iw,ru,ar,sG,Ac,A,n,n.wo,t,u,F,G,sr,eE,aNU,aOw,I9,↓uL];grind;simp only[p,aNV,wz,tm,bN,eH,cP,aNG,aBY,fH,aNS,Bool.and_eq_false_imp] at b;obtain⟨⟨⟨⟨⟨⟨⟨⟨h,j⟩,q⟩,r⟩,N⟩,O⟩,y7⟩,y8⟩,y9,K,af⟩:=b;have M:((L g.cW:Int)=0):=(by omega);have hL:nK x/\aF (L x.w.ac) g.ea/\aF (L x.w.ac) g.eb/\g.eb<g.ea/\((gd x.w.ac g.ea.toNat).kind=18\/(gd x.w.ac g.ea.toNat).kind=19)/\(gd x.w.ac g.eb.toNat).kind=16/\(gd x.w.ac g.ea.toNat).nt=(gd x.w.ac g.eb.toNat).nt/\(gd x.w.ac g.ea.toNat).aq≠(gd x.w.ac g.eb.toNat).aq/\(∀k,k<g.ea.toNat->g.eb.toNat<k->(gd x.w.ac k).aq≠(gd x.w.ac g.eb.toNat).aq)/\(gd (cY x.w g.ea.toNat).mp.ay (gd x.w.ac g.eb.toNat).aq.toNat).cQ=3/\((gd x.w.ac g.ea.toNat).kind=19\/(gd x.w.ac g.ea.toNat).value=(gd x.w.ac g.eb.toNat).aq):=(by grind);have fl:=@al5 x g.ea g.eb;simp+contextual only[zE,u0,u1,m,l,e,kj,rk,aj,d,f,p,h,j,M,aPI,iw,ru,ar,sG,fl,sr,eE,aNU,aOw,I9,↓uL];simp_all;simp only[d,aNV,Ek,bN,aBY,eH] at b;obtain⟨z,R,o,s,D,B,E⟩:=b;simp+contextual only[zE,u0,u1,m,l,e,kj,rk,aj,d,eE,aNU,aOw,I9,R,o,s,aPI,iw,ru,fh,ar,sG,Ac,sr,n.wo,t,u,z,B,D,E,bnq,byX,kN,awG,↓uL];simp only[f,aNV] at b;have d:Q (g.kind=1)=I:=(by simp_all);have o:=b;simp only[qx,bN,eH,aBY] at o;obtain⟨v,ae,s⟩:=o;simp only[rO,cP,aNG,aNS] at v;obtain⟨⟨⟨⟨⟨h,j⟩,q⟩,r⟩,N⟩,O⟩:=v;have C:qx x.w (Ds g.cW)=U:=(by rw[<-b];simp only[qx,rO,Ds,h,j,q,r];rfl);simp+contextual only[zE,u0,u1,m,l,e,kj,rk,aj,d,f,h,j,q,r,aPI,iw,ru,ar,sG,Ac,n,C,awG,sr,eE,aNU,aOw,I9,↓uL]
def Fg:FT:=aIc Og
def ayh{x g Lw K}:=f210 Fg Og x g Lw K (j:=by simp+contextual only[ij,j9])
structure lJ(Y:ae)(b:Id)(e1 e:TypeId)(d n:Nat)(Lw:Nat->List (List AV))(f:Nat->AV):Prop where
 bx:box Y b=V ⟨e1,1,U,U,io n λi=>[f i]⟩
 gr:∀i,i<n->bc Y e 1 (f i) (Lw i)
 dj:∀i j,i<n->j<n->i≠j->∀q∈aA (f i),q∉aA (f j)
 pl:∀i,i<n->∀q∈aA (f i),q.1=d
def lJ.ix{Y:ae}{b:Id}{g e:TypeId}{d n:Nat}{c:Nat->List (List AV)}{f:Nat->AV}(O:lJ Y b g e d n c f){i:Int}(a:aF n i):cz 1 Y (.m b n) (iv i)=V (.p b i.toNat 0):=by have h:i.toNat<n:=(by have:=a.1;have:=a.2;omega);simp[cz,a.1,O.bx,h]
def lJ.ld{Y:ae}{b:Id}{c e:TypeId}{d n:Nat}{a:Nat->List (List AV)}{f:Nat->AV}(O:lJ Y b c e d n a f){i:Nat}(g:i<n):lS J Y (.p b i 0)=V (f i):=by simp[lS,iE,O.bx,uU g,aN]
theorem lJ.ln{Y:ae}{b:Id}{c e:TypeId}{d n:Nat}{a:Nat->List (List AV)}{f:Nat->AV}(O:lJ Y b c e d n a f){i:Nat}(g:i<n):fS Y (f i)=V (iv<|L<|a i):=lnI<|O.gr i g
theorem lJ.keep{Y Y':ae}{b:Id}{ks:List Id}{c e:TypeId}{d n:Nat}{a:Nat->List (List AV)}{f:Nat->AV}(O:lJ Y b c e d n a f)(F:Fx Y Y' ks)(h:b∉ks)(j:∀i,i<n->∀q∈aA (f i),q∉ks):lJ Y' b c e d n a f:=⟨F.keep _ _ h O.bx,λi g=>(O.gr i g).fx F<|j i g,O.dj,O.pl⟩
theorem lJ.no{Y:ae}{b:Id}{c e:TypeId}{d n:Nat}{a:Nat->List (List AV)}{f:Nat->AV}(O:lJ Y b c e d n a f){q:Id}{x:bY}(j:box Y q=V x)(k:x.var=U\/x.elem≠e){i:Nat}(g:i<n):q∉aA (f i):=λh=>by
 have:=(O.gr i g).ids q h
 grind
def anO{Y:ae}{b:Id}{B e:TypeId}{d n by':Nat}{zs:List AV}{s:Nat->List (List AV)}{f:Nat->AV}{i:Int}{new:List (List AV)}{t o:Bool}{K:AV->be}(O:lJ Y b B e d n s f)(C:aF n i)(hz:L zs=1)(X:d<L Y)(hr:∀r∈s i.toNat,L r=1)(Z:∀r∈new,L r=1)(W:(L (s i.toNat)+L new)*(by'+1)<=1099511627776)(T:∀a p Y' G,lJ Y' b B e d n (λj=>if j=i.toNat then s j++new else s j) G->L Y'=L Y->(∀q x,box Y q=V x->q≠b->x.var=U\/x.elem≠e->box Y' q=V x)->(∀q∈aA a,q.1=d)->p= .p b i.toNat 0->Fx Y Y' (b::aA (f i.toNat))->(∀j,j<n->∀q∈aA (G j),q∈aA (f j)\/bK Y q)->K a p Y'):eV (cj e zs by' Y d (f i.toNat)<|.l new t o) λa v=>rV (cz 1 v (.m b n)<|iv i) λp=>sV (aK 1 v p a) (K a p):=by have w:i.toNat<n:=(by have:=C.1;have:=C.2;omega);refine gD (O.gr _ w) hz (by decide) X hr Z W λa v R u z af=>?_;have y:b∉aA (f i.toNat):=O.no O.bx (.inl rfl) w;have E:=u.keep _ _ y O.bx;have H:cz 1 v (.m b n) (iv i)=V (.p b i.toNat 0):=(by simp[cz,C.1,E,w]);rw[H];have ac:b∉aA a:=λh=>(by rcases z _ h with h|h;exact y h;exact h.no _ O.bx);have N:∀q∈aA a,q.1=d:=λq g=>(by grind [lJ.pl]);refine Bp E (uU w) (ms R) rfl (by simp) λD A S=>?_;have F:box D b=V ⟨B,1,U,U,io n λj=>[if j=i.toNat then a else f j]⟩:=(by rw[S,Bl];grind);have ad:∀j,j<n->j≠i.toNat->∀q∈aA (f j),q∉aA a:=λj c M q g P=>(by rcases z _ P with h|h;grind [lJ.dj];exact h.no _<|(O.gr j c).ids q g);refine T a _ D _ ⟨F,λj c=>?_,λj k c hk M q g=>?_,λj c q g=>?_⟩ (A.len.trans u.len) (by grind [Fx.keep,lJ.no]) N rfl ((u.trans A).mono<|by grind) λj c q g=>?_;by_cases h:j=i.toNat;grind [bc.fx];simp only[J7 h];refine((O.gr j c).fx u<|by grind [lJ.dj]).fx A λq g e=>?_;grind [lJ.no,lJ.bx];grind [lJ.dj];grind [lJ.pl];grind
def giB{Y:ae}{e:TypeId}{a:AV}{l:List Bool}{i:Int}{K:o8}(f:bc Y e 1 a<|l.map cb)(c:aF (L l) i):(rV (cz 1 Y a<|iv i) λt=>rV (lS J Y t) K)=K (bv<|gd l i.toNat):=by have d:i.toNat<L l:=(by have:=c.1;have:=c.2;omega);rcases f with⟨h,_⟩|⟨b,rfl,g⟩;simp_all;simp[cz,c.1,g,d,rV,lS,iE,aN,bT d]
def fj(l:List aP)(t:Int)(k:Nat):List Nat:=(aH k).filter λj=>Q<|(gd l j).aq=t
theorem Bb{l:List aP}{t:Int}{k:Nat}:fj l t (k+1)=fj l t k++if(gd l k).aq=t then[k] else[]:=by grind [fj,qn,gd]
theorem wF{l:List aP}{t:Int}{k:Nat}:L (fj l t k)<=k:=by grind [fZ,decide,gd,aH,fj]
def aOu(l:List aP)(k t:Nat):List Bool:=(fj l t k).map λj=>fR<|gd l j
structure bwj(w:am):Prop where
 wo:vL w
 ev:∀e∈w.ac,vo e
 sn:∀k,k<L w.ac->L (cY w k).cells<1000/\L (cY w k).bU<1000/\L (cY w k).count<1000
 ct:L w.init.count=L w.aQ.ay/\∀c∈w.init.count,0<=c/\c<=400
 rd:∀k,k<L w.ac->∀x,x∈(gd w.ac k).dI\/x∈(gd w.ac k).ep-> -1000<=x/\x<=1000/\(gd w.init.count (gd w.ac k).aq.toNat<=x->x-gd w.init.count (gd w.ac k).aq.toNat<(L (aOu w.ac k (gd w.ac k).aq.toNat):Int)/\gd (aOu w.ac k (gd w.ac k).aq.toNat) (x-gd w.init.count (gd w.ac k).aq.toNat).toNat=U)
def PZ(w:am)(b:bwj w):Ct 95 [.a w.c] (·=bv U):=by
 refine aMQ rfl λs2 hl b1 h0=>?_
 have bI:=b.wo.wo.ev
 simp only[akJ,qy 4,u0,u1,b1,rk,aj,↓uL]
 refine so hl λK s3 F3 N3 b3=>?_
 refine cy (y:=7) (cs:=w.init.c) b3 rfl rfl (by decide) λs4 F4 b4=>?_
 have an:box s4 (3,K)=V ⟨40,7,U,U,[w.init.c]⟩:=b4
 have c1:=F4.kq<|F3.kq b1
 have l4:L s4=4096:=(F4.len.trans F3.len).trans hl
 have bS:=b.wo.th
 simp only[qz 6,u0,u1,c1,rk,aj,dc,cT,↓uL]
 refine AP (by decide) (by decide) (by rw[l4];decide) (by omega) λF s5 bG NR P b5=>?_
 have d1:=P.kq c1
 have d3:=P.kq an
 have l5:L s5=4096:=P.len.trans l4
 simp only[qz 8,u0,u1,d1,rk,aj,cT,↓uL]
 have T:((3,K):Id)≠F:=(by grind)
 have S:((1,1):Id)≠F:=(by grind)
 refine yV (L w.ac) (λk _ Y=>∃ds f,Lk ds (cY w k).c/\box Y (1,1)=V ⟨43,15,U,U,[w.c]⟩/\box Y (3,K)=V ⟨40,7,U,U,[ds]⟩/\lJ Y F 33 4 102 (L w.aQ.ay) (λt=>(aOu w.ac k t).map cb) f/\L Y=4096) ⟨w.init.c,λ_=> .l [] U U,⟨rfl,rfl⟩,d1,d3,⟨by rw[b5,Q0];rfl,λi _=>bc.nil,(by grind [aA]),by grind [aA]⟩,l5⟩ ?_
 rintro k _ Y hk ⟨ds,f,G,e1,e3,O,N⟩
 have aW:=Bi<|oC G
 simp only[qz 31,qy 10,aI,au,u0,u1,ix,rk,bh,e1,aj,↓uL]
 refine⟨λh=>⟨vp h,?_⟩,λh=>trivial⟩
 have g:=aL h
 refine so N λv6 Y1 F1 N1 g6=>?_
 refine cy (y:=7) (cs:=aP.c<|gd w.ac k) g6 rfl rfl (by decide) λE F2 av=>?_
 have h6:box E (6,v6)=V ⟨87,7,U,U,[aP.c<|gd w.ac k]⟩:=av
 have A:Fx Y E []:=(F1.trans F2).mono (by grind [bK.no])
 have h1:=A.kq e1
 have B:=A.kq e3
 have O2:=O.keep A (by simp) (by simp)
 have l2:L E=4096:=A.len.trans N
 simp only[qz 12,qy 14,u0,u1,h1,B,h6,aW,rk,aj,↓uL]
 simp only[jM,kU,jt,zN,CU,G.arg,Ac]
 obtain⟨x1,x2,x3⟩:=b.sn k g
 have aG:=(b.wo.wo.en k g).2
 refine⟨⟨aG,b.wo.wo.co,b.wo.th,b.wo.sy k g,x1,x2,x3,b.ev _<|dB g⟩,?_⟩
 rintro r ⟨v,rfl,z⟩
 refine⟨.inl ?_,?_⟩
 ·simp only[nA,Cu,Cv,x9 G]
  rfl
 have aK:oc w.aQ (cY w k) (gd w.ac k)=cY w (k+1):=by grind [cY,nD]
 rw[aK] at z
 have ad:=Bi<|oC z
 simp only[oJ,pG,aY,↓uL]
 refine so l2 λv7 Y3 af bC g7=>?_
 refine cy (y:=7) (cs:=v) g7 rfl (oC z) (by decide) λR ah bD=>?_
 have i7:box R (7,v7)=V ⟨40,7,U,U,[v]⟩:=by
  grind
 have u:Fx E R []:=(af.trans ah).mono (by grind [bK.no])
 have i1:=u.kq h1
 have i3:=u.kq B
 have H:=u.kq h6
 have s:=O2.keep u (by simp) (by simp)
 have aU:L R=4096:=u.len.trans l2
 have n:=(b.wo.wo.named g).2
 have o:(gd w.ac k).aq.toNat<L w.aQ.ay:=by have:=n.1;have:=n.2;omega
 have M:aF (L w.init.count) (gd w.ac k).aq:=by rw[b.ct.1];exact n
 simp+contextual only[qz 16,u0,u1,H,rk,aj,fh,eE,aNU,aOw,I9,brl,↓uL]
 refine C7 2 (λ_=>True) trivial λj Z _=>?_
 simp+contextual only[qz 97,qy 18,aI,au,u0,u1,↓uL]
 refine⟨λaB=>?_,λaB=>?_⟩
 ·have h2:j<2:=by grind
  rw[ax2 h2]
  have hx:∀x∈(if j=0 then(gd w.ac k).dI else(gd w.ac k).ep),x∈(gd w.ac k).dI\/x∈(gd w.ac k).ep:=by
   grind
  have bi:L (if j=0 then(gd w.ac k).dI else(gd w.ac k).ep)<4611686018427387904:=by have:=b.ev _<|dB g;split;exact this.1;exact this.2
  generalize(if j=0 then(gd w.ac k).dI else(gd w.ac k).ep)=l at*
  simp only[u0,u1,cT,↓uL]
  refine C7 (L l) (λ_=>True) trivial λm hm _=>?_
  simp+contextual only[qz 133,aI,au,u0,u1,ix,rk,i1,H,aj,bh,↓uL]
  refine⟨λB=>⟨vp B,?_⟩,by grind [gS]⟩
  have aE:=aL B
  have aM:=b.rd k g _<|hx _<|dB aE
  have bH:=b.ct.2 _<|ii M
  generalize aD:gd l m-gd w.init.count (gd w.ac k).aq.toNat=m' at*
  have hw:dq.wrap m'=m':=(by grind [eM])
  have hO:=s.gr _ o
  simp only[u0,u1,ix,rk,dc,alr,aD,hw,↓uL]
  refine⟨M,?_⟩
  by_cases hz:0<=m'
  ·have D:Q (0<=m')=U:=bkl hz
   obtain⟨y1,y2⟩:=aM.2.2 (by omega)
   have X:aF (L<|aOu w.ac k (gd w.ac k).aq.toNat) m':=⟨hz,y1⟩
   have aN:Q ((L (aOu w.ac k (gd w.ac k).aq.toNat):Int)<=m')=I:=(by simp_all)
   simp only[u0,u1,D,jA,H,rk,aj,s.ix n,s.ld o,s.ln o,bJ,aN,giB hO X,y2,fh,kz,qc,eE,aNU,aOw,I9,↓uL]
   grind [gS]
  ·have D:Q (0<=m')=I:=bjz hz
   simp only[u0,u1,D,jN,show∀x,mL (bv I) x (bv I)=V (bv I) fromλ_=>rfl,eE,aNU,aOw,I9,↓uL]
   grind [gS]
 ·simp+contextual only[u0,u1,H,rk,aj,dc,s.ix n,s.ld o,iz,bQ,↓uL]
  have bO:L (aOu w.ac k (gd w.ac k).aq.toNat)<=k:=by grind [aOu,bJ,wF]
  refine anO (by':=1) (zs:=BE) (d:=102) (e:=4) (new:=[[bv<|fR<|gd w.ac k]]) s n rfl (by rw[aU];decide) (by intro r hr;obtain⟨y,_,rfl⟩:=dN.1 hr;rfl) (by simp) (by grind) λa p Y5 f5 O5 bT C ha bL _ _=>?_
  have j1:=C _ _ i1 S<|.inl rfl
  have j3:=C _ _ i3 T<|.inl rfl
  have W:((7,v7):Id)≠F:=(by grind)
  have j7:=C _ _ i7 W<|.inl rfl
  simp only[qz 22,↓uL]
  refine dT ?_ ?_
  ·have aJ:=s.pl _ o
   rcases s.gr _ o with⟨_,r4⟩|⟨⟨k4,u4⟩,r4,_⟩
   ·rw[r4];rfl
   ·have h4:=aJ (k4,u4) (by grind [aA])
    simp only at h4
    subst h4
    rw[r4];rfl
  simp only[u0,u1,j7,ad,↓uL]
  refine cy (y:=7) (cs:=v) j3 rfl (oC z) (by rw[oC G];decide) λY6 F6 o3=>?_
  have aV:box Y6 (3,K)=V ⟨40,7,U,U,[v]⟩:=by
   grind [oC]
  have o1:=F6.kq j1
  have O6:=O5.keep F6 (by grind) (λi hi q hq bM=>by
   grind [lJ.pl])
  simp only[qz 24,au,cS,aY,↓uL]
  refine yU g ⟨v,f5,z,o1,aV,?_,by grind [Fx.len]⟩
  have bF:(λj=>if j=(gd w.ac k).aq.toNat then(aOu w.ac k j).map cb++[[bv<|fR<|gd w.ac k]] else(aOu w.ac k j).map cb)=λt=>(aOu w.ac (k+1) t).map cb:=by
   funext j
   have h0:=n.1
   simp only[aOu,Bb]
   by_cases Z:j=(gd w.ac k).aq.toNat
   ·rw[J9 Z,J9<|by omega];simp
   ·rw[J7 Z,J7<|by omega];simp
  grind
def Gq:FT:=mT PZ
def azL{w Lw K}:=f110 Gq PZ w Lw K (j:=by simp+contextual only[ij,j9])
def apq:dO:=(97,Fg)::(95,Gq)::apo
def Rh:eJ apq:=it (aCb Og)<|it (pg PZ)<|Rf
def Do:=ai @ayh<|ai @azL<|@Ac
def akG a b R:=(.mk _:NR apq at1 Tryz.f45 [.u] [a] b R).p
def aMN{c0:List AV}{R:o8}(l0:L c0=15)(h:H1 43 15 1 c0 λia b=>akG ia b R):Ct 45 [.a c0] R:=z1 at1 Rh Tryz.func45 l0 h
def Zq b a c R:=(.mk _:NR apq aur Tryz.f46 [.u, .u] [b,a] c R).p
def aKG{c0:List AV}{b:List AV}{R:o8}(l0:L c0=15)(l1:L b=6)(h:H2 43 15 2 c0 46 6 3 b λia c d=>Zq ia c d R):Ct 46 [.a c0, .a b] R:=z2 aur Rh Tryz.func46 l0 l1 h
def amF{l:List Int}:jC l↔l.Pairwise (·<·):=by rw[List.pairwise_iff_getElem];refine⟨λh i j b c a=>?_,λh i b=>?_⟩;have:=AD h a c;grind [bT];grind [bT]
theorem an1:∀{l:List Int} {t x:Int},x∈fk l t->x=t\/x∈l
 |[],t,x,h=>by grind [fk]
 |y::l,t,x,h=>by
  simp only[fk] at h
  split at h
  ·rcases eW.1 h with h|h
   ·simp_all
   ·rcases an1 h with h|h
    ·exact .inl h
    simp_all
  grind
theorem kQ.aNN{n:Nat}{s:aW}(h:kQ n s)(i:Int)(t:aoC):kQ n (aNN s i t):=⟨h.lo,h.dn,by simp[Ab.aNN];exact h.th,h.rd⟩
theorem kQ.lk{n:Nat}{s:aW}(h:kQ n s)(i:Int):jC (cH s i).bk/\∀x∈(cH s i).bk,aF n x:=by unfold cH gd;rw[eI];cases a:s.ak[i.toNat]? with|none=>exact⟨λi b=>aO6 b (Nat.not_lt_zero _),λx a=>aO6 a ql⟩|some x=>grind [kQ.rd]
theorem kQ.lC{n:Nat}{s:aW}(h:kQ n s)(i:Int)(l:cg)(b:jC l.bk/\∀x∈l.bk,aF n x):kQ n (lC s i l):=by refine⟨by simp[Ab.lC];exact h.lo,h.dn,h.th,λx a=>?_⟩;simp only[Ab.lC] at a;grind [kQ.rd]
theorem kQ.marks{n:Nat}:∀{l:List Int} {s:aW},kQ n s->kQ n (l.foldl (λs u=>Ab.aNN s u {fA s u with cQ:=4}) s)|[],_,h=>h|u::l,s,h=>kQ.marks (l:=l)<|h.aNN u _
theorem kQ.apply{n:Nat}{s:aW}(h:kQ n s)(w:vb)(t kind nt lD:Int)(v:aF n t):kQ n (cU w s t kind nt lD).1:=by unfold cU;by_cases o:kind=1;grind [kQ.aNN];rw[J7 o];by_cases p:kind=2;grind [kQ.aNN];rw[J7 p];by_cases q:kind=6\/kind=10;grind [kQ.lC,kQ.lk];rw[J7 q];by_cases r:kind=7\/kind=11;grind [kQ.lC,kQ.lk];rw[J7 r];by_cases u:kind=8;grind [kQ.lC,kQ.lk,Ro,Nz,an1];rw[J7 u];by_cases l:kind=9;rw[J9 l];refine h.lC _ _ ⟨amF.2<|(amF.1 (h.lk nt).1).filter _,λx m=>?_⟩;exact(h.lk nt).2 x (List.mem_filter.1 m).1;rw[J7 l];by_cases a:kind=12;rw[J9 a];exact⟨h.lo,h.dn,h.th,h.rd⟩;rw[J7 a];by_cases b:kind=13;rw[J9 b];exact⟨h.lo,h.dn,h.th,h.rd⟩;rw[J7 b];by_cases c:kind=14;grind [kQ.aNN];rw[J7 c];by_cases d:kind=15;grind [kQ.aNN];rw[J7 d];by_cases e:kind=16;grind [kQ.aNN,kQ.lC,kQ.lk];rw[J7 e];by_cases f:kind=17;grind [kQ.aNN,kQ.lC,kQ.lk];rw[J7 f];by_cases g:kind=18;grind [kQ.aNN];rw[J7 g];by_cases i:kind=19;grind [kQ.marks];rw[J7 i];by_cases j:kind=20;grind [kQ.aNN];rw[J7 j];by_cases k:kind=22;rw[J9 k];exact⟨h.lo,by simp;exact h.dn,h.th,h.rd⟩;simp_all
theorem Bq{w:am}(h:Po w=U):∀k,k<=L w.ac->kQ (L w.aQ.ay) (cY w k).mp:=by obtain⟨e,p⟩:=aQA h;obtain⟨a,v,s,t,y⟩:=tC e;intro k;induction k with|zero=>intro _;have f:=e;simp only[oh,cP,fK,aNG] at f;have d:=f.2;simp only[ny,bN,aBY] at d;have u:L w.init.count=L w.aQ.ay:=(by grind [fN]);refine⟨a.sy.lo,a.sy.dn,a.sy.th,λl o=>?_⟩;have m:l∈w.init.mp.ak:=o;obtain⟨j,g,rfl⟩:=ou m;have c:=(d.1 j g).2;rw[bT g] at c;refine⟨λi b=>?_,λx q=>?_⟩;have:=(c (i+1) b).2 (by omega);simp_all;obtain⟨i,b,rfl⟩:=ou q;have:=(c i b).1;grind [nO,dX,bT]|succ k r=>intro z;have n:=p k (by omega);simp only[cY,nD,n,aNV,oc];refine(r<|by omega).apply _ _ _ _ _ ?_;grind [C1,eH,cP,aOL,fK,dX]
def vd{w:am}(a:hU w)(h:Po w=U):vL w:=by obtain⟨b,c⟩:=aQA h;refine⟨Rr a h,?_,by grind [Bq]⟩;grind [oh,cP,fK,mQ,eH,wJ,decide_eq_false_iff_not]
def kJ(t:Int):List aP->Nat->List Nat|[],_=>[]|e::l,i=>(if e.aq=t then[i] else[])++kJ t l (i+1)
theorem QH{t:Int}:∀{a b:List aP} {i:Nat},kJ t (a++b) i=kJ t a i++kJ t b (i+L a)
 |[],b,i=>by simp[kJ]
 |e::a,b,i=>by
  simp only[zn,kJ,bje]
  rw[QH (a:=a)]
  grind
theorem Qz{t:Int}:∀{l:List aP} {i m:Nat},m<L (kJ t l i)->pS t l m i=((gd (kJ t l i) m:Nat):Int)
 |[],i,m,h=>by simp[kJ] at h
 |e::l,i,m,h=>by
  simp only[pS]
  by_cases a:e.aq=t
  ·rw[J9 a]
   cases m with
   |zero=>simp[kJ,a,gd]
   |succ m=>
    rw[J7 (by omega),show((m+1:Nat):Int)-1=(m:Int) by omega]
    rw[Qz (l:=l) (i:=i+1) (m:=m)<|by grind [kJ]]
    simp[kJ,a,gd]
  ·rw[J7 a]
   rw[Qz (l:=l) (i:=i+1) (m:=m)<|by grind [kJ]]
   simp[kJ,a]
theorem anU{t:Int}{l:List aP}:∀{k:Nat},k<=L l->kJ t (l.take k) 0=fj l t k
 |0,_=>by simp[kJ,fj]
 |k+1,h=>by
  have a:k<L l:=by omega
  rw[iJ a,<-bT a,QH,anU (k:=k) (by omega),Bb]
  grind [gd,kJ]
theorem aEv{w:am}{t:Int}{k m:Nat}(b:k<=L w.ac)(c:m<L (fj w.ac t k)):oV w t m=(gd (fj w.ac t k) m:Nat):=by have a:kJ t w.ac 0=fj w.ac t k++kJ t (w.ac.drop k) k:=(by(conv=>lhs;rw[<-aq0 k w.ac]);grind [QH,anU]);grind [oV,Qz,gd,xe]
theorem aBC{l:List Int}{i j:Nat}{v:Int}(h:i≠j):gd (l.set i v) j=gd l j:=by grind [gd,oq]
def axw{w:am}(h:Po w=U){t:Int}(b:aF (L w.init.count) t):∀k,k<=L w.ac->gd (cY w k).count t.toNat=gd w.init.count t.toNat+(L (fj w.ac t k):Int)/\L (cY w k).count=L w.init.count:=by obtain⟨d,f⟩:=aQA h;obtain⟨s,o,l,n,p⟩:=tC d;intro k;induction k with|zero=>grind [cY,fj]|succ k i=>intro v;obtain⟨x,g⟩:=i (by omega);have a:=f k (by omega);have m:=(wK d k<|by omega).cn;have r:t.toNat<L (cY w k).count:=(by have:=b.1;have:=b.2;omega);simp only[cY,nD,a,aNV,oc,zq];refine⟨?_,g⟩;simp only[C1,eH,cP] at a;have c:=a.1;simp only[aOL,cP,fK] at c;have e:=dX.1 c.1.1.1.2;have j:=e.1;have q:=b.1;rw[Bb];by_cases u:(gd w.ac k).aq=t;grind [a6G,List.length_singleton,dB,gd,cY,eM];grind [aBC]
def anT{w:am}(p:hU w)(h:Po w=U):bwj w:=by obtain⟨A,D⟩:=aQA h;obtain⟨v,M,H,K,P⟩:=tC A;have B:=vd p h;have o:L w.init.count=L w.aQ.ay:=(by grind [fN]);have e:∀c∈w.init.count,0<=c/\c<=400:=λc C=>(by have:=v.cn c C;omega);refine⟨B,p.2.2.1,λk q=>?_,⟨o,e⟩,λk q x d=>?_⟩;grind [wK,vH.ce,vH.fu,vH.co];have g:=D k q;simp only[C1,eH,cP] at g;have n:=g.2.2.2.2;have m:=g.1;simp only[aOL,cP,fK] at m;have z:=dX.1 m.1.1.1.2;simp only[bip,cP,fK,aBY] at n;obtain⟨⟨E,F⟩,S⟩:=n;have f:aF (L w.init.count) (gd w.ac k).aq:=(by simp_all);obtain⟨y,R⟩:=axw h f k (by omega);have G:=e _<|ii f;have O:=wF (l:=w.ac) (t:=(gd w.ac k).aq) (k:=k);have u:1<=x/\x<gd (cY w k).count (gd w.ac k).aq.toNat:=(by rcases d with d|d;obtain⟨j,i,rfl⟩:=ou d;have:=E j i;grind [uJ,bT];obtain⟨j,i,rfl⟩:=ou d;have:=F j i;grind [uJ,bT]);rw[y] at u;refine⟨by omega,by omega,λN=>?_⟩;have s:(((gd w.ac k).aq.toNat:Nat):Int)=(gd w.ac k).aq:=bvj z.1;have r:(x-gd w.init.count (gd w.ac k).aq.toNat).toNat<L (fj w.ac (gd w.ac k).aq k):=(by omega);have a:qU w (gd w.ac k).aq x=U:=(by grind [Po,eH,xH,cP,fK]);simp only[qU] at a;rw[bjz (by omega),lG] at a;have b:=aEv (w:=w) (t:=(gd w.ac k).aq) (k:=k) (by omega) r;rw[bvj<|by omega] at b;rw[b] at a;simp only[bN,bh] at a;refine⟨?_,?_⟩;grind [aOu,bJ];simp only[aOu,s];rw[bT (by grind),List.getElem_map,<-bT r];exact a.2
def PW(w:am)(v:Po w=U/\hU w):Ct 45 [.a w.c] (·=bv U):=by refine aMN rfl λS m p N=>?_;obtain⟨e,k⟩:=v;have g:=anT k e;have h:=e;simp only[Po,bN,eH,aBY] at h;obtain⟨f,D,_⟩:=h;obtain⟨d,C,B,i,E⟩:=tC f;have b:=f;simp only[oh,cP,fK,aNG] at b;obtain⟨⟨⟨⟨⟨x,y⟩,T⟩,A⟩,W⟩,n⟩:=b;have F:=k;have G:=g.wo.th;obtain⟨g1,H,q,K⟩:L w.init.count=L w.aQ.ay/\L w.init.mp.ay=L w.aQ.ay/\L w.init.mp.ak=L w.aQ.ak/\L w.init.mp.done=L w.aQ.bU:=(by grind [fN,iY]);have M:L w.init.bU=L w.aQ.bU:=(by grind [fN]);have o:=n;simp only[ny,bN,aBY] at o;have z:(L w.ac:Int)<=16:=(by omega);have r15:aN (V 15) w.c=V (.a w.c):=rfl;have r:L w.ac<1000000/\L w.init.count<1000000:=(by omega);have O:=Bq e 0 (by omega);have u:uZ w=U/\(∀j,j<L w.init.mp.ay->pX w j=U)/\L w.init.count=L w.init.mp.ay/\L w.init.mp.ay<1000000/\L w.init.mp.ak=L w.aQ.ak/\(∀c∈w.aQ.bC,aF (L w.aQ.ak) c.eg):=(by simp_all);have t:ny w=U/\L w.init.mp.ak=L w.aQ.ak/\L w.aQ.ak<=4/\L w.init.mp.ay<=4/\(∀l∈w.init.mp.ak,L l.bk<=100):=⟨n,q,by have:=d.sy.lo;omega,by omega,λl m=>by have:=d.sy.rd l m;omega⟩;have s:(∀j,j<L w.init.bU->L w.init.mp.done=L w.init.bU/\(gd w.init.mp.done j=I->gd w.init.bU j=0))/\L w.init.bU=L w.init.mp.done/\L w.init.bU<1000000:=(by refine⟨λj R=>⟨by omega,λP=>?_⟩,by omega,by have:=d.fu;omega⟩;grind [Ae,kN,decide_eq_false_iff_not]);simp+contextual only[akG,u0,u1,p,r15,rk,aj,ar,Do,x,y,A,i,z,r,u,t,s,g,awG,aPI,iw,ru,I9,aOw,NA,↓uL];grind
def xc:FT:=mT PW
def azI{w Lw K}:=f110 xc PW w Lw K (j:=by simp+contextual only[ij,j9])
def NV(w:am)(g:cJ)(B:vL w/\qC w g=U):Ct 46 [.a w.c, .a g.c] (·=bv U):=by refine aKG rfl rfl λC k t u E=>?_;obtain⟨e,A⟩:=B;have r15:aN (V 15) w.c=V (.a w.c):=rfl;simp only[Zq,qy 6,u0,u1,t,r15,ar,Do,↓uL];refine⟨e,?_⟩;rintro r ⟨f,o,rfl⟩;refine⟨.inl rfl,?_⟩;simp only[oJ,pG,aY,↓uL];have i:L (w.c++[AV.l ((aQv w<|L w.ac).map aW.c) f o])=16:=(by simp[am.c,vb.c,mn.c,aW.c]);have m:L (baF)=16:=rfl;refine mo k λp b v=>?_;have d:box p (5,(aZ C 5).lB+1)=V ⟨174,16,U,U,[baF]⟩:=v;have j:5<L p:=(by rw[b.1,k];decide);refine gN d j m i λD q x=>?_;have y:box D (3,1)=_:=q.bt<|b.bt u;have n:aN (V 16) (w.c++[AV.l ((aQv w<|L w.ac).map aW.c) f o])=V (.a<|w.c++[.l ((aQv w<|L w.ac).map aW.c) f o]):=rfl;have z:nK ⟨w,aQv w<|L w.ac⟩:=⟨e.wo,rfl⟩;have h:∀s:ae,dG s (.a<|w.c++[.l ((aQv w<|L w.ac).map aW.c) f o])= .a (jY.c ⟨w,aQv w<|L w.ac⟩):=λ_=>rfl;simp+contextual only[qz 8,u0,u1,x,y,n,rk,h,ar,Do,z,A,awG,I9,iw,ru,aOw,NA,↓uL]
def E5:FT:=aIc NV
def ax8{w g Lw K}:=f210 E5 NV w g Lw K (j:=by simp+contextual only[ij,j9])
def apr:dO:=(45,xc)::(46,E5)::apq
def apf:eJ apr:=it (pg PW)<|it (aCb NV)<|Rh
def amm:=ai @azI<|ai @ax8<|@Do
def aaG a b c R:=(.mk _:NR apr auF Tryz.f160 [.u,b] [a] c R).p
def aKZ{c0:List AV}{b:AV}{R:o8}(l0:L c0=15)(h:H1 43 15 2 c0 λia c=>aaG ia b c R):Ct 160 [.a c0,b] R:=z1 auF apf Tryz.func160 l0 h
def Oq(w:am)(q:Int)(e:Po w=U/\hU w/\L w.ac<100000/\(aF (L w.ac) q->((gd w.ac q.toNat).kind=23->aF (L w.init.mp.done) (gd w.ac q.toNat).nt/\aF (L w.init.bU) (gd w.ac q.toNat).nt)/\((gd w.ac q.toNat).kind=3->aF (L w.init.cells) (gd w.ac q.toNat).nt))):Ct 160 [.a w.c,iv q] (λr=>∃t,r= .l ((dx w q).map ci) t U):=by refine aKZ rfl λj i b h=>?_;obtain⟨f,d,p1,g⟩:=e;have r15:aN (V 15) w.c=V (.a w.c):=rfl;simp+contextual only[aaG,u0,u1,b,r15,rk,aj,ar,amm,f,d,awG,I9,fh,eE,aNU,aOw,↓uL];refine⟨⟨p1,g⟩,?_⟩;intro t;exact⟨rfl,t,rfl⟩
def Fp:FT:=pn Oq
def ayp{w q Lw K}:=f211 Fp Oq w q Lw K
def aps:dO:=(160,Fp)::apr
def apg:eJ aps:=it (aN0 Oq)<|apf
def Dp:=ai @ayp<|@amm
def atc:=bA 62 [(4,([3,20],[1,19])),(10,([3,26],[1,4,19,20,25])),(13,([3],[1,4,19,20,25,26])),(18,([3,43],[1,42])),(25,([3,55],[1,53,54])),(28,([3],[1,53,54,55])),(33,([3,71],[1,69,70])),(36,([3],[1,69,70,71])),(41,([3,83],[1,9,69,70,71,81,82])),(48,([3,98],[1,96,97])),(51,([3],[1,96,97,98])),(56,([3,113],[1,13,96,97,98,111,112]))]
def YE a b R:=(.mk _:NR aps atc Tryz.f100 [.u] [a] b R).p
def aKD{c0:List AV}{R:o8}(l0:L c0=15)(h:H1 43 15 1 c0 λia b=>YE ia b R):Ct 100 [.a c0] R:=z1 atc apg Tryz.func100 l0 h
abbrev uF:List Nat:=[37,50,66,92,122]
abbrev nf2:List Nat:=[37,50,66,92,122,8,10,14]
def NT(w:am)(hp:kB w/\L w.init.mp.ay<=4/\fN w.aQ w.init=U/\Po w=U/\hU w):Ct 100 [.a w.c] (λr=>∃t,r= .l ((cw w).map aH8.c) t U):=by refine aKD rfl λs2 hl b1 h0=>?_;obtain⟨H,bi,S,az,av⟩:=hp;have ba:=H.ev;simp+contextual only[YE,u0,u1,b1,rk,ix,aj,↓uL];have z:∀k m:Nat,k<=16->m<=100->k*m<=16*100:=λk m a b=>Nat.mul_le_mul a b;refine iu (λa i=>[a,iv i]) 1 uF nf2 113 3 (L w.ac) (λk=>(lr (L w.ac) k).map aH8.c) (λ_=>True) trivial (.inl ⟨rfl,rfl⟩) λk a Y u _ hG hF=>?_;have c1:box Y (1,1)=_:=hF.bt b1;have R:L Y=4096:=(by rw[hF.1,hl]);simp only[qz 25,aI,u0,u1,c1,rk,ix,aj,bh,↓uL];refine⟨λh=>?_,λh=>?_⟩;have j:=aL h;have bc:=AS (L w.ac) k;have bd:=z k (L w.ac) (by omega) (by omega);refine iu (λa i=>[a,iv i]) 1 uF nf2 113 3 (L w.ac) (λm=>(lr (L w.ac) k++nB k m).map aH8.c) (λ_=>True) trivial (by grind [nB]) λm a2 M hm _ q d=>?_;have v:L M=4096:=(by rw[d.1,R]);have be:=Qu k m;simp only[qz 61,aI,di,u0,u1,qz 83,qy 4,qy 6,xy,↓uL];refine⟨λo=>⟨λs=>?_,λs=>?_⟩,λo=>?_⟩;refine rF ⟨1,k,m⟩ q (by decide) (by omega) (by simp;omega) λX A g3 p=>?_;simp only[qz 81,aI,au,fE,cS,aY,↓uL];refine C0 (mk:=λa i=>[a,iv i]) (λ_ _=>rfl) (aL o) (by omega) trivial ?_ (d.trans<|p.mono<|by decide);grind [nB,uP,bje];simp only[qz 81,aI,au,fE,cS,aY,↓uL];refine C0 (mk:=λa i=>[a,iv i]) (λ_ _=>rfl) (aL o) (by omega) trivial ?_ d;grind [nB,uP];have f:m=L w.ac:=(by grind);subst f;refine C0 (mk:=λa i=>[a,iv i]) (λ_ _=>rfl) j (by omega) trivial ?_<|hF.trans d;grind [lr,tq];have e:k=L w.ac:=(by grind);subst e;have a0:=AS (L w.ac)<|L w.ac;have a8:=z (L w.ac) (L w.ac) (by omega) (by omega);clear h u;refine iu (λa i=>[a,iv i]) 1 uF nf2 113 3 (L w.ac) (λk=>(lr (L w.ac) (L w.ac)++mK k).map aH8.c) (λ_=>True) trivial (by grind [mK]) λk a1 Y1 u _ O C=>?_;have c2:box Y1 (1,1)=_:=C.bt c1;have ad:L Y1=4096:=(by rw[C.1,R]);simp only[qz 109,qy 8,aI,u0,u1,c2,rk,ix,aj,CW,↓uL];refine⟨λh=>?_,λh=>?_⟩;refine rF ⟨2,k,0⟩ O (by decide) (by omega) (by simp[AT];omega) λX A g3 p=>?_;simp only[qz 10,au,fE,cS,aY,↓uL];refine C0 (mk:=λa i=>[a,iv i]) (λ_ _=>rfl) (aL h) (by omega) trivial ?_ (C.trans<|p.mono<|by decide);grind [mK,an5,bje];have e:k=L w.ac:=(by grind);subst e;clear h u;generalize ap:lr (L w.ac) (L w.ac)++mK (L w.ac)=T at O;have aK:L T<=1700:=(by rw[<-ap,a6G,AT];omega);refine iu (λa i=>[a,iv i]) 1 uF nf2 113 3 (L w.ac) (λk=>(T++kh w.ac k).map aH8.c) (λ_=>True) trivial (by grind [kh]) λk a2 M u _ q d=>?_;have c3:box M (1,1)=_:=d.bt c2;have v:L M=4096:=(by rw[d.1,ad]);simp only[qz 151,aI,di,qz 173,qy 12,u0,u1,c3,rk,ix,aj,bh,↓uL];refine⟨λh=>⟨vp h,?_⟩,λh=>?_⟩;refine eF rfl rfl (by decide) (by omega) λA p b3=>?_;have bb:=AU w.ac k;simp+contextual only[qz 14,qy 16,qy 18,u0,u1,b3,rk,aj,ar,Dp,CW,↓uL];refine⟨λs=>?_,λs=>?_⟩;refine rF ⟨3,k,0⟩ (q.fr p<|by decide) (by decide) (by rw[p.1,v];decide) (by simp;omega) λX B g3 F4=>?_;simp only[qz 171,aI,au,fE,cS,aY,↓uL];refine C0 (mk:=λa i=>[a,iv i]) (λ_ _=>rfl) (aL h) (by omega) trivial ?_ (d.trans<|(p.mono<|by decide).trans<|F4.mono<|by decide);grind [kh,uP,bje];simp only[qz 171,aI,au,fE,cS,aY,↓uL];refine C0 (mk:=λa i=>[a,iv i]) (λ_ _=>rfl) (aL h) (by omega) trivial ?_ (d.trans<|p.mono<|by decide);rw[kh,uP,s];simpa[kh] using q.fr p (by decide);have e:k=L w.ac:=(by grind);subst e;clear h u;generalize aX:T++kh w.ac (L w.ac)=G at q;have aM:L G<=1800:=(by grind [AU,a6G]);refine iu (λa i=>[a,iv i]) 1 uF nf2 113 3 (L w.ac) (λk=>(G++ki w k).map aH8.c) (λ_=>True) trivial (by grind [ki]) λk X A u _ P x=>?_;have c4:box A (1,1)=_:=x.bt c3;have E:L A=4096:=(by rw[x.1,v]);simp only[qz 199,aI,di,qz 221,qy 20,u0,u1,c4,rk,ix,aj,bh,↓uL];refine⟨λh=>⟨vp h,?_⟩,λh=>?_⟩;refine eF rfl rfl (by decide) (by omega) λW n Z=>?_;have j:=aL h;have N:box W (1,1)=_:=n.bt c4;have a9:=vU w (k:Int);have bg:=AW w k;have ax:=z k (1+L w.ac) (by omega) (by omega);have r15:aN (V 15) w.c=V (.a w.c):=rfl;simp+contextual only[qz 22,u0,u1,Z,N,r15,rk,aj,ar,Dp,bh,↓uL];refine⟨λs=>?_,λs=>?_⟩;simp only[qz 219,aI,au,fE,cS,aY,↓uL];refine C0 (mk:=λa i=>[a,iv i]) (λ_ _=>rfl) j (by omega) trivial ?_ (x.trans<|n.mono<|by decide);have:dx w (k:Int)=[]:=(by grind [fR,gd,dx]);rw[ki,tq,this,mU,cL];exact P.fr n (by decide);refine⟨⟨az,av,by omega,λhq=>?_⟩,λt'=>?_⟩;obtain⟨bf,_⟩:=H.named (k:=k) j;simp only[fN,bN,aBY] at S;obtain⟨f1,f2,f3,f4⟩:=iY S.1;grind [oU,qP];refine iu (λa i=>[a,iv i]) 1 uF nf2 113 3 (L<|dx w (k:Int)) (λm=>(G++ki w k++((dx w (k:Int)).take m).map λb=>(⟨4,(k:Int),b⟩:aH8)).map aH8.c) (λ_=>True) trivial (by grind [Gr.fr]) λm a4 B hm _ y g=>?_;have F:L B=4096:=(by rw[g.1,n.1,E]);simp only[qz 247,qy 24,aI,u0,u1,tf,rk,qM,bh,xy,↓uL];refine⟨λo=>⟨vp o,?_⟩,λo=>?_⟩;have f:=aL o;refine rF ⟨4,k,gd (dx w (k:Int)) m⟩ y (by decide) (by omega) (by simp;omega) λa5 aV g5 ae=>?_;simp only[qz 26,au,fE,cS,aY,↓uL];refine C0 (mk:=λa i=>[a,iv i]) (λ_ _=>rfl) f (by omega) trivial ?_ (g.trans<|ae.mono<|by decide);grind [EC];have f:m=L (dx w (k:Int)):=(by grind);subst f;simp only[qz 219,aI,au,fE,cS,aY,↓uL];refine C0 (mk:=λa i=>[a,iv i]) (λ_ _=>rfl) j (by omega) trivial ?_ (x.trans<|(n.mono<|by decide).trans g);grind [ki,tq,bje,gV];have e:k=L w.ac:=(by grind);subst e;clear h u;generalize aZ:G++ki w (L w.ac)=K at P;have aO:L K<=3500:=(by grind [AW,a6G]);have hN:cw w=K++jp w (L w.ac):=(by grind [cw]);refine iu (λa i=>[a,iv i]) 1 uF nf2 113 3 (L w.ac) (λk=>(K++jp w k).map aH8.c) (λ_=>True) trivial (by grind [jp]) λk a4 B u _ y g=>?_;have N:box B (1,1)=_:=g.bt c4;have F:L B=4096:=(by rw[g.1,E]);simp only[qz 289,aI,di,qz 311,qy 28,u0,u1,N,rk,ix,aj,bh,↓uL];refine⟨λh=>⟨vp h,?_⟩,λh=>?_⟩;refine eF rfl rfl (by decide) (by omega) λW n Z=>?_;have j:=aL h;have c6:box W (1,1)=_:=n.bt N;have bk:=Qv w k;have ax:=z k (L w.init.mp.ay+L w.ac) (by omega) (by omega);simp+contextual only[qz 30,u0,u1,Z,c6,rk,aj,ar,Dp,↓uL];refine⟨λs=>?_,λs=>⟨(by omega),λt'=>?_⟩⟩;simp only[qz 309,aI,au,fE,cS,aY,↓uL];refine C0 (mk:=λa i=>[a,iv i]) (λ_ _=>rfl) j (by omega) trivial ?_ (g.trans<|n.mono<|by decide);have:pR w k=[]:=(by grind [pR]);rw[jp,tq,this,cL];exact y.fr n (by decide);have aW:pN (gd w.ac k)=U:=(by grind);have bj:=Rp w (gd w.ac k).nt (gd w.ac k).aq;refine iu (λa i=>[a,iv i]) 1 uF nf2 113 3 (L<|mR w (gd w.ac k).nt (gd w.ac k).aq) (λm=>(K++jp w k++((mR w (gd w.ac k).nt (gd w.ac k).aq).take m).map λb=>(⟨5,(k:Int),b⟩:aH8)).map aH8.c) (λ_=>True) trivial (by simpa using y.fr n (by decide)) λm a6 Y6 hm _ ao D=>?_;have aR:L Y6=4096:=(by rw[D.1,n.1,F]);simp only[qz 337,qy 32,aI,u0,u1,tf,rk,qM,bh,xy,↓uL];refine⟨λo=>⟨vp o,?_⟩,λo=>?_⟩;have f:=aL o;refine rF ⟨5,k,gd (mR w (gd w.ac k).nt (gd w.ac k).aq) m⟩ ao (by decide) (by omega) (by simp;omega) λa7 Y7 g7 F7=>?_;simp only[qz 34,au,fE,cS,aY,↓uL];refine C0 (mk:=λa i=>[a,iv i]) (λ_ _=>rfl) f (by omega) trivial ?_ (D.trans<|F7.mono<|by decide);grind [EC];have f:m=L (mR w (gd w.ac k).nt (gd w.ac k).aq):=(by grind);subst f;simp only[qz 309,aI,au,fE,cS,aY,↓uL];refine C0 (mk:=λa i=>[a,iv i]) (λ_ _=>rfl) j (by omega) trivial ?_ (g.trans<|(n.mono<|by decide).trans D);simp_all [jp,tq,bje,pR,J9,gV];have e:k=L w.ac:=(by grind);subst e;rw[hN];grind [qV]
def BQ:FT:=om NT
def ax6{w Lw K}:=f111 BQ NT w Lw K
def apt:dO:=(100,BQ)::aps
def Ey:eJ apt:=it (rj NT)<|apg
def Lb:=ai @ax6<|@Dp
section
attribute[local irreducible] aX
def a1q a s0 R:=(.mk _:NR apt auF Tryz.f286 [a] [] s0 R).p
def bgS{a:AV}{R:o8}(h:H0 λs0=>a1q a s0 R):Ct 286 [a] R:=z0 auF Ey Tryz.func286 h
def a9i:=bA 8 [(5,([5],[]))]
def a1m a b s0 R:=(.mk _:NR apt a9i Tryz.f269 [a,b] [] s0 R).p
def bgQ{a b:AV}{R:o8}(h:H0 λs0=>a1m a b s0 R):Ct 269 [a,b] R:=z0 a9i Ey Tryz.func269 h
def a1M a s0 R:=(.mk _:NR apt at1 Tryz.f237 [a] [] s0 R).p
def bgW{a:AV}{R:o8}(h:H0 λs0=>a1M a s0 R):Ct 237 [a] R:=z0 at1 Ey Tryz.func237 h
def a2y a b s0 R:=(.mk _:NR apt at1 Tryz.f211 [a,b] [] s0 R).p
def bg7{a b:AV}{R:o8}(h:H0 λs0=>a2y a b s0 R):Ct 211 [a,b] R:=z0 at1 Ey Tryz.func211 h
def a2D a b s0 R:=(.mk _:NR apt atS Tryz.f220 [a,b] [] s0 R).p
def bg9{a b:AV}{R:o8}(h:H0 λs0=>a2D a b s0 R):Ct 220 [a,b] R:=z0 atS Ey Tryz.func220 h
def a9l:=bA 10 [(3,([5],[1,2]))]
def a1r a b c R:=(.mk _:NR apt a9l Tryz.f279 [.u,b] [a] c R).p
def bgT{c0:List AV}{b:AV}{R:o8}(l0:L c0=6)(h:H1 31 6 2 c0 λia c=>a1r ia b c R):Ct 279 [.a c0,b] R:=z1 a9l Ey Tryz.func279 l0 h
def a9n:=bA 21 [(3,([5],[1,4])),(8,([13],[1,4])),(15,([37],[1,4]))]
def a1F a b R:=(.mk _:NR apt a9n Tryz.f174 [.u] [a] b R).p
def bgV{c0:List AV}{R:o8}(l0:L c0=6)(h:H1 251 6 1 c0 λia b=>a1F ia b R):Ct 174 [.a c0] R:=z1 a9n Ey Tryz.func174 l0 h
def a24 a s0 R:=(.mk _:NR apt auF Tryz.f271 [a] [] s0 R).p
def bhe{a:AV}{R:o8}(h:H0 λs0=>a24 a s0 R):Ct 271 [a] R:=z0 auF Ey Tryz.func271 h
def aVt b R t1 a:=aU b (iv 6) λt3=>bX t3 b λf=>aC t3 (aO .gtr f<|iv 28) λg=>aD t3 (bv U) g λh=>ah h (aE R a [iv 0]) (aO .sub b (iv 6) λc=>ao 1 a t1 c λd=>aM a d λe=>aE R a [e])
def aVs a s0 R:=eV (aX bH 23 s0 [(0,iv 3),(1,iv 3),(2,iv 4),(3,iv 4),(4,iv 5),(5,iv 6),(6,iv 7),(7,iv 8),(8,iv 9),(9,iv 10),(10,iv 11),(11,iv 12),(12,iv 13),(13,iv 14),(14,iv 15),(15,iv 16),(16,iv 18),(17,iv 19),(18,iv 20),(19,iv 21),(20,iv 22),(21,iv 23),(22,iv 2)])<|aVt a R
def bhn{a:AV}{R:o8}(h:H0 λs0=>aVs a s0 R):Ct 239 [a] R:=z0 ato Ey Tryz.func239 h
def a0p a b s0 R:=(.mk _:NR apt atS Tryz.f245 [a,b] [] s0 R).p
def bgB{a b:AV}{R:o8}(h:H0 λs0=>a0p a b s0 R):Ct 245 [a,b] R:=z0 atS Ey Tryz.func245 h
def a0C a b s0 R:=(.mk _:NR apt atS Tryz.f246 [a,b] [] s0 R).p
def bgG{a b:AV}{R:o8}(h:H0 λs0=>a0C a b s0 R):Ct 246 [a,b] R:=z0 atS Ey Tryz.func246 h
def a8V:=bA 9 []
def a0e a s0 R:=(.mk _:NR apt a8V Tryz.f293 [a] [] s0 R).p
def bgt{a:AV}{R:o8}(h:H0 λs0=>a0e a s0 R):Ct 293 [a] R:=z0 a8V Ey Tryz.func293 h
def a0l a b R:=(.mk _:NR apt at1 Tryz.f288 [.u] [a] b R).p
def bgy{c0:List AV}{R:o8}(l0:L c0=4)(h:H1 259 4 1 c0 λia b=>a0l ia b R):Ct 288 [.a c0] R:=z1 at1 Ey Tryz.func288 l0 h
def a0S a b s0 R:=(.mk _:NR apt auF Tryz.f275 [a,b] [] s0 R).p
def bgK{a b:AV}{R:o8}(h:H0 λs0=>a0S a b s0 R):Ct 275 [a,b] R:=z0 auF Ey Tryz.func275 h
def a0R a s0 R:=(.mk _:NR apt auF Tryz.f278 [a] [] s0 R).p
def bgJ{a:AV}{R:o8}(h:H0 λs0=>a0R a s0 R):Ct 278 [a] R:=z0 auF Ey Tryz.func278 h
def a0c a s0 R:=(.mk _:NR apt at1 Tryz.f178 [a] [] s0 R).p
def bgs{a:AV}{R:o8}(h:H0 λs0=>a0c a s0 R):Ct 178 [a] R:=z0 at1 Ey Tryz.func178 h
def a0a a s0 R:=(.mk _:NR apt at1 Tryz.f255 [a] [] s0 R).p
def bgr{a:AV}{R:o8}(h:H0 λs0=>a0a a s0 R):Ct 255 [a] R:=z0 at1 Ey Tryz.func255 h
def aUG s0 R:=(.mk _:NR apt at1 Tryz.f175 [] [] s0 R).p
def bgk{R:o8}(h:H0 λs0=>aUG s0 R):Ct 175 [] R:=z0 at1 Ey Tryz.func175 h
def aVS s0 R:=(.mk _:NR apt at1 Tryz.f164 [] [] s0 R).p
def bhz{R:o8}(h:H0 λs0=>aVS s0 R):Ct 164 [] R:=z0 at1 Ey Tryz.func164 h
def a9S:=bA 21 [(3,([9],[0,1,2,3])),(11,([10,11,12],[0,1,2,3,9])),(14,([10,11],[0,1,2,3,9,12]))]
def a4p a b c d s0 R:=(.mk _:NR apt a9S Tryz.f115 [a,b,c,d] [] s0 R).p
def bhq{a b c d:AV}{R:o8}(h:H0 λs0=>a4p a b c d s0 R):Ct 115 [a,b,c,d] R:=z0 a9S Ey Tryz.func115 h
def aU6 a b s0 R:=(.mk _:NS apt atS Tryz.f251 [a,b] [] s0 R).p
def bg3{a b:AV}{s0:ae}{R:be}(c:L s0=4096)(h:aU6 a b s0 R):EB 251 [a,b] s0 R:=zB atS Ey Tryz.func251 h
end
inductive vm where
 |mk(op n:Int)(name:ByteArray)(l:List vm)
def vm.op:vm->Int| .mk a _ _ _=>a
def vm.n:vm->Int| .mk _ a _ _=>a
def vm.name:vm->ByteArray| .mk _ _ a _=>a
def vm.l:vm->List vm| .mk _ _ _ a=>a
instance:Inhabited vm:=⟨.mk 0 0 ⟨#[]⟩ []⟩
mutual
def vm.c:vm->List AV| .mk op n a l=>[iv op,iv n,st a, .l (vm.cr l) I I]
def vm.cr:List vm->List (List AV)|[]=>[]|e::l=>vm.c e::vm.cr l
end
def vm.cr_eq:∀{l:List vm},vm.cr l=l.map vm.c
 |[]=>by simp only[vm.cr,mU]
 |e::l=>by simp only[vm.cr,ji,vm.cr_eq]
def aoH{x:vm}:vm.c x=[iv x.op,iv x.n,st x.name,sl vm.c x.l]:=by cases x;simp only[vm.c,vm.cr_eq,vm.op,vm.n,vm.name,vm.l,sl]
inductive eo where
 |mk(op line:Int)(name arg:ByteArray)(index:List vm)(expr:vm)(body els:List eo)
def eo.op:eo->Int| .mk a _ _ _ _ _ _ _=>a
def eo.line:eo->Int| .mk _ a _ _ _ _ _ _=>a
def eo.name:eo->ByteArray| .mk _ _ a _ _ _ _ _=>a
def eo.arg:eo->ByteArray| .mk _ _ _ a _ _ _ _=>a
def eo.index:eo->List vm| .mk _ _ _ _ a _ _ _=>a
def eo.expr:eo->vm| .mk _ _ _ _ _ a _ _=>a
def eo.body:eo->List eo| .mk _ _ _ _ _ _ a _=>a
def eo.els:eo->List eo| .mk _ _ _ _ _ _ _ a=>a
instance:Inhabited eo:=⟨.mk 0 0 ⟨#[]⟩ ⟨#[]⟩ [] default [] []⟩
mutual
def eo.c:eo->List AV| .mk op e b arg index a d els=>[iv op,iv e,st b,st arg,sl vm.c index,iv a.op,iv a.n,st a.name,sl vm.c a.l, .l (eo.cr d) I I, .l (eo.cr els) I I]
def eo.cr:List eo->List (List AV)|[]=>[]|e::l=>eo.c e::eo.cr l
end
def eo.cr_eq:∀{l:List eo},eo.cr l=l.map eo.c
 |[]=>by simp only[eo.cr,mU]
 |e::l=>by simp only[eo.cr,ji,eo.cr_eq]
def apT{x:eo}:eo.c x=[iv x.op,iv x.line,st x.name,st x.arg,sl vm.c x.index,iv x.expr.op,iv x.expr.n,st x.expr.name,sl vm.c x.expr.l,sl eo.c x.body,sl eo.c x.els]:=by cases x;simp only[eo.c,eo.cr_eq,eo.op,eo.line,eo.name,eo.arg,eo.index,eo.expr,eo.body,eo.els,sl]
structure asq where
 kind:Int
 line:Int
 name:ByteArray
 size:Int
 init:Int
 on:ByteArray
 deriving Inhabited
def asq.c(x:asq):List AV:=[iv x.kind,iv x.line,st x.name,iv x.size,iv x.init,st x.on]
structure xt where
 name:ByteArray
 line:Int
 locs:List ByteArray
 body:List eo
 deriving Inhabited
def xt.c(x:xt):List AV:=[st x.name,iv x.line,sl cs x.locs,sl eo.c x.body]
structure xr where
 A7:List asq
 ay:List xt
 deriving Inhabited
def xr.c(x:xr):List AV:=[sl asq.c x.A7,sl xt.c x.ay]
structure lF where
 op:Int
 a:Int
 b:Int
 k:Int
 n:Int
 site:Int
 deriving Inhabited
def lF.c(x:lF):List AV:=[iv x.op,iv x.a,iv x.b,iv x.k,iv x.n,iv x.site]
structure A2 where
 li:Int
 aYx:List lF
 deriving Inhabited
def A2.c(x:A2):List AV:=[iv x.li,sl lF.c x.aYx]
structure qt where
 aQ:vb
 ay:List A2
 deriving Inhabited
def qt.c(x:qt):List AV:=x.aQ.c++[sl A2.c x.ay]
structure pt where
 pc:Int
 li:List Int
 lj:List (List Int)
 ac:Int
 deriving Inhabited
def pt.c(x:pt):List AV:=[iv x.pc,sl ci x.li,sl cl x.lj,iv x.ac]
structure pm where
 mp:aW
 cells:List Int
 bU:List Int
 ay:List pt
 deriving Inhabited
def pm.c(x:pm):List AV:=x.mp.c++[sl ci x.cells,sl ci x.bU,sl pt.c x.ay]
structure O3 where
 aQ:vb
 ac:List aP
 deriving Inhabited
def O3.c(x:O3):List AV:=x.aQ.c++[sl aP.c x.ac]
def aN9{x:vm}:L (vm.c x)=4:=by rw[aoH];rfl
theorem WV{x:eo}:L (eo.c x)=11:=by rw[apT];rfl
section
variable{K:o8}{Y:ae}{i:Int}
def bcY{l:List vm}:rV (cz 4 Y (sl vm.c l)<|iv i) K=(aF (L l) i/\K (.q<|vm.c<|gd l i.toNat)):=aBz λ_=>aN9
def bc0{l:List eo}:rV (cz 11 Y (sl eo.c l)<|iv i) K=(aF (L l) i/\K (.q<|eo.c<|gd l i.toNat)):=aBz λ_=>WV
def bcX{l:List asq}:rV (cz 6 Y (sl asq.c l)<|iv i) K=(aF (L l) i/\K (.q<|asq.c<|gd l i.toNat)):=aBz λ_=>rfl
def bc2{l:List xt}:rV (cz 4 Y (sl xt.c l)<|iv i) K=(aF (L l) i/\K (.q<|xt.c<|gd l i.toNat)):=aBz λ_=>rfl
def bcZ{l:List lF}:rV (cz 6 Y (sl lF.c l)<|iv i) K=(aF (L l) i/\K (.q<|lF.c<|gd l i.toNat)):=aBz λ_=>rfl
def bc1{l:List A2}:rV (cz 2 Y (sl A2.c l)<|iv i) K=(aF (L l) i/\K (.q<|A2.c<|gd l i.toNat)):=aBz λ_=>rfl
def bc3{l:List pt}:rV (cz 4 Y (sl pt.c l)<|iv i) K=(aF (L l) i/\K (.q<|pt.c<|gd l i.toNat)):=aBz λ_=>rfl
def aPR{a b:Int}:wl .rem 0 [] (iv a) (iv b)=if b≠0 then V (iv<|a.tmod b) else J:=by by_cases h:b=0<;>simp[wl,zP,h]
def a5N{a b:Int}:wl .quo 0 [] (iv a) (iv b)=if b≠0 then V (iv<|dq.wrap<|a.tdiv b) else J:=by by_cases h:b=0<;>simp[wl,zP,h]
end
def Ca:=ai @bcY<|ai @bc0<|ai @bcX<|ai @bc2<|ai @bcZ<|ai @bc1<|@bc3
mutual
def a53:∀{x y:vm},vm.c x=vm.c y->x=y
 | .mk a b c d, .mk e f g j,h=>by
  simp only[vm.c,kO,AV.s.injEq,mW,mX,AV.l.injEq,I9,aNR] at h
  obtain⟨rfl,rfl,rfl,h⟩:=h
  rw[a6d h]
def a6d:∀{x y:List vm},vm.cr x=vm.cr y->x=y
 |[],[],_=>rfl
 |[],_::_,h=>by grind [vm.cr]
 |_::_,[],h=>by grind [vm.cr]
 |a::l,b::m,h=>by
  simp only[vm.cr,kO] at h
  rw[a53 h.1,a6d h.2]
end
theorem aOD{x y:vm}:(vm.c x=vm.c y)=(x=y):=aOx ⟨a53,λh=>by rw[h]⟩
def aOZ{l l':List vm}:(sl vm.c l=sl vm.c l')=(l=l'):=(by grind [kL,aOD])
mutual
def a54:∀{x y:eo},eo.c x=eo.c y->x=y
 | .mk a b c d e f g i, .mk k m o p t j u B,h=>by
  simp only[eo.c,kO,AV.s.injEq,mW,mX,AV.l.injEq,I9,aNR,aOZ] at h
  obtain⟨rfl,rfl,rfl,rfl,rfl,v,w,z,A,q,r⟩:=h
  have:f=j:=by
   obtain⟨a,b,c,d⟩:=f;obtain⟨k,m,o,p⟩:=j
   grind [vm.op,vm.n,vm.name,vm.l]
  rw[this,aV9 q,aV9 r]
def aV9:∀{x y:List eo},eo.cr x=eo.cr y->x=y
 |[],[],_=>rfl
 |[],_::_,h=>by grind [eo.cr]
 |_::_,[],h=>by grind [eo.cr]
 |a::l,b::m,h=>by
  simp only[eo.cr,kO] at h
  rw[a54 h.1,aV9 h.2]
end
theorem a6B{x y:eo}:(eo.c x=eo.c y)=(x=y):=aOx ⟨a54,λh=>by rw[h]⟩
def aO0{l l':List eo}:(sl eo.c l=sl eo.c l')=(l=l'):=(by grind [kL,a6B])
structure xd where
 aq:Int
 lD:Int
 deriving Inhabited,DecidableEq
def xd.c(x:xd):List AV:=[iv x.aq,iv x.lD]
theorem aOY{x y:asq}:(asq.c x=asq.c y)=(x=y):=by apply aOx;constructor;intro h;(cases x;cases y);simp only[asq.c,vb.c,aW.c,zn,dW,kO,AV.s.injEq,mW,mV,mX,I9,aNR,amV,aOD,aOZ,aO0] at h;simp only[asq.mk.injEq,vb.ext_iff',aW.ext_iff',mn.ext_iff',a6z];exact h;intro h;rw[h]
def aPj{l l':List asq}:(sl asq.c l=sl asq.c l')=(l=l'):=(by grind [kL,aOY])
theorem aPD{x y:xt}:(xt.c x=xt.c y)=(x=y):=by apply aOx;constructor;intro h;(cases x;cases y);simp only[xt.c,vb.c,aW.c,zn,dW,kO,AV.s.injEq,mW,mV,mX,I9,aNR,amV,aOD,aOZ,aO0,aOY,aPj] at h;simp only[xt.mk.injEq,vb.ext_iff',aW.ext_iff',mn.ext_iff',a6z];exact h;intro h;rw[h]
def aPE{l l':List xt}:(sl xt.c l=sl xt.c l')=(l=l'):=(by grind [kL,aPD])
theorem aPC{x y:xr}:(xr.c x=xr.c y)=(x=y):=by apply aOx;constructor;intro h;(cases x;cases y);simp only[xr.c,vb.c,aW.c,zn,dW,kO,AV.s.injEq,mW,mV,mX,I9,aNR,amV,aOD,aOZ,aO0,aOY,aPj,aPD,aPE] at h;simp only[xr.mk.injEq,vb.ext_iff',aW.ext_iff',mn.ext_iff',a6z];exact h;intro h;rw[h]
def aQr{l l':List xr}:(sl xr.c l=sl xr.c l')=(l=l'):=(by grind [kL,aPC])
theorem aPX{x y:lF}:(lF.c x=lF.c y)=(x=y):=by apply aOx;constructor;intro h;(cases x;cases y);simp only[lF.c,vb.c,aW.c,zn,dW,kO,AV.s.injEq,mW,mV,mX,I9,aNR,amV,aOD,aOZ,aO0,aOY,aPj,aPD,aPE,aPC,aQr] at h;simp only[lF.mk.injEq,vb.ext_iff',aW.ext_iff',mn.ext_iff',a6z];exact h;intro h;rw[h]
def aQq{l l':List lF}:(sl lF.c l=sl lF.c l')=(l=l'):=(by grind [kL,aPX])
theorem aQp{x y:A2}:(A2.c x=A2.c y)=(x=y):=by apply aOx;constructor;intro h;(cases x;cases y);simp only[A2.c,vb.c,aW.c,zn,dW,kO,AV.s.injEq,mW,mV,mX,I9,aNR,amV,aOD,aOZ,aO0,aOY,aPj,aPD,aPE,aPC,aQr,aPX,aQq] at h;simp only[A2.mk.injEq,vb.ext_iff',aW.ext_iff',mn.ext_iff',a6z];exact h;intro h;rw[h]
def aRT{l l':List A2}:(sl A2.c l=sl A2.c l')=(l=l'):=(by grind [kL,aQp])
theorem aQY{x y:qt}:(qt.c x=qt.c y)=(x=y):=by apply aOx;constructor;intro h;(cases x;cases y);simp only[qt.c,vb.c,aW.c,zn,dW,kO,AV.s.injEq,mW,mV,mX,I9,aNR,amV,aOD,aOZ,aO0,aOY,aPj,aPD,aPE,aPC,aQr,aPX,aQq,aQp,aRT] at h;simp only[qt.mk.injEq,vb.ext_iff',aW.ext_iff',mn.ext_iff',a6z];exact h;intro h;rw[h]
def aTm{l l':List qt}:(sl qt.c l=sl qt.c l')=(l=l'):=(by grind [kL,aQY])
theorem aRS{x y:pt}:(pt.c x=pt.c y)=(x=y):=by apply aOx;constructor;intro h;(cases x;cases y);simp only[pt.c,vb.c,aW.c,zn,dW,kO,AV.s.injEq,mW,mV,mX,I9,aNR,amV,aOD,aOZ,aO0,aOY,aPj,aPD,aPE,aPC,aQr,aPX,aQq,aQp,aRT,aQY,aTm] at h;simp only[pt.mk.injEq,vb.ext_iff',aW.ext_iff',mn.ext_iff',a6z];exact h;intro h;rw[h]
def aWB{l l':List pt}:(sl pt.c l=sl pt.c l')=(l=l'):=(by grind [kL,aRS])
theorem aTl{x y:pm}:(pm.c x=pm.c y)=(x=y):=by apply aOx;constructor;intro h;(cases x;cases y);simp only[pm.c,vb.c,aW.c,zn,dW,kO,AV.s.injEq,mW,mV,mX,I9,aNR,amV,aOD,aOZ,aO0,aOY,aPj,aPD,aPE,aPC,aQr,aPX,aQq,aQp,aRT,aQY,aTm,aRS,aWB] at h;simp only[pm.mk.injEq,vb.ext_iff',aW.ext_iff',mn.ext_iff',a6z];exact h;intro h;rw[h]
def a6C{l l':List pm}:(sl pm.c l=sl pm.c l')=(l=l'):=(by grind [kL,aTl])
theorem aWA{x y:O3}:(O3.c x=O3.c y)=(x=y):=by apply aOx;constructor;intro h;(cases x;cases y);simp only[O3.c,vb.c,aW.c,zn,dW,kO,AV.s.injEq,mW,mV,mX,I9,aNR,amV,aOD,aOZ,aO0,aOY,aPj,aPD,aPE,aPC,aQr,aPX,aQq,aQp,aRT,aQY,aTm,aRS,aWB,aTl,a6C] at h;simp only[O3.mk.injEq,vb.ext_iff',aW.ext_iff',mn.ext_iff',a6z];exact h;intro h;rw[h]
def bcS{l l':List O3}:(sl O3.c l=sl O3.c l')=(l=l'):=(by grind [kL,aWA])
theorem a6A{x y:xd}:(xd.c x=xd.c y)=(x=y):=by apply aOx;constructor;intro h;(cases x;cases y);simp only[xd.c,vb.c,aW.c,zn,dW,kO,AV.s.injEq,mW,mV,mX,I9,aNR,amV,aOD,aOZ,aO0,aOY,aPj,aPD,aPE,aPC,aQr,aPX,aQq,aQp,aRT,aQY,aTm,aRS,aWB,aTl,a6C,aWA,bcS] at h;simp only[xd.mk.injEq,vb.ext_iff',aW.ext_iff',mn.ext_iff',a6z];exact h;intro h;rw[h]
def bcR{l l':List xd}:(sl xd.c l=sl xd.c l')=(l=l'):=(by grind [kL,a6A])
def Nb:=ai @aOD<|ai @a6B<|ai @aO0<|ai @aOY<|ai @aPj<|ai @aPE<|ai @aPC<|ai @aPX<|ai @aQq<|ai @aQp<|ai @aQY<|ai @aRS<|ai @aTl<|ai @aWA<|ai @a6A<|@bcR
def ben{x:vm}:aN J (vm.c x)=V (iv x.op):=by rw[aoH];rfl
def beo{x:vm}:aN J ((vm.c x).drop 1)=V (iv x.n):=by rw[aoH];rfl
def bep{x:vm}:aN J ((vm.c x).drop 2)=V (st x.name):=by rw[aoH];rfl
def ber{x:vm}:aN J ((vm.c x).drop 3)=V (sl vm.c x.l):=by rw[aoH];rfl
theorem a69{x:vm}:aN (V 4) (vm.c x)=V (.a<|vm.c x):=by rw[aoH];rfl
def beI{x:eo}:aN J (eo.c x)=V (iv x.op):=by rw[apT];rfl
def beJ{x:eo}:aN J ((eo.c x).drop 1)=V (iv x.line):=by rw[apT];rfl
def beL{x:eo}:aN J ((eo.c x).drop 2)=V (st x.name):=by rw[apT];rfl
def beM{x:eo}:aN J ((eo.c x).drop 3)=V (st x.arg):=by rw[apT];rfl
def beN{x:eo}:aN J ((eo.c x).drop 4)=V (sl vm.c x.index):=by rw[apT];rfl
def beO{x:eo}:aN J ((eo.c x).drop 9)=V (sl eo.c x.body):=by rw[apT];rfl
def beK{x:eo}:aN J ((eo.c x).drop 10)=V (sl eo.c x.els):=by rw[apT];rfl
def beP{x:eo}:aN (V 4) ((eo.c x).drop 5)=V (.a<|vm.c x.expr):=by rw[apT,aoH];rfl
def beQ{x:eo}:aN (V 11) (eo.c x)=V (.a<|eo.c x):=by rw[apT];rfl
def bef{x:asq}:aN J (asq.c x)=V (iv x.kind):=rfl
def beg{x:asq}:aN J ((asq.c x).drop 1)=V (iv x.line):=rfl
def beh{x:asq}:aN J ((asq.c x).drop 2)=V (st x.name):=rfl
def bei{x:asq}:aN J ((asq.c x).drop 3)=V (iv x.size):=rfl
def bej{x:asq}:aN J ((asq.c x).drop 4)=V (iv x.init):=rfl
def bek{x:asq}:aN J ((asq.c x).drop 5)=V (st x.on):=rfl
def bem{x:asq}:aN (V 6) (asq.c x)=V (.a<|asq.c x):=rfl
def beU{x:xt}:aN J (xt.c x)=V (st x.name):=rfl
def beV{x:xt}:aN J ((xt.c x).drop 1)=V (iv x.line):=rfl
def beW{x:xt}:aN J ((xt.c x).drop 2)=V (sl cs x.locs):=rfl
def beX{x:xt}:aN J ((xt.c x).drop 3)=V (sl eo.c x.body):=rfl
def beY{x:xt}:aN (V 4) (xt.c x)=V (.a<|xt.c x):=rfl
def bez{x:xr}:aN J (xr.c x)=V (sl asq.c x.A7):=rfl
def beA{x:xr}:aN J ((xr.c x).drop 1)=V (sl xt.c x.ay):=rfl
def beB{x:xr}:aN (V 2) (xr.c x)=V (.a<|xr.c x):=rfl
def bes{x:lF}:aN J (lF.c x)=V (iv x.op):=rfl
def bet{x:lF}:aN J ((lF.c x).drop 1)=V (iv x.a):=rfl
def beu{x:lF}:aN J ((lF.c x).drop 2)=V (iv x.b):=rfl
def bev{x:lF}:aN J ((lF.c x).drop 3)=V (iv x.k):=rfl
def bew{x:lF}:aN J ((lF.c x).drop 4)=V (iv x.n):=rfl
def bex{x:lF}:aN J ((lF.c x).drop 5)=V (iv x.site):=rfl
def bey{x:lF}:aN (V 6) (lF.c x)=V (.a<|lF.c x):=rfl
def beR{x:A2}:aN J (A2.c x)=V (iv x.li):=rfl
def beS{x:A2}:aN J ((A2.c x).drop 1)=V (sl lF.c x.aYx):=rfl
def beT{x:A2}:aN (V 2) (A2.c x)=V (.a<|A2.c x):=rfl
def bd9{x:qt}:aN J (qt.c x)=V (sl cA.c x.aQ.cells):=rfl
def bea{x:qt}:aN J ((qt.c x).drop 3)=V (sl cs x.aQ.bU):=rfl
def beb{x:qt}:aN J ((qt.c x).drop 4)=V (sl cs x.aQ.ay):=rfl
def bec{x:qt}:aN J ((qt.c x).drop 6)=V (sl A2.c x.ay):=rfl
def bed{x:qt}:aN (V 6) (qt.c x)=V (.a<|x.aQ.c):=rfl
def bee{x:qt}:aN (V 7) (qt.c x)=V (.a<|qt.c x):=rfl
def beZ{x:pt}:aN J (pt.c x)=V (iv x.pc):=rfl
def be0{x:pt}:aN J ((pt.c x).drop 1)=V (sl ci x.li):=rfl
def be1{x:pt}:aN J ((pt.c x).drop 2)=V (sl cl x.lj):=rfl
def be2{x:pt}:aN (V 4) (pt.c x)=V (.a<|pt.c x):=rfl
def beC{x:pm}:aN J ((pm.c x).drop 3)=V (sl aoC.c x.mp.ay):=rfl
def beD{x:pm}:aN J ((pm.c x).drop 4)=V (sl ci x.cells):=rfl
def beE{x:pm}:aN J ((pm.c x).drop 5)=V (sl ci x.bU):=rfl
def beF{x:pm}:aN J ((pm.c x).drop 6)=V (sl pt.c x.ay):=rfl
def beG{x:pm}:aN (V 4) (pm.c x)=V (.a<|x.mp.c):=rfl
def beH{x:pm}:aN (V 7) (pm.c x)=V (.a<|pm.c x):=rfl
def bpn{x:xd}:aN J (xd.c x)=V (iv x.aq):=rfl
def bpo{x:xd}:aN J ((xd.c x).drop 1)=V (iv x.lD):=rfl
def bpp{x:xd}:aN (V 2) (xd.c x)=V (.a<|xd.c x):=rfl
def yr{a:AV}{l:List AV}:aN J (a::l)=V a:=rfl
def C5{α:Type}{a:α}{n:Nat}{l:List α}:aOz (n+1) (a::l)=aOz n l:=rfl
def yd{α:Type}{l:List α}:aOz 0 l=l:=rfl
def gw:=ai @ben<|ai @beo<|ai @bep<|ai @ber<|ai @a69<|ai @beI<|ai @beJ<|ai @beL<|ai @beM<|ai @beN<|ai @beO<|ai @beK<|ai @beP<|ai @beQ<|ai @bef<|ai @beg<|ai @beh<|ai @bei<|ai @bej<|ai @bek<|ai @bem<|ai @beU<|ai @beV<|ai @beW<|ai @beX<|ai @beY<|ai @bez<|ai @beA<|ai @beB<|ai @bes<|ai @bet<|ai @beu<|ai @bev<|ai @bew<|ai @bex<|ai @bey<|ai @beR<|ai @beS<|ai @beT<|ai @bd9<|ai @bea<|ai @beb<|ai @bec<|ai @bed<|ai @bee<|ai @beZ<|ai @be0<|ai @be1<|ai @be2<|ai @beC<|ai @beD<|ai @beE<|ai @beF<|ai @beG<|ai @beH<|ai @bpn<|ai @bpo<|ai @bpp<|ai @yr<|ai @C5<|@yd
def bab{Y:ae}{x:vm}:dG Y (.a<|vm.c x)= .a (vm.c x):=by rw[aoH];rfl
def baf{Y:ae}{x:eo}:dG Y (.a<|eo.c x)= .a (eo.c x):=by rw[apT];rfl
def baa{Y:ae}{x:asq}:dG Y (.a<|asq.c x)= .a (asq.c x):=rfl
def bad{Y:ae}{x:xr}:dG Y (.a<|xr.c x)= .a (xr.c x):=rfl
def bac{Y:ae}{x:lF}:dG Y (.a<|lF.c x)= .a (lF.c x):=rfl
def bag{Y:ae}{x:A2}:dG Y (.a<|A2.c x)= .a (A2.c x):=rfl
def a99{Y:ae}{x:qt}:dG Y (.a<|qt.c x)= .a (qt.c x):=rfl
def bai{Y:ae}{x:pt}:dG Y (.a<|pt.c x)= .a (pt.c x):=rfl
def bae{Y:ae}{x:pm}:dG Y (.a<|pm.c x)= .a (pm.c x):=rfl
def bah{Y:ae}{x:O3}:dG Y (.a<|O3.c x)= .a (O3.c x):=rfl
def a98{Y:ae}{x:xd}:dG Y (.a<|xd.c x)= .a (xd.c x):=rfl
def bba{v:Value}:iX (.s v)=U:=rfl
def ba8{α:Type}{f:α->List AV}{l:List α}:iX (sl f l)=U:=rfl
def bbb{x:vm}:iX (.a<|vm.c x)=U:=by simp[iX,eN,aoH,sl]
def bbd{x:eo}:iX (.a<|eo.c x)=U:=by simp[iX,eN,apT,sl]
def bbc{x:xr}:iX (.a<|xr.c x)=U:=rfl
def aOW:=ai @bba<|ai @ba8<|ai @bbb<|ai @bbd<|@bbc
def Fa:=ai @bab<|ai @baf<|ai @baa<|ai @bad<|ai @bac<|ai @bag<|ai @a99<|ai @bai<|ai @bae<|ai @bah<|@a98
section
variable{K:o8}{Y:ae}{i:Int}
def boW{l:List xd}:rV (cz 2 Y (sl xd.c l)<|iv i) K=(aF (L l) i/\K (.q<|xd.c<|gd l i.toNat)):=aBz λ_=>rfl
end
abbrev qN:ByteArray:=⟨#[113]⟩
def C6:Nat->vm->Prop|0,_=>False|n+1,e=>(((e.op=1\/e.op=2)/\e.l=[])\/(e.op=3/\e.name=qN/\L e.l=1)\/(6<=e.op/\L e.l=2))/\∀x∈e.l,C6 n x
theorem C6.len{n:Nat}{e:vm}(h:C6 n e):L e.l<=2:=by cases n with|zero=>exact h.elim|succ n=>rcases h.1 with⟨_,h⟩|⟨_,_,h⟩|⟨_,h⟩<;>simp[h]
theorem C6.sub{n:Nat}{e:vm}(h:C6 n e){k:Nat}(a:k<L e.l):∃m,n=m+1/\C6 m (gd e.l k):=by cases n with|zero=>exact h.elim|succ n=>exact⟨n,rfl,h.2 _ (dB a)⟩
theorem C6.mono:∀{n m:Nat} {e:vm},C6 n e->n<=m->C6 m e
 |0,_,_,h,_=>h.elim
 |n+1,0,_,_,h=>by omega
 |n+1,m+1,e,h,b=>⟨h.1,λx a=>(h.2 x a).mono<|by omega⟩
def A5:Nat->eo->Prop|0,_=>False|n+1,s=>((s.op=1\/s.op=2\/s.op=3\/s.op=14)->C6 2 s.expr)/\L s.index<=1/\(∀x∈s.index,C6 2 x)/\(s.index≠[]->s.name=qN)/\L s.expr.l<=2/\L s.body<=4/\(∀x∈s.body,A5 n x)/\L s.els<=4/\(∀x∈s.els,A5 n x)/\1<=s.op/\s.op<=15
def A5.up{n:Nat}{s:eo}(h:A5 n s):∃m,n=m+1/\(∀x∈s.body,A5 m x)/\∀x∈s.els,A5 m x:=by cases n with|zero=>exact h.elim|succ n=>exact⟨n,rfl,h.2.2.2.2.2.2.1,h.2.2.2.2.2.2.2.2.1⟩
def A5.at{n:Nat}{s:eo}(h:A5 n s):((s.op=1\/s.op=2\/s.op=3\/s.op=14)->C6 2 s.expr)/\L s.index<=1/\(∀x∈s.index,C6 2 x)/\(s.index≠[]->s.name=qN)/\L s.expr.l<=2/\L s.body<=4/\L s.els<=4:=by cases n with|zero=>exact h.elim|succ n=>exact⟨h.1,h.2.1,h.2.2.1,h.2.2.2.1,h.2.2.2.2.1,h.2.2.2.2.2.1,h.2.2.2.2.2.2.2.1⟩
def A5.ops{n:Nat}{s:eo}(h:A5 n s):1<=s.op/\s.op<=15:=by cases n with|zero=>exact h.elim|succ n=>exact h.2.2.2.2.2.2.2.2.2
theorem A5.mono:∀{n m:Nat} {s:eo},A5 n s->n<=m->A5 m s
 |0,_,_,h,_=>h.elim
 |n+1,0,_,_,h=>by omega
 |n+1,m+1,s,⟨c,d,e,f,g,i,j,k,l,b⟩,o=>⟨c,d,e,f,g,i,λx a=>(j x a).mono (by omega),k,λx a=>(l x a).mono (by omega),b⟩
def shL(n m:Nat)(l:List eo):Prop:=L l<=m/\∀s∈l,A5 n s
def A5.body{n:Nat}{s:eo}(h:A5 n s):∃m,n=m+1/\shL m 4 s.body/\shL m 4 s.els:=by obtain⟨m,e,a,b⟩:=h.up;exact⟨m,e,⟨h.at.2.2.2.2.2.1,a⟩,⟨h.at.2.2.2.2.2.2,b⟩⟩
def shT(t:xt):Prop:=L t.locs<=4/\shL 4 8 t.body
def PrB(p:xr):Prop:=L p.A7<1000/\L p.ay<1000/\∀t∈p.ay,L t.locs<1000
def shP(p:xr):Prop:=PrB p/\L p.ay<=4/\∀t∈p.ay,shT t
section
variable{i:Nat}(F:FT)
def aP7{A:Type}{b:A->List AV}{c:A->o8}(k:∀a,Ct i (b a)<|c a):FT:=λys K=>∃a,ys=b a/\∀r,c a r->K r
def f101{A:Type}{b:A->List AV}{e:A->o8}(k:∀a,Ct i (b a)<|e a)(a:A)(d K:o8)(g:F=aP7 k:=by exact rfl)(j:∀a c,b a=b c->a=c:=by simp+contextual only[ij]):fW F (b a) d K=(∀r,e a r->d r/\K r):=by subst g;apply aOx;constructor;rintro⟨c,h,f⟩;obtain rfl:=j _ _ h;exact f;intro h;exact⟨_,rfl,h⟩
def aR6{A:Type}{b:A->List AV}{e:A->o8}(k:∀a,Ct i (b a)<|e a)(c:∀a,(b a).all iX=U:=by intros;exact rfl):∀ys K,aP7 k ys K->jz aS GG i ys K:=by rintro ys K ⟨a,rfl,h⟩;exact nX (k a) (c a) (λr d=>h r d)
def aRd{A B:Type}{c:A->B->List AV}{d:A->B->o8}(k:∀a b,Ct i (c a b)<|d a b):FT:=λys K=>∃a b,ys=c a b/\∀r,d a b r->K r
def f201{A B:Type}{c:A->B->List AV}{g:A->B->o8}(k:∀a b,Ct i (c a b)<|g a b)(a:A)(b:B)(f K:o8)(m:F=aRd k:=by exact rfl)(j:∀a b d e,c a b=c d e->a=d/\b=e:=by simp+contextual only[ij]):fW F (c a b) f K=(∀r,g a b r->f r/\K r):=by subst m;apply aOx;constructor;rintro⟨d,e,h,l⟩;obtain⟨rfl,rfl⟩:=j _ _ _ _ h;exact l;intro h;exact⟨_,_,rfl,h⟩
def aYm{A B:Type}{c:A->B->List AV}{f:A->B->o8}(k:∀a b,Ct i (c a b)<|f a b)(d:∀a b,(c a b).all iX=U:=by intros;exact rfl):∀ys K,aRd k ys K->jz aS GG i ys K:=by rintro ys K ⟨a,b,rfl,h⟩;exact nX (k a b) (d a b) (λr e=>h r e)
def aSb{A B C:Type}{d:A->B->C->List AV}{e:A->B->C->o8}(k:∀a b c,Ct i (d a b c)<|e a b c):FT:=λys K=>∃a b c,ys=d a b c/\∀r,e a b c r->K r
def a6o{A B C:Type}{d:A->B->C->List AV}{m:A->B->C->o8}(k:∀a b c,Ct i (d a b c)<|m a b c)(a:A)(b:B)(c:C)(l K:o8)(o:F=aSb k:=by exact rfl)(j:∀a b c e f g,d a b c=d e f g->a=e/\b=f/\c=g:=by simp+contextual only[ij]):fW F (d a b c) l K=(∀r,m a b c r->l r/\K r):=by subst o;apply aOx;constructor;rintro⟨e,f,g,h,n⟩;obtain⟨rfl,rfl,rfl⟩:=j _ _ _ _ _ _ h;exact n;intro h;exact⟨_,_,_,rfl,h⟩
def a7W{A B C:Type}{d:A->B->C->List AV}{g:A->B->C->o8}(k:∀a b c,Ct i (d a b c)<|g a b c)(e:∀a b c,(d a b c).all iX=U:=by intros;exact rfl):∀ys K,aSb k ys K->jz aS GG i ys K:=by rintro ys K ⟨a,b,c,rfl,h⟩;exact nX (k a b c) (e a b c) (λr f=>h r f)
def bix{A B C D:Type}{e:A->B->C->D->List AV}{f:A->B->C->D->Prop}{v:A->B->C->D->AV}(k:∀a b c d,f a b c d->Ct i (e a b c d) (·=v a b c d)):FT:=λys K=>∃a b c d,ys=e a b c d/\f a b c d/\K (v a b c d)
def bmX{A B C D:Type}{e:A->B->C->D->List AV}{o:A->B->C->D->Prop}{v:A->B->C->D->AV}(k:∀a b c d,o a b c d->Ct i (e a b c d) (·=v a b c d))(a:A)(b:B)(c:C)(d:D)(n K:o8)(q:F=bix k:=by exact rfl)(j:∀a b c d f g l m,e a b c d=e f g l m->a=f/\b=g/\c=l/\d=m:=by simp+contextual only[ij]):fW F (e a b c d) n K=(o a b c d/\n (v a b c d)/\K (v a b c d)):=by subst q;apply aOx;constructor;rintro⟨f,g,l,m,h,p⟩;obtain⟨rfl,rfl,rfl,rfl⟩:=j _ _ _ _ _ _ _ _ h;exact p;intro h;exact⟨_,_,_,_,rfl,h⟩
def bnA{A B C D:Type}{e:A->B->C->D->List AV}{l:A->B->C->D->Prop}{v:A->B->C->D->AV}(k:∀a b c d,l a b c d->Ct i (e a b c d) (·=v a b c d))(f:∀a b c d,(e a b c d).all iX=U:=by intros;exact rfl):∀ys K,bix k ys K->jz aS GG i ys K:=by rintro ys K ⟨a,b,c,d,rfl,g,h⟩;exact nX (k a b c d g) (f a b c d) (λr j=>by rw[j];exact h)
def aTQ{A B C D E:Type}{f:A->B->C->D->E->List AV}{g:A->B->C->D->E->Prop}{h:A->B->C->D->E->o8}(k:∀a b c d e,g a b c d e->Ct i (f a b c d e) (h a b c d e)):FT:=λys K=>∃a b c d e,ys=f a b c d e/\g a b c d e/\∀r,h a b c d e r->K r
def bbn{A B C D E:Type}{f:A->B->C->D->E->List AV}{q:A->B->C->D->E->Prop}{s:A->B->C->D->E->o8}(k:∀a b c d e,q a b c d e->Ct i (f a b c d e) (s a b c d e))(a:A)(b:B)(c:C)(d:D)(e:E)(p K:o8)(u:F=aTQ k:=by exact rfl)(j:∀a b c d e g l m n o,f a b c d e=f g l m n o->a=g/\b=l/\c=m/\d=n/\e=o:=by simp+contextual only[ij]):fW F (f a b c d e) p K=(q a b c d e/\∀r,s a b c d e r->p r/\K r):=by subst u;apply aOx;constructor;rintro⟨g,l,m,n,o,h,t⟩;obtain⟨rfl,rfl,rfl,rfl,rfl⟩:=j _ _ _ _ _ _ _ _ _ _ h;exact t;intro h;exact⟨_,_,_,_,_,rfl,h⟩
def bhJ{A B C D E:Type}{f:A->B->C->D->E->List AV}{m:A->B->C->D->E->Prop}{n:A->B->C->D->E->o8}(k:∀a b c d e,m a b c d e->Ct i (f a b c d e) (n a b c d e))(g:∀a b c d e,(f a b c d e).all iX=U:=by intros;exact rfl):∀ys K,aTQ k ys K->jz aS GG i ys K:=by rintro ys K ⟨a,b,c,d,e,rfl,j,h⟩;exact nX (k a b c d e j) (g a b c d e) (λr l=>h r l)
end
def B1:AV->AV| .t vs=> .t (vs.map nrm)|x=>nrm x
theorem bdV{κ:rm}{w:World}{Y:ae}{β:Id->Nat}{v:Value}{x:AV}(h:ba κ w Y β v x):ba κ w Y β v (B1 x):=by cases x with|t vs=>(cases h with|t d h=>refine .t (by grind) λi v c f b=>?_;grind [bE,yo])|_=>exact yo h
theorem a6f{x:AV}:nj (gK x)=nj x:=by cases x<;>rfl
theorem aWa{x:AV}:pF (nrm x)=pF x:=by cases x with|a cs=>grind [nrm,pF,List.all_map,a6f]|_=>first|rfl|exact a6f
def ba7{x:AV}:kG (B1 x)=kG x:=by have h:=@aWa x;(cases x<;>first|exact h|skip);grind [B1,kG,List.all_map,aWa]
def aDq{fn:Nat}{ys:List AV}{Q:o8}(h:Ct fn ys λr=>Q<|B1 r):Ct fn ys Q:=by obtain⟨r,f,g,i,j⟩:=h;refine⟨B1 r,f,by rw[ba7];exact g,i,λF w d a b c=>(j F w d a b c).mono ?_⟩;grind [bdV]
def fz(Y:ae)(c:AV):AV:=gK<|dQ Y c
def fzT(Y:ae):AV->AV| .a cs=> .a (cs.map<|fz Y)|x=>fz Y x
def bcq{Y:ae}{c:AV}:(∃l t o,dQ Y c= .l l t o)\/dQ Y c=c:=by(cases c<;>first|exact .inr rfl|skip);grind [box,dQ,eN,frN]
theorem aXU{Y:ae}{x:AV}:nrm (iZ Y x)=fzT Y x:=by cases x with|a cs=>simp only[iZ,nrm,fzT,vA];rfl|m b n=>show nrm (dQ Y<|.m b n)=gK (dQ Y<|.m b n);(rcases bcq (Y:=Y) (c:= .m b n) with⟨l,t,o,h⟩|h<;>rw[h]<;>rfl)|_=>rfl
theorem a6g{Y:ae}{x:AV}(h:iX (fzT Y x)=U):pF (iZ Y x)=U:=by have b:pF (nrm<|iZ Y x)=U:=(by rw[aXU];generalize fzT Y x=y at h;cases y with|a cs=>simp only[iX,dV] at h;simp only[pF,dV];intro c d;have:=h c d;(cases c<;>first|rfl|grind [eN])|_=>first|rfl|grind [iX,eN]);rwa [aWa] at b
def aOH{Q:o8}{Y:ae}{vs vs':List AV}(h:vs.map (fzT Y)=vs')(d:vs'.all iX=U)(c:Q<|aoz vs'):aE (λr=>Q<|B1 r) Y vs:=by have b:kG (.t<|vs.map<|iZ Y)=U/\B1 (.t<|vs.map<|iZ Y)= .t vs':=(by constructor;grind [kG,List.all_map,dV,a6g,List.mem_map_of_mem];simp only[B1,vA,<-h];grind [ja,aXU]);unfold aE jS;rcases vs with _|⟨v,_|⟨w,l⟩⟩;subst h;exact⟨rfl,c⟩;subst h;simp only[ji,mU,Cs,aqG,ru] at d;have f:=a6g d;have g:B1 (iZ Y v)=fzT Y v/\kG (iZ Y v)=pF (iZ Y v):=(by rw[<-aXU];generalize iZ Y v=y at f;cases y<;>first|exact⟨rfl,rfl⟩|grind [pF,nj]);refine⟨by simp_all,?_⟩;show Q<|B1<|iZ Y v;rw[g.1];exact c;subst h;refine⟨b.1,?_⟩;show Q<|B1<|.t<|(v::w::l).map<|iZ Y;rw[b.2];exact c
def aOv{Q:o8}{Y:ae}{v v':AV}(h:fzT Y v=v')(c:iX v'=U)(b:Q v'):aE (λr=>Q<|B1 r) Y [v]:=by subst h;exact aOH (vs':=[fzT Y v]) rfl (by simp[c]) b
theorem aQ7{Y:ae}{v x:AV}(h:fzT Y v=x)(b:iX x=U):aE (λr=>B1 r=x) Y [v]:=aOv (Q:=(·=x)) h b rfl
def gm(Y:ae)(e:TypeId)(z:Nat)(a:AV)(aa:List<|List AV):Prop:=(aa=[]/\a= .l [] U U)\/∃b m,a= .m b (L aa)/\box Y b=V ⟨e,z,U,I,aa++m⟩
theorem bc.p{Y:ae}{e:TypeId}{z:Nat}{a:AV}{aa:List (List AV)}(h:bc Y e z a aa):gm Y e z a aa:=by rcases h with h|⟨b,c,d⟩;exact .inl h;exact .inr ⟨b,[],c,by simpa using d⟩
section
variable{Y Y':ae}{e:TypeId}{z:Nat}{a:AV}{aa:List (List AV)}
theorem gm.fx{ks:List Id}(f:gm Y e z a aa)(d:Fx Y Y' ks)(g:∀b∈aA a,b∉ks):gm Y' e z a aa:=by rcases f with h|⟨b,m,rfl,c⟩;exact .inl h;exact .inr ⟨b,m,rfl,d.keep b _ (g b<|by simp[aA]) c⟩
def aWt{v:Value}:fz Y (.s v)= .s v:=rfl
def bcz{t o:Bool}:fz Y (.l aa t o)= .l aa I I:=rfl
def aBr(h:gm Y e z a aa):fz Y a= .l aa I I:=by rcases h with⟨rfl,rfl⟩|⟨b,m,rfl,c⟩;rfl;simp[fz,dQ,c,gK]
def aWs(h:gm Y e z a aa):fzT Y a= .l aa I I:=by rw[<-aBr h];rcases h with⟨rfl,rfl⟩|⟨b,m,rfl,c⟩<;>rfl
def lz(Y:ae)(c:AV):AV:=gK<|aQd Y c
def aQ5{v:Value}:lz Y (.s v)= .s v:=rfl
def aXQ{t o:Bool}:lz Y (.l aa t o)= .l aa I I:=rfl
def aOb(h:gm Y e z a aa):lz Y a= .l aa I I:=by rcases h with⟨rfl,rfl⟩|⟨b,m,rfl,c⟩;rfl;simp[lz,aQd,c,gK]
theorem gm.ce(h:gm Y e z a aa):eY a=V [a]:=by rcases h with⟨_,rfl⟩|⟨b,m,rfl,_⟩<;>rfl
theorem gm.ln(h:gm Y e z a aa):fS Y a=V (iv<|L aa):=by rcases h with⟨rfl,rfl⟩|⟨b,m,rfl,c⟩;rfl;simp[fS,c]
def gm.ar(h:gm Y e z a aa):dG Y a= .l aa I I:=by rcases h with⟨rfl,rfl⟩|⟨b,m,rfl,c⟩;rfl;simp[dG,eR,aQd,c,nrm,gK]
def oo{b:Id}{i j:Nat}{x:bY}(h:box Y b=V x):cO Y (.p b i j)=V (.p b i j):=by simp[cO,h]
theorem qs{d by':Nat}{zs:List AV}{new:List (List AV)}{t o:Bool}{K:be}(i:gm Y e z a aa)(k:L zs=z)(n:0<z)(c:d<L Y)(u:∀r∈aa,L r=z)(s:∀r∈new,L r=z)(p:new≠[])(q:(L aa+L new)*(by'+1)<=1099511627776)(h:∀f Y',bc Y' e z f (aa++new)->Fx Y Y' (aA a)->(∀b∈aA f,bK Y b/\b.1=d)->K f Y'):eV (cj e zs by' Y d a<|.l new t o) K:=by unfold cj;simp only[gL];rw[J7 (by grind),J9 ⟨by omega,by simp[vg,c],by simp_all⟩];rcases i with⟨rfl,rfl⟩|⟨b,m,rfl,g⟩;simp only;rw[J9 ⟨by simp,by grind [lx]⟩];refine h _ _ (.inr ⟨lA Y d,by simp,?_⟩) ((kH c).mono<|by simp) (by simp[aA];exact⟨qQ Y d,rfl⟩);grind [iy];simp only[g];rw[J9 ⟨trivial,trivial,k.symm,by simp,by grind [lx]⟩];have j:d<L (kill Y b):=(by grind [yg]);refine h _ _ (.inr ⟨lA Y d,by simp,?_⟩) (((Le g).trans<|kH j).mono<|by simp[aA]) (by simp[aA];exact⟨qQ Y d,rfl⟩);grind [List.take_left',anF,iy]
theorem slP{i:Int}{K:o8}(g:gm Y e z a aa)(f:0<=i)(j:i<=L aa)(d:∀c,gm Y e z c (aa.take i.toNat)->aA c=aA a->K c):rV (fo z Y a J (V<|iv i) J) K:=by have k:i.toNat<=L aa:=(by omega);rcases g with⟨rfl,rfl⟩|⟨b,m,rfl,n⟩;have h:i.toNat=0:=(by grind);have:fo z Y (.l [] U U) J (V<|iv i) J=V (.l [] U U):=(by simp[fo,lM,f,qY,h]);rw[this];exact d _ (.inl ⟨by simp,rfl⟩) rfl;have:fo z Y (.m b<|L aa) J (V<|iv i) J=V (.m b i.toNat):=(by grind [fo,lM,qY]);rw[this];refine d _ (.inr ⟨b,aa.drop i.toNat++m,?_,?_⟩) rfl;simp_all;grind [bje,aq0]
theorem aOp:∀(l:List Id) (Y:ae),Fx Y (kills Y l) l:=by intro l;induction l with|nil=>intro Y;exact Fx.refl _ _|cons b l d=>intro Y;show Fx Y (kills (if(box Y b).isSome then kill Y b else Y) l) (b::l);cases c:box Y b with|none=>grind [Fx.mono]|some x=>exact(Le c).trans<|d<|kill Y b
end
structure Lv(Y0 Y:ae)(cs tgt:List AV):Prop where
 eq:cs.map (lz Y)=tgt
 nw:∀b∈eB (.a cs),bK Y0 b
def aQm{Y:ae}{zs cs tgt:List AV}(d:cs.map (lz Y)=tgt)(b:L tgt=L zs)(f:0<L zs)(g:tgt.all eN=U)(i:L zs<=1000):aX zs 1 Y [(0, .a cs)]=V (.l [tgt] U U,kills Y<|eB<|.a cs):=by have h:nrm (eR Y<|.a cs)= .a tgt:=(by simp only[eR,nrm,vA,<-d];rfl);simp only[aX,ji,mU,h,Cz,RN,cL];have c:(er 1 zs).flatten=zs:=(by simp);rw[J9 ⟨by omega,f⟩,c];simp only[aly,eY,b,Nat.zero_mul,aj,dA,awG,aNZ,CE,dW,List.drop_length,cL,qd,g,df];simp[kC,<-b]
theorem Lv.fx{d Y Y':ae}{cs tgt:List AV}{ks:List Id}(h:Lv d Y cs tgt)(f:Fx Y Y' ks)(l:∀b∈eB (.a cs),b∉ks)(i:tgt.all eN=U):Lv d Y' cs tgt:=by refine⟨?_,h.nw⟩;rw[<-h.eq];refine ja λc k=>?_;have j:eN (lz Y c)=U:=(by rw[<-h.eq] at i;simp_all);cases c with|m b n=>(cases g:box Y b with|none=>grind [lz,aQd,gK,eN]|some x=>have:=f.keep b x (by grind [eB,iR]) g;grind [lz,aQd])|_=>rfl
def aRA{e:TypeId}{z d:Nat}{zs cs:List AV}{Y:ae}{K:be}(l:L zs=z)(j:L cs=z)(h:0<z)(k:d<L Y)(i:∀v Y',Fx Y Y' []->bK Y (d,v)->box Y' (d,v)=V ⟨e,z,U,U,[cs]⟩->K (.p (d,v) 0 0) Y'):eV (alA e zs Y d) λp s=>sV (aK z s p<|.a cs) λs'=>K p s':=by refine alI l h k λv o b f g=>?_;refine cy (y:=z) (cs:=cs) g rfl j (by omega) λm c n=>?_;refine i v m ((b.trans c).mono<|by grind [bK.no]) f ?_;simp_all
def qr{Y:ae}{b:Id}{z:Nat}{e:TypeId}{o:Bool}{r cs:List AV}{K:ae->Prop}(f:box Y b=V ⟨e,z,o,U,[r]⟩)(j:L r=z)(g:L cs=z)(d:∀Y',Fx Y Y' [b]->box Y' b=V ⟨e,z,o,U,[cs]⟩->K Y'):sV (aK z Y (.p b 0 0)<|.a cs) K:=by refine cy (y:=z) (cs:=cs) f rfl g (by omega) λh c i=>d h c ?_;simp_all
def bdJ{Y:ae}{q:Option Nat}{cs:List AV}:lS q Y (.q cs)=aN q cs:=rfl
def A0{Y:ae}{b:Id}{j z:Nat}{e:TypeId}{o:Bool}{r:List AV}{x:AV}{K:ae->Prop}(d:box Y b=V ⟨e,z,o,U,[r]⟩)(g:eY x=V [x])(f:j<L r)(c:∀Y',Fx Y Y' [b]->box Y' b=V ⟨e,z,o,U,[r.set j x]⟩->K Y'):sV (aK 1 Y (.p b 0 j) x) K:=by grind [cy,GP]
def aPW{i:Nat}{ys:List AV}{R b K:o8}(h:Ct i ys R)(c:ys.all iX=U)(d:∀r,R r->b r/\K r):fW (cX i) ys b K:=nX h c d
def a6h{x:vm}:iX (.a<|vm.c x)=U:=by simp[iX,eN,aoH,sl]
def aS7{x:eo}:iX (.a<|eo.c x)=U:=by simp[iX,eN,apT,sl]
def aV2{x:AV}(h:iX x=U):[x].all iX=U:=by simp[h]
def apQ{Y:ae}{e:TypeId}{z d by' n:Nat}{zs:List AV}{a:AV}{aa new:List (List AV)}{t o:Bool}{K:be}(h:gm Y e z a aa)(m:L Y=n)(q:∀r∈aa,L r=z)(p:∀r∈new,L r=z)(g:new≠[])(j:(L aa+L new)*(by'+1)<=1099511627776)(i:∀c Y',bc Y' e z c (aa++new)->Fx Y Y' (aA a)->(∀b∈aA c,bK Y b/\b.1=d)->K c Y')(s:L zs=z:=by exact rfl)(f:0<z:=by decide)(k:d<n:=by decide):eV (cj e zs by' Y d a<|.l new t o) K:=qs h s f (m▸k) q p g j i
def anu{e:TypeId}{z d n:Nat}{zs cs:List AV}{Y:ae}{K:be}(h:L Y=n)(c:∀v Y',Fx Y Y' []->bK Y (d,v)->box Y' (d,v)=V ⟨e,z,U,U,[cs]⟩->K (.p (d,v) 0 0) Y')(i:L zs=z:=by exact rfl)(f:L cs=z:=by exact rfl)(b:0<z:=by decide)(g:d<n:=by decide):eV (alA e zs Y d) λp s=>sV (aK z s p<|.a cs) λs'=>K p s':=aRA i f b (h▸g) c
def isI(r:AV):Prop:=∃x:Int,r=iv x
def isB(r:AV):Prop:=∃b:Bool,r=bv b
def aPG{x:Int}:isI (iv x)=True:=bur ⟨x,rfl⟩
def aNP{b:Bool}:isB (bv b)=True:=bur ⟨b,rfl⟩
def aP1{c:Prop}[Decidable c]{v:AV}{K:o8}:rV (if c then V v else J) K=(c/\K v):=by grind [rV]
def aWE(r:AV):Prop:=∃(x:Int) (b:Bool),r= .t [iv x,bv b]
def aQ1(r:AV):Prop:=∃x y:Int,r= .t [iv x,iv y]
def a6D{x:Int}{b:Bool}:aWE (.t [iv x,bv b])=True:=bur ⟨x,b,rfl⟩
def aO2{x y:Int}:aQ1 (.t [iv x,iv y])=True:=bur ⟨x,y,rfl⟩
def bd7{R:o8}{Y:ae}{x y:Int}:aE R Y [iv x,iv y]=R (.t [iv x,iv y]):=by simp[aE,jS,iZ,dQ,kG,pF,nj]
def aTb{p:Nat->Bool}{n:Nat}: -1<=uo p n/\uo p n<n:=by grind [uo,List.mem_of_find?_eq_some]
def aXc(b:Bool):Ct 286 [bv b] (·=iv (if b then 1 else 0)):=by refine bgS λs0 c a=>?_;cases b<;>simp[a1q,u1,ah]
def aOT:FT:=lH aXc
def bbU{b Lw K}:=f100 aOT aXc b Lw K
def aXa(i n:Int):Ct 269 [iv i,iv n] (λr=>isI r):=by refine bgQ λs0 b a=>?_;simp+contextual only[a1m,u0,u1,aPR,↓uL,aP1,aPG];refine⟨λh=>trivial,λh=>⟨by grind,?_⟩⟩;simp+contextual only[qz 35,qz 33,↓uL,u0,u1,aPG,NA,awG]
def aSe:FT:=aRd aXa
def bbS{i n Lw K}:=f201 aSe aXa i n Lw K
def aXg(o:Int):Ct 237 [iv o] (·=bv (Q (1<=o)&&Q (o<=5))):=by refine bgW λs0 b a=>?_;simp+contextual only[a1M,u0,u1,↓uL]
def aSf:FT:=lH aXg
def bbY{o Lw K}:=f100 aSf aXg o Lw K
def aXk(i n:Int):Ct 211 [iv i,iv n] (·=bv (dh i n)):=by refine bg7 λs0 b a=>?_;simp+contextual only[a2y,u0,u1,dh,↓uL]
def aN3:FT:=lI aXk
def bb2{i n Lw K}:=f200 aN3 aXk i n Lw K
def aXm(l:List dS)(s:ByteArray)(f:L l<4611686018427387904):Ct 220 [sl dS.c l,st s] (λr=>isI r):=by refine bg9 λs0 e a=>?_;simp only[a2D];refine C7 (L l) (λk=>True) trivial λk d b=>?_;simp+contextual only[qz 19,u0,u1,ix,rk,bh,aPG,NA,I9,aNR,↓uL];grind [dJ,aL,gS]
def aQE:FT:=pn aXm
def bb4{l s Lw K}:=f211 aQE aXm l s Lw K
def aXd(w:vb)(s:ByteArray)(m:L w.cells<4611686018427387904):Ct 279 [.a w.c,st s] (·=iv (uo (λi=>Q<|(gd w.cells i).name=s)<|L w.cells)):=by refine bgT rfl λn l b f=>?_;simp only[a1r];refine C7 (L w.cells) (λk=>∀j,j<k->Q ((gd w.cells j).name=s)=I) (by simp) λk g e=>?_;simp+contextual only[qz 19,u0,u1,b,ix,rk,aj,bh,↓uL];refine⟨λh=>⟨vp h,λd=>?_,by grind [gS,aL]⟩,λh=>?_⟩;rw[KW (aL h) d e];grind [KX,C3,bw]
def aQD:FT:=aIc aXd
def bbV{w s Lw K}:=f210 aQD aXd w s Lw K
def aOB(l:List asq)(s:ByteArray):Int:=uo (λi=>Q<|(gd l i).name=s)<|L l
def aYi(l:List xt)(s:ByteArray):Int:=uo (λi=>Q<|(gd l i).name=s)<|L l
def aWX(l:List asq)(s:ByteArray)(g:L l<4611686018427387904):Ct 245 [sl asq.c l,st s] (·=iv (aOB l s)):=by refine bgB λi f d=>?_;simp only[a0p];refine C7 (L l) (λk=>∀j,j<k->Q ((gd l j).name=s)=I) (by simp) λk e b=>?_;simp+contextual only[qz 19,u0,u1,Ca,rk,gw,bh,↓uL];refine⟨λh=>⟨vp h,λa=>?_,by grind [gS,aL]⟩,λh=>?_⟩;rw[aOB,KW (aL h) a b];grind [aOB,KX,C3,bw]
def aPO:FT:=aIc aWX
def bbF{l s Lw K}:=f210 aPO aWX l s Lw K (j:=by simp+contextual only[ij,Nb])
def aW2(l:List xt)(s:ByteArray)(g:L l<4611686018427387904):Ct 246 [sl xt.c l,st s] (·=iv (aYi l s)):=by refine bgG λi f d=>?_;simp only[a0C];refine C7 (L l) (λk=>∀j,j<k->Q ((gd l j).name=s)=I) (by simp) λk e b=>?_;simp+contextual only[qz 19,u0,u1,Ca,rk,gw,bh,↓uL];refine⟨λh=>⟨vp h,λa=>?_,by grind [gS,aL]⟩,λh=>?_⟩;rw[aYi,KW (aL h) a b];grind [aYi,KX,C3,bw]
def aP9:FT:=aIc aW2
def bbK{l s Lw K}:=f210 aP9 aW2 l s Lw K (j:=by simp+contextual only[ij,Nb])
def aXp(n:Int):Ct 271 [iv n] (λr=>isI r):=by refine bhe λs0 b a=>?_;simp+contextual only[a24,u0,u1,aPG,NA,awG,↓uL]
def aSh:FT:=aP7 aXp
def bb7{n Lw K}:=f101 aSh aXp n Lw K
def aWQ(n:Int):Ct 293 [iv n] (λr=>isI r):=by refine bgt λs0 b a=>?_;simp+contextual only[a0e,u0,u1,aPG,NA,awG,↓uL]
def aTZ:FT:=aP7 aWQ
def bby{n Lw K}:=f101 aTZ aWQ n Lw K
def aW6(a b:Int):Ct 275 [iv a,iv b] (·=iv (if a≠0 then a else b)):=by refine bgK λs0 d c=>?_;simp+contextual only[a0S,u0,u1,↓uL];simp_all
def aOi:FT:=lI aW6
def bbO{a b Lw K}:=f200 aOi aW6 a b Lw K
def aW5(b:Bool):Ct 278 [bv b] (·=iv (if b then 7 else 0)):=by refine bgJ λs0 c a=>?_;cases b<;>simp[a0R,u1,ah]
def aOS:FT:=lH aW5
def bbN{b Lw K}:=f100 aOS aW5 b Lw K
def aWU(e:vm):Ct 288 [.a e.c] (λr=>isB r):=by refine bgy aN9 λg f b d=>?_;simp+contextual only[a0l,u0,u1,b,gw,aj,aNP,↓uL]
def aT2:FT:=aP7 aWU
def bbC{e Lw K}:=f101 aT2 aWU e Lw K (j:=by simp+contextual only[ij,Nb])
def aWP(n:Int):Ct 178 [iv n] (·= .a (vm.mk 1 n ⟨#[]⟩ []).c):=by refine aDq (bgs λs0 d i=>?_);simp only[a0c];refine mo d λj e f=>?_;have b:bM aR4 O7 [(0,iv 1),(1,iv n)]=V (.a [iv 1,iv n,sv [], .l [] U U]):=rfl;simp only[qz 2,qy 4,b,aY,↓uL];refine gN f (by rw[e.1,d];decide) rfl rfl λk h g=>?_;simp only[u0,u1,g,aj,aN,bZ,vw,dA,aNZ,List.take_succ_cons,CE,↓uL];exact aQ7 (by rw[aoH];rfl) (by rw[aoH];rfl)
def aQC:FT:=lH aWP
def bbx{n Lw K}:=f100 aQC aWP n Lw K
def A1(i:lF):List Int:=
 bif Q (i.op=1)||(Q (i.op=6)||(Q (i.op=10)||Q (i.op=27))) then[i.a]
 else bif Q (i.op=2)||Q (i.op=3) then[i.a,i.b]
 else bif Q (i.op=4) then[i.a,i.b,i.k]
 else bif Q (i.op=7) then[i.a,i.k]
 else bif Q (i.op=8)||Q (i.op=26) then[i.b]
 else bif Q (i.op=9) then[i.b,i.k]
 else[]
attribute[local irreducible] aX
def aRU(l:List Int)(r:AV):Prop:=∃t o,r= .l (l.map ci) t o
def rLI{l:List Int}{Y:ae}{t o:Bool}:aE (λr=>aRU l r) Y [.l (l.map ci) t o]=True:=bur ⟨rfl,t,o,rfl⟩
def bd0{Y:ae}{t o:Bool}:aE (λr=>aRU [] r) Y [.l [] t o]=True:=bur ⟨rfl,t,o,rfl⟩
def aXf(i:lF):Ct 174 [.a i.c] (λr=>aRU (A1 i) r):=by refine bgV rfl λf e b d=>?_;simp only[a1F,u0,u1,b,gw,aj,↓uL];simp only[qz 23,iM,aY,sw,↓uL];simp only[qz 21,qy 4,aI,au,↓uL];simp only[aOe,qz 53,iM,aY,sw,↓uL];simp only[qz 51,qy 6,qy 8,qy 10,aI,au,↓uL];simp only[aOe,qz 95,iM,aY,sw,↓uL];simp only[qz 93,qy 12,qy 14,aI,au,↓uL];simp+contextual (maxSteps:=2000000) only[↓iS,u0,u1,b,gw,aj,a5Y,fi,xA,A1,aNV,aPy,rLI,bd0,NA,awG,↓uL]
def aRj:FT:=aP7 aXf
def bbX{i Lw K}:=f101 aRj aXf i Lw K (j:=by simp+contextual only[ij,Nb])
def aTp:List Int:=[3,3,3,3,3,4,4,4,4,4,5,5,5,6,6,6,7,7,7,8,9,10,11,12,13,14,14,15,16,16,17,17,18,18,19,20,1,1,2,21,22,23,23]
def aXF:Ct 164 [] (λr=>aRU aTp r):=by refine bhz λs0 c b=>?_;have a:∀R,aVS s0 R=aE R s0 [.l (aTp.map ci) U U]:=λR=>(by kernel_rfl);show aVS s0 _;rw[a];exact⟨rfl,U,U,rfl⟩
def aUt:FT:=BK aXF
def bcm{Lw K}:=al3 aUt aXF Lw K
def aWO(s:ByteArray):Ct 255 [st s] (·= .a (vm.mk 2 0 s []).c):=by refine aDq (bgr λs0 d i=>?_);simp only[a0a];refine mo d λj e f=>?_;have b:bM aR4 O7 [(0,iv 2),(2,st s)]=V (.a [iv 2,iv 0,st s, .l [] U U]):=rfl;simp only[qz 2,qy 4,b,aY,↓uL];refine gN f (by rw[e.1,d];decide) rfl rfl λk h g=>?_;simp only[u0,u1,g,aj,aN,bZ,vw,dA,aNZ,List.take_succ_cons,CE,↓uL];exact aQ7 (by rw[aoH];rfl) (by rw[aoH];rfl)
def aQB:FT:=lH aWO
def bbw{s Lw K}:=f100 aQB aWO s Lw K
def aXK:List Int:=[3,3,4,4,5,6,7,8,9,10,11,12,13,14,15,16,18,19,20,21,22,23,2]
def aPY(o:Int):Int:=bif Q (o<6)||Q (28<o) then 0 else gd aXK (o-6).toNat
def aXv(o:Int):Ct 239 [iv o] (·=iv (aPY o)):=by refine bhn λs0 c b=>?_;have a:∀R,aVs (iv o) s0 R=aVt (iv o) R (.l (aXK.map ci) U U) s0:=λR=>(by kernel_rfl);show aVs (iv o) s0 _;rw[a];simp+contextual only[aVt,u0,u1,tf,rk,↓uL];refine⟨(by grind [aPY]),λh=>?_⟩;rw[aPY,h];simp only[cP,aNG] at h;rw[eM (by omega)<|by omega];exact⟨⟨by omega,by show o-6<23;omega⟩,rfl⟩
def aUm:FT:=lH aXv
def bcd{o Lw K}:=f100 aUm aXv o Lw K
def aNF:List asq:=[⟨1,0,⟨#[120]⟩,0,0,⟨#[]⟩⟩,⟨1,0,⟨#[121]⟩,0,1,⟨#[]⟩⟩,⟨2,0,⟨#[118]⟩,0,0,⟨#[]⟩⟩,⟨1,0,⟨#[113]⟩,2,0,⟨#[]⟩⟩,⟨3,0,⟨#[109]⟩,0,0,⟨#[]⟩⟩,⟨3,0,⟨#[110]⟩,0,0,⟨#[]⟩⟩,⟨4,0,⟨#[114]⟩,0,0,⟨#[]⟩⟩,⟨5,0,⟨#[99]⟩,0,0,⟨#[109]⟩⟩,⟨6,0,⟨#[102]⟩,0,0,⟨#[]⟩⟩]
def aWN:Ct 175 [] (·=sl asq.c aNF):=by refine aDq (bgk λs0 d b=>?_);have a:∀R,aUG s0 R=aE R s0 [.l (aNF.map asq.c) U U]:=λR=>(by kernel_rfl);show aUG s0 _;rw[a];exact aQ7 rfl rfl
def aSd:FT:=BJ aWN
def bbv{Lw K}:=al2 aSd aWN Lw K
attribute[local semireducible] aX
def VW(l:List aP)(t:Int)(j:Nat):Nat:=L ((l.take j).filter λe=>Q<|e.aq=t)
theorem aV8{l:List aP}{t:Int}{j:Nat}(h:j<L l):VW l t (j+1)=VW l t j+if(gd l j).aq=t then 1 else 0:=by grind [VW,iJ,bT,a6G]
theorem a6c{l:List aP}{t:Int}{j:Nat}:VW l t j<=j:=gl (fZ _ _) (by simp;omega)
def aOE(l:List aP)(i:Nat)(t n:Int):Prop:=∃j,j<i/\(gd l j).aq=t/\((gd l j).kind=3\/(gd l j).kind=23)/\(VW l t j:Int)=n
def aXy(l:List aP)(i:Nat)(t:Int)(d:List Int)(v:i<=L l/\L l<1000000/\L d<4611686018427387904):Ct 115 [sl aP.c l,iv i,iv t,sl ci d] (λr=>∃b,r=bv b/\(b=U->∀n∈d,aOE l i t n)):=by obtain⟨z,A,B⟩:=v;refine bhq λs0 E y=>?_;simp only[a4p];refine C7 (L d) (λk=>∀j,j<k->aOE l i t (gd d j)) (by simp) λk D q=>?_;simp only[qz 19,aI,u0,u1,↓uL];refine⟨λh=>?_,λh=>⟨U,rfl,λ_=>?_⟩⟩;(focus refine yh (λs:Bool×Nat=>[iv<|VW l t s.2,bv s.1,iv s.2]) 2 i (λs=>s.2<=i/\(s.1=U->aOE l i t (gd d k))) (I,0) ⟨by omega,by simp⟩ ?_;rintro⟨w,j⟩ ⟨C,F⟩;simp only[qz 67,aI,au,u0,u1,↓uL];refine⟨λh=>?_,λh=>⟨(by simp),λe=>?_⟩⟩;(focus have m:j<i:=aL h;have g:j<L l:=(by omega);have f:=aV8 (t:=t) g;have x:=a6c (l:=l) (t:=t) (j:=j);have nx:∀(a b:Bool) (c:Int),c=((VW l t (j+1):Nat):Int)->(b=U->aOE l i t (gd d k))->tI (λs:Bool×Nat=>[iv<|VW l t s.2,bv s.1,iv s.2]) (λs=>s.2<=i/\(s.1=U->aOE l i t (gd d k))) [iv c,bv b,iv ((j+1:Nat):Int)]/\pM 2 i [iv c,bv b,iv ((j+1:Nat):Int)]<pM 2 i [iv<|VW l t j,bv a,iv j]:=λa b c q h=>(by subst q;exact wN (enc:=λs:Bool×Nat=>[iv<|VW l t s.2,bv s.1,iv s.2]) (s:=(a,j)) (s':=(b,j+1)) rfl rfl rfl m ⟨m,h⟩);(cases w<;>simp+contextual only[qz 89,ix,bh,u0,u1,rk,gw,↓uL,jA,jN,qz 87,uO,aNV,aPy]);(all_goals refine⟨dJ g,λe=>?_,λe=>?_⟩;all_goals rw[fX<|by omega]);simp_all;simp at e;rw[J9 e] at f;rw[fX<|by omega];refine⟨dJ<|aL ‹_›,λ_=>dJ g,λ_ _=>dJ g,?_⟩;(cases o:Q ((VW l t j:Int)=gd d k)<;>cases u:Q ((gd l j).kind=3)<;>simp only[aNV,aPy,qE,xM,ru,qc,fh,kN]);simp_all;simp_all;exact nx _ _ _ (by rw[f]) λp=>⟨j,m,e, .inr (by simpa using p),by simpa using o⟩;exact nx _ _ _ (by rw[f]) λp=>⟨j,m,e, .inl (by simpa using u),by simpa using o⟩;simp_all;simp at e;rw[J9 e] at f;rw[fX<|by omega];simp_all);grind [gS,aL]);grind [ou,bT,C3,bw]
def aSi:FT:=ER aXy
def bcg{l i t ns Lw K}:=axQ aSi aXy l i t ns Lw K (j:=by simp+contextual only[ij,Int.natCast_inj])
section
variable{Q:o8}{Y:ae}{xs:List AV}
def bd1:(∀r,isB r->Q r)=∀b,Q (bv b):=aOx ⟨λh b=>h _ ⟨b,rfl⟩,by rintro h r ⟨b,rfl⟩;exact h b⟩
def a65:(∀r,isI r->Q r)=∀x,Q (iv x):=aOx ⟨λh b=>h _ ⟨b,rfl⟩,by rintro h r ⟨b,rfl⟩;exact h b⟩
def bd4:(∀r,aQ1 r->Q r)=∀x y,Q (.t [iv x,iv y]):=aOx ⟨λh x b=>h _ ⟨x,b,rfl⟩,by rintro h r ⟨x,b,rfl⟩;exact h x b⟩
def bdO{v w:Value}:lo Y xs (.t [.s v, .s w])=True:=by simp[lo,uN,bdZ,wD]
def bcB{α:Type}[Nonempty α]{b:Bool}{f:α->AV}{K:o8}:gB b (λk=>∀x,k<|f x) K=∀x,K (gv b<|f x):=by(cases b);exact aOx ⟨λh x=>h,λh=>h<|Classical.choice ‹_›⟩;rfl
def bcD{α:Type}[Nonempty α]{b:Bool}{S:Prop}{f:α->AV}{K:o8}:gB b (λk=>S/\∀x,k<|f x) K=((b=U->S)/\∀x,K<|gv b<|f x):=by(cases b);exact aOx ⟨λh=>⟨(λh=>by cases h),λx=>h⟩,λh=>h.2<|Classical.choice ‹_›⟩;simp[gB,gv]
def bcC{b:Bool}{f:Bool->AV}{K:o8}:gB b (λk=>∀x,k<|f x) K=∀x,K (gv b<|f x):=bcB
def bcE{b:Bool}{S:Prop}{f:Bool->AV}{K:o8}:gB b (λk=>S/\∀x,k<|f x) K=((b=U->S)/\∀x,K<|gv b<|f x):=bcD
def rg:=ai @bcC<|@bcE
def rr:=ai @bd1<|ai @a65<|ai @bd4<|ai @bdO<|ai @AL<|ai @oJ<|ai @pG<|ai @bdJ<|@bd7
end
def a6n{a:Int}{p:Int->Prop}:(∃k,iv a=iv k/\p k)=p a:=(by simp)
def aRB{a b:ByteArray}:wl .neq 0 [] (st a) (st b)=V (bv<|Q<|a≠b):=by have h:=@alq a b;simp only[wl,zP,df,bE,AV.s.injEq,mV] at h;simp only[wl,zP,df,h,decide_not]
def a7w:dO:=(286,aOT)::(269,aSe)::(237,aSf)::(211,aN3)::(220,aQE)::(279,aQD)::(245,aPO)::(246,aP9)::(271,aSh)::(293,aTZ)::(275,aOi)::(278,aOS)::(288,aT2)::(178,aQC)::(174,aRj)::(164,aUt)::(255,aQB)::(239,aUm)::(175,aSd)::(115,aSi)::apt
def aOh:eJ a7w:=it (nH aXc) (it (aYm aXa)<|it (nH aXg)<|it (nI aXk)<|it (aN0 aXm)<|it (aCb aXd)<|it (aCb aWX)<|it (aCb aW2)<|it (aR6 aXp)<|it (aR6 aWQ)<|it (nI aW6)<|it (nH aW5)<|it (aR6 aWU<|λ_=>by simp only[Cs,aqG,aOW,Bool.and_self])<|it (nH aWP)<|it (aR6 aXf)<|it (bwh aXF)<|it (nH aWO)<|it (nH aXv)<|it (apM aWN)<|it (aM6 aXy)<|Ey)
def aOX:=ai @bbU<|ai @bbS<|ai @bbY<|ai @bb2<|ai @bb4<|ai @bbV<|ai @bbF<|ai @bbK<|ai @bb7<|ai @bby<|ai @bbO<|ai @bbN<|ai @bbC<|ai @bbx<|ai @bbX<|ai @bcm<|ai @bbw<|ai @bcd<|ai @bbv<|ai @bcg<|@Lb
section
attribute[local irreducible] aX
def a9j:=bA 8 []
def a1p a b s0 R:=(.mk _:NR a7w a9j Tryz.f270 [a,b] [] s0 R).p
def bgR{a b:AV}{R:o8}(h:H0 λs0=>a1p a b s0 R):Ct 270 [a,b] R:=z0 a9j aOh Tryz.func270 h
def a9h:=bA 36 []
def aU1 a b c s0 R:=(.mk _:NR a7w a9h Tryz.f272 [a,b,c] [] s0 R).p
def bgP{a b c:AV}{R:o8}(h:H0 λs0=>aU1 a b c s0 R):Ct 272 [a,b,c] R:=z0 a9h aOh Tryz.func272 h
def a14 a b c d R:=(.mk _:NR a7w at1 Tryz.f236 [.u,b,c] [a] d R).p
def bgZ{c0:List AV}{b c:AV}{R:o8}(l0:L c0=6)(h:H1 31 6 3 c0 λia d=>a14 ia b c d R):Ct 236 [.a c0,b,c] R:=z1 at1 aOh Tryz.func236 l0 h
def a9B:=bA 15 [(3,([1,5],[0])),(6,([1],[0,5]))]
def a2z a b s0 R:=(.mk _:NR a7w a9B Tryz.f210 [a,b] [] s0 R).p
def bg8{a b:AV}{R:o8}(h:H0 λs0=>a2z a b s0 R):Ct 210 [a,b] R:=z0 a9B aOh Tryz.func210 h
def a9P:=bA 18 [(3,([7],[2,3,6])),(10,([40],[2]))]
def a4h a b c R:=(.mk _:NR a7w a9P Tryz.f240 [.u, .u] [a,b] c R).p
def bho{c0:List AV}{b:List AV}{R:o8}(l0:L c0=6)(l1:L b=4)(h:H2 251 6 2 c0 238 4 3 b λia c d=>a4h ia c d R):Ct 240 [.a c0, .a b] R:=z2 a9P aOh Tryz.func240 l0 l1 h
def a0m a b R:=(.mk _:NR a7w a9j Tryz.f243 [.u] [a] b R).p
def bgz{c0:List AV}{R:o8}(l0:L c0=6)(h:H1 296 6 1 c0 λia b=>a0m ia b R):Ct 243 [.a c0] R:=z1 a9j aOh Tryz.func243 l0 h
def a85:=bA 26 [(20,([56],[3,7]))]
def a0s a b c d R:=(.mk _:NR a7w a85 Tryz.f289 [.u,b,c] [a] d R).p
def bgD{c0:List AV}{b c:AV}{R:o8}(l0:L c0=2)(h:H1 197 2 3 c0 λia d=>a0s ia b c d R):Ct 289 [.a c0,b,c] R:=z1 a85 aOh Tryz.func289 l0 h
def a89:=bA 33 [(4,([4,5,6,7,8],[0])),(7,([4,5,6,7],[0,8])),(15,([4,5,6,7],[0,8,9])),(17,([39],[0,4,5,6,7,8,9,36])),(19,([47],[0,4,5,6,7,8,9,36]))]
def a0E a s0 R:=(.mk _:NR a7w a89 Tryz.f216 [a] [] s0 R).p
def bgH{a:AV}{R:o8}(h:H0 λs0=>a0E a s0 R):Ct 216 [a] R:=z0 a89 aOh Tryz.func216 h
def a9d:=bA 29 [(3,([4],[1])),(12,([6],[1])),(21,([8],[1,6,7]))]
def a0T a b R:=(.mk _:NR a7w a9d Tryz.f217 [.u] [a] b R).p
def bgL{c0:List AV}{R:o8}(l0:L c0=2)(h:H1 197 2 1 c0 λia b=>a0T ia b R):Ct 217 [.a c0] R:=z1 a9d aOh Tryz.func217 l0 h
def a8H:=bA 9 [(4,([3,4],[0]))]
def aYP a s0 R:=(.mk _:NR a7w a8H Tryz.f61 [a] [] s0 R).p
def bgd{a:AV}{R:o8}(h:H0 λs0=>aYP a s0 R):Ct 61 [a] R:=z0 a8H aOh Tryz.func61 h
def aZh b a c R:=(.mk _:NR a7w at1 Tryz.f177 [b, .u] [a] c R).p
def bgi{c:AV}{b:List AV}{R:o8}(l1:L b=4)(h:H1 259 4 3 b λia d=>aZh c ia d R):Ct 177 [c, .a b] R:=z1 at1 aOh Tryz.func177 l1 h
def aZj c a b d R:=(.mk _:NR a7w at1 Tryz.f254 [c, .u, .u] [a,b] d R).p
def bgj{d:AV}{b:List AV}{c:List AV}{R:o8}(l1:L b=4)(f:L c=4)(h:H2 259 4 4 b 259 4 5 c λia e g=>aZj d ia e g R):Ct 254 [d, .a b, .a c] R:=z2 at1 aOh Tryz.func254 l1 f h
def a94:=bA 11 [(4,([3,10],[8,9])),(7,([3],[8,9,10]))]
def a5v a b R:=(.mk _:NR a7w a94 Tryz.f208 [.u] [a] b R).p
def bhE{c0:List AV}{R:o8}(l0:L c0=7)(h:H1 40 7 1 c0 λia b=>a5v ia b R):Ct 208 [.a c0] R:=z1 a94 aOh Tryz.func208 l0 h
end
def ya{a b:AV}:mL (bv U) a b=V a:=rfl
def Aa{a b:AV}:mL (bv I) a b=V b:=rfl
def aXX{P:Int->Prop}{Q:o8}:(∀r,(∃k:Int,r=iv k/\P k)->Q r)=∀k,P k->Q (iv k):=(by grind)
def bd8{a b c d e f g h i j k:AV}:aN (V 11) [a,b,c,d,e,f,g,h,i,j,k]=V (.a [a,b,c,d,e,f,g,h,i,j,k]):=rfl
def rkx{s:aoC}:aN (V 3) (aoC.c s)=V (.a<|aoC.c s):=rfl
def aXb(o a:Int):Ct 270 [iv o,iv a] (λr=>aWE r):=by refine bgR λs0 c b=>?_;simp+contextual only[a1p,u0,u1,aEn,aOX,ar,a6D,QV,NA,awG,↓uL]
def aUb:FT:=aRd aXb
def bbT{o a Lw K}:=f201 aUb aXb o a Lw K
def aW9(o a b:Int):Ct 272 [iv o,iv a,iv b] (λr=>aWE r):=by refine bgP λs0 d c=>?_;simp+contextual only[aU1,u0,u1,aPR,a5N,aP1,aOX,ar,a6D,QV,NA,awG,↓uL,aU1,aNR,aNG,aBY,bnq,not_false_iff]
def aUa:FT:=aSb aW9
def bbR{o a b Lw K}:=a6o aUa aW9 o a b Lw K
def aXj(w:vb)(b n:Int):Ct 236 [.a w.c,iv b,iv n] (λr=>isB r):=by refine bgZ rfl λg f d e=>?_;simp+contextual only[a14,u0,u1,d,ix,rk,ar,aOX,aj,DR,aNP,↓uL];grind [dX]
def aSg:FT:=aSb aXj
def bb1{w b n Lw K}:=a6o aSg aXj w b n Lw K
def aXl(l:List lF)(a:Int)(n:L l<1000000):Ct 210 [sl lF.c l,iv a] (λr=>isB r):=by refine bg8 λs0 m i=>?_;simp only[a2z];have nx:∀(a b:Int) (k:Nat),k<L l+1->tI (λs:Int×Nat=>[iv s.1,iv s.2]) (λs=>s.2<=L l+1) [iv b,iv ((k+1:Nat):Int)]/\pM 1 (L l+1) [iv b,iv ((k+1:Nat):Int)]<pM 1 (L l+1) [iv a,iv k]:=λa b k e=>wN (enc:=λs:Int×Nat=>[iv s.1,iv s.2]) (s:=(a,k)) (s':=(b,k+1)) rfl rfl rfl e e;refine yh (λs:Int×Nat=>[iv s.1,iv s.2]) 1 (L l+1) (λs=>s.2<=L l+1) (a,0) (by simp) ?_;rintro⟨f,k⟩ e;simp+contextual only[qz 39,qz 41,qz 19,aOe,aI,au,u0,u1,Ca,rk,gw,ar,aOX,aNP,NA,aNR,rr,↓uL];intro j h;have g:k<L l+1:=(by grind);have d:aF (L l) f:=(by simp at h;exact⟨by omega,by omega⟩);rw[fX<|by omega];exact⟨d,λ_=>⟨d,λ_=>⟨d,nx _ _ _ g⟩,λ_=>nx _ _ _ g⟩⟩
def aUe:FT:=pn aXl
def bb3{l a Lw K}:=f211 aUe aXl l a Lw K (j:=by simp+contextual only[ij,Nb])
def a8e(i:lF)(s:pt):Prop:=i.op=7\/i.op=9->aF (L s.li) i.k
def aXw(i:lF)(s:pt)(b:a8e i s):Ct 240 [.a i.c, .a s.c] (λr=>isI r):=by refine bho rfl rfl λj g d e f=>?_;simp+contextual only[qz 63,qz 65,qz 21,qz 23,a4h,aOe,aI,au,u0,u1,d,e,ix,rk,gw,ar,aOX,aj,aPG,NA,awG,aNR,rr,↓uL];simp only[aBY,aNG,sr,aNU,NA,I9];exactλ_ _=>⟨λh=>b<|.inl h,λ_ h=>b<|.inr h⟩
def aUn:FT:=pn aXw
def bce{i s Lw K}:=f211 aUn aXw i s Lw K (j:=by simp+contextual only[ij,Nb])
def aWV(d:asq):Ct 243 [.a d.c] (λr=>isB r):=by refine bgz rfl λg f b e=>?_;simp+contextual only[a0m,u0,u1,b,gw,ar,aOX,aj,aRB,aNP,NA,awG,↓uL]
def aT3:FT:=aP7 aWV
def bbD{d Lw K}:=f101 aT3 aWV d Lw K (j:=by simp+contextual only[ij,Nb])
def slc{Y:ae}{K:o8}{i:Int}{l:List ByteArray}:rV (fo 1 Y (sl cs l) J (V<|iv i) J) K=((0<=i/\i<=L l)/\K (sl cs<|l.take i.toNat)):=aIk λ_=>rfl
def aWZ(p:xr)(t:Int)(s:ByteArray)(e:PrB p):Ct 289 [.a p.c,iv t,st s] (λr=>∃k,r=iv k/\(k=5->0<=aOB p.A7 s)):=by obtain⟨g,j,l⟩:=e;refine bgD rfl λq o b f=>?_;have d:=aTb (p:=λi=>Q<|(gd p.A7 i).name=s) (n:=L p.A7);have m:∀t:Int,L (gd p.ay t.toNat).locs<4611686018427387904:=λt=>(by by_cases h:t.toNat<L p.ay;grind [dB];rw[gd,eI,List.getElem?_eq_none<|by omega];decide);rw[<-aOB] at d;simp+contextual only[qz 123,qz 125,a0s,aOe,aI,au,u0,u1,b,Ca,rk,gw,ar,aOX,aj,a6n,↓uL];simp only[aF];(try simp only[aBY,aNG,bN,bik,aNS,bnq]);grind
def aT5:FT:=vn aWZ
def bbH{p t s Lw K}:=zZ aT5 aWZ p t s Lw K (j:=by simp+contextual only[ij,Nb])
def aW3(l:List asq)(N:L l<1000):Ct 216 [sl asq.c l] (λr=>aQ1 r):=by
 refine bgH λs0 E G=>?_
 simp only[a0E]
 refine jD (α:=Int×Int×Int×Int) (λs i=>[iv s.1,iv s.2.1,iv s.2.2.1,iv s.2.2.2,iv i]) 4 (L l) (λ_ _ Y=>L Y=4096) (s0:=(0,0,0,0)) E ?_
 rintro k ⟨a,b,c,d⟩ Y M e
 have nx:∀(x y z u:Int) Y',L Y'=4096->k<L l->yI (λ(s:Int×Int×Int×Int) i=>[iv s.1,iv s.2.1,iv s.2.2.1,iv s.2.2.2,iv i]) (L l) (λ_ _ Y=>L Y=4096) [iv x,iv y,iv z,iv u,iv<|dq.wrap<|(k:Int)+1] Y'/\gM 4 (L l) [iv x,iv y,iv z,iv u,iv<|dq.wrap<|(k:Int)+1] Y'<gM 4 (L l) [iv a,iv b,iv c,iv d,iv k] Y:=λx y z u Y' m g=>
  dR (mk:=λ(s:Int×Int×Int×Int) i=>[iv s.1,iv s.2.1,iv s.2.2.1,iv s.2.2.2,iv i]) (s:=(a,b,c,d)) (s':=(x,y,z,u)) (λ_ _=>rfl) g (by omega) m
 have t:∀{Y:ae} {K:o8} {i:Int},rV (fo 6 Y (sl asq.c l) J (V<|iv i) J) K=((0<=i/\i<=L l)/\K (sl asq.c<|l.take i.toNat)):=aIk λ_=>rfl
 simp only[qz 25,aI,au,u0,u1,aO2,rr,NA,aNR,qz 47,qy 2,Ca,bh,gw,rr,↓uL]
 intro h
 have f:=aL h
 refine⟨dJ f,anu e λv A w F B=>?_⟩
 have o:L A=4096:=w.len.trans e
 have j:(0:Int)<=k/\(k:Int)<=L l:=(by omega)
 have D:=aTb (p:=λi=>Q<|(gd (l.take k) i).name=(gd l k).on) (n:=L<|l.take k)
 have q:L (l.take k)<4611686018427387904:=by simp;omega
 have C:Q (aOB (l.take k) (gd l k).on<0)=I->aF (L l) (aOB (l.take k) (gd l k).on):=λh=>by
  simp only[aNG] at h
  have H:L (l.take k)<=L l:=by simp only[gC];omega
  exact⟨by omega,by have:=D.2;rw[aOB];omega⟩
 simp+contextual only[qz 4,t,bh,u0,u1,B,rk,gw,aj,ar,aOX,rr,aO2,NA,aNR,qz 45,qz 93,qz 117,qz 119,qz 105,qz 107,qz 95,qz 4,j,Ca,C,nx,f,o,q,aRW,awG,↓uL]
def aT7:FT:=om aW3
def bbL{l Lw K}:=f111 aT7 aW3 l Lw K (j:=by simp+contextual only[ij,Nb])
def aW7(p:xr)(B:PrB p):Ct 217 [.a p.c] (λr=>aQ1 r):=by refine bgL rfl λm t o D=>?_;obtain⟨E,G,y⟩:=B;simp only[a0T];have w:∀{Y:ae} {K:o8} {i:Int},rV (fo 4 Y (sl xt.c p.ay) J (V<|iv i) J) K=((0<=i/\i<=L p.ay)/\K (sl xt.c<|p.ay.take i.toNat)):=aIk λ_=>rfl;refine yV (L p.ay) (λ_ _ Y=>Fx m Y []) (Fx.refl _ _) ?_;rintro k _ Y A F;have e:=F.kq o;have f:L Y=4096:=F.len.trans t;simp only[qz 19,qy 4,aI,au,u0,u1,e,rk,gw,aj,Ca,bh,↓uL];refine⟨λh=>⟨vp h,anu f λv n d x g=>?_⟩,λh=>?_⟩;have b:=aL h;have l:=d.kq e;have q:(0:Int)<=k/\(k:Int)<=L p.ay:=(by omega);have u:L (p.ay.take k)<4611686018427387904:=(by simp;omega);have nx:=dR (mk:=λ(_:Unit) i=>[iv i]) (p:=0) (s:=()) (s':=()) (Inv:=λ_ _ Y=>Fx m Y []) (Y:=Y) (Y':=n) (λ_ _=>rfl) b (by omega)<|F.trans d;simp+contextual only[qz 6,w,bh,u0,u1,l,g,gw,aj,ar,aOX,rr,aO2,NA,aNR,q,u,nx,↓uL];omega;refine yV (L p.ay) (λ_ _ Y=>Fx m Y []) F ?_;rintro k _ Y A F;have e:=F.kq o;have f:L Y=4096:=F.len.trans t;simp only[qz 73,qy 8,aI,au,u0,u1,e,rk,gw,aj,Ca,bh,rr,aO2,NA,aNR,↓uL];refineλh=>⟨vp h,anu f λv n d x g=>?_⟩;have b:=aL h;have l:=d.kq e;simp+contextual only[qz 10,u0,u1,g,gw,aj,rr,aO2,NA,I9,↓uL];intro H;have C:=y _<|dB b;refine C7 (L (gd p.ay k).locs) (λ_=>True) trivial λj M _=>?_;simp+contextual only[qz 127,aI,au,u0,u1,l,g,rk,gw,aj,ix,bh,ar,aOX,rr,aO2,NA,slc,↓uL];refine⟨λz=>?_,λz=>dR (mk:=λ(_:Unit) i=>[iv i]) (s:=()) (s':=()) (λ_ _=>rfl) b (by omega)<|F.trans d⟩;grind [aL,dJ,gS]
def aT9:FT:=om aW7
def bbP{p Lw K}:=f111 aT9 aW7 p Lw K (j:=by simp+contextual only[ij,Nb])
def cu(x:Int):List AV:=[.s<|.int .u8 x]
def a6E{Y:ae}{K:o8}{i:Int}{l:List Int}:rV (cz 1 Y (sl cu l)<|iv i) K=(aF (L l) i/\K (.q<|cu<|gd l i.toNat)):=aBz λ_=>rfl
theorem bcP{x y:Int}:(cu x=cu y)=(x=y):=by simp[cu]
def aQZ{l l':List Int}:(sl cu l=sl cu l')=(l=l'):=(by grind [kL,bcP])
def aWH(l:List Int)(t:L l<1000):Ct 61 [sl cu l] (λr=>∃cs:List xd,r=sl xd.c cs/\L cs=L l):=by refine aDq (bgd λs0 n o=>?_);simp only[aYP];refine jD (α:=AV) (λa i=>[a,iv i]) 1 (L l) (λk a Y=>L Y=4096/\∃cs:List xd,L cs=k/\bc Y 52 2 a (cs.map xd.c)) (s0:= .l [] U U) ⟨n,[],rfl,bc.nil⟩ ?_;rintro k a Y q ⟨b,cs,m,d⟩;simp+contextual only[qz 25,qy 2,aI,au,u0,u1,a6E,bh,cu,qM,aS6,aPR,a5N,aP1,↓uL];refine⟨λh=>⟨vp h,by decide,vp h,by decide,by decide,?_⟩,λh=>?_⟩;generalize(dq.wrap<|gd l k).tmod 4=x;generalize dq.wrap ((dq.wrap<|(dq.wrap<|gd l k).tdiv 4).tmod 5-1)=y;have e:bM nJ C2 [(0,iv x),(1,iv y)]=V (.a<|xd.c ⟨x,y⟩):=rfl;have f:aX bh6 1 Y [(0, .a<|xd.c ⟨x,y⟩)]=V (.l ([(⟨x,y⟩:xd)].map xd.c) U U,Y):=ua rfl rfl rfl (by decide) rfl (by decide);simp only[e,f,aY,bQ];refine apQ d.p b (by grind [xd.c]) (by grind [xd.c]) (by simp) (by simp;omega) λj Y' g F N=>?_;refine dT (by first|rfl|(simp[eL,okT,tok,lb,cq,Qh,J3,dC,pP,dK];done)) ?_;simp only[u0,u1,↓uL];refine dR (mk:=λa i=>[a,iv i]) (s:=a) (s':=j) (λ_ _=>rfl) (aL h) (by omega) ⟨F.len.trans b,cs++[⟨x,y⟩],by simp[m],by simp_all⟩;exact aOv (Q:=λr=>∃cs:List xd,r=sl xd.c cs/\L cs=L l) (aWs d.p) (by simp[iX,eN]) ⟨cs,rfl,by grind⟩
def aTT:FT:=om aWH
def bbp{l Lw K}:=f111 aTT aWH l Lw K (j:=by simp+contextual only[ij,aQZ])
def aWL(s:ByteArray)(e:vm):Ct 177 [st s, .a e.c] (·= .a (eo.mk 1 0 s ⟨#[]⟩ [] e [] []).c):=by refine aDq (bgi aN9 λp j f o=>?_);simp only[aZh];refine so j λv q d m g=>?_;have i:=d.kq f;have b:bM C8 alz [(0,iv 1),(2,st s),(5, .a e.c)]=V (.a [iv 1,iv 0,st s,sv [], .l [] U U,iv e.op,iv e.n,st e.name,sl vm.c e.l, .l [] U U, .l [] U U]):=(by rw[aoH];rfl);simp only[qz 4,qy 6,u0,u1,i,gw,b,↓uL];refine qr g rfl rfl λr k h=>?_;simp only[u0,u1,h,bd8,↓uL];exact aQ7 (by rw[apT];rfl) (by rw[apT];rfl)
def aPN:FT:=lI aWL
def bbt{s e Lw K}:=f200 aPN aWL s e Lw K (j:=by simp+contextual only[ij,Nb])
def aWM(o:Int)(a b:vm):Ct 254 [iv o, .a a.c, .a b.c] (·= .a (vm.mk o 0 ⟨#[]⟩ [a,b]).c):=by refine aDq (bgj aN9 aN9 λt p h i s=>?_);simp only[aZj];refine so p λv g d r j=>?_;have m:=d.kq h;have n:=d.kq i;have f:aX bh5 2 g [(0, .a a.c),(1, .a b.c)]=V (.l [a.c,b.c] U U,g):=(by rw[aoH (x:=a),aoH (x:=b)];kernel_rfl);simp only[qz 6,u0,u1,m,n,gw,f,↓uL];have e:bM aR4 O7 [(0,iv o),(3, .l [a.c,b.c] U U)]=V (.a [iv o,iv 0,sv [], .l [a.c,b.c] U U]):=rfl;simp only[qz 8,qy 10,e,aY,↓uL];refine qr j rfl rfl λu q k=>?_;simp only[u0,u1,k,uS,↓uL];exact aQ7 (by rw[aoH (x:= .mk o 0 ⟨#[]⟩ [a,b])];rfl) (by rw[aoH (x:= .mk o 0 ⟨#[]⟩ [a,b])];rfl)
def aRg:FT:=za aWM
def bbu{o a b Lw K}:=KP aRg aWM o a b Lw K (j:=by simp+contextual only[ij,Nb])
def aXG(s:mn)(E:L s.mp.ay<1000):Ct 208 [.a s.c] (λr=>∃l:List Int,r=sl ci l/\L l<=L s.mp.ay):=by refine aDq (bhE rfl λj x t B=>?_);simp only[a5v,u0,u1,t,rk,aj,↓uL];refine jD (α:=AV) (λa i=>[a,iv i]) 1 (L s.mp.ay) (λk a Y=>Fx j Y []/\∃l:List Int,L l<=k/\bc Y 3 1 a (l.map ci)/\∀q∈aA a,bK j q) (s0:= .l [] U U) ⟨Fx.refl _ _,[],by simp,bc.nil,by simp[aA]⟩ ?_;rintro k a Y D ⟨F,l,C,f,w⟩;have d:L Y=4096:=F.len.trans x;simp only[qz 25,aI,au,u0,u1,qz 47,qy 4,ix,bh,rkx,rr,↓uL];refine⟨λh=>⟨vp h,anu d λv n b A u=>?_⟩,λh=>?_⟩;have e:=aL h;have y:L n=4096:=b.len.trans d;simp+contextual only[qz 6,qy 8,qy 10,u0,u1,u,rk,aj,a5Y,qz 45,↓uL];refine⟨λ_=>?_,λ_=>dR (mk:=λa i=>[a,iv i]) (s:=a) (s':=a) (λ_ _=>rfl) e (by omega) ⟨F.trans b,l,by omega,f.fx b (by simp),w⟩⟩;refine qs (f.fx b<|by simp).p rfl (by decide) (by omega) pU pU (by simp) (by simp;omega) λo Y' g m z=>?_;refine dR (mk:=λa i=>[a,iv i]) (s:=a) (s':=o) (λ_ _=>rfl) e (by omega) ⟨((F.trans b).trans m).mono λq G=> .inr ?_,l++[(k:Int)],by simp;omega,by simp_all,by grind [bK.old]⟩;grind [bK.no];exact aOv (Q:=λr=>∃l:List Int,r=sl ci l/\L l<=L s.mp.ay) (aWs f.p) (by simp[iX,eN]) ⟨l,rfl,by omega⟩
def aSk:FT:=om aXG
def bcn{s Lw K}:=f111 aSk aXG s Lw K
def a7x:dO:=(270,aUb)::(272,aUa)::(236,aSg)::(210,aUe)::(240,aUn)::(243,aT3)::(289,aT5)::(216,aT7)::(217,aT9)::(61,aTT)::(177,aPN)::(254,aRg)::(208,aSk)::a7w
def aNH:eJ a7x:=it (aYm aXb) (it (a7W aW9)<|it (a7W aXj)<|it (aN0 aXl)<|it (aN0 aXw)<|it (aR6 aWV)<|it (By aWZ)<|it (rj aW3)<|it (rj aW7)<|it (rj aWH)<|it (nI aWL<|λ_ _=>by simp only[Cs,aqG,aOW,Bool.and_self])<|it (Rs aWM<|λ_ _ _=>by simp only[Cs,aqG,aOW,Bool.and_self])<|it (rj aXG)<|aOh)
def aD6:=ai @bbT<|ai @bbR<|ai @bb1<|ai @bb3<|ai @bce<|ai @bbD<|ai @bbH<|ai @bbL<|ai @bbP<|ai @bbp<|ai @bbt<|ai @bbu<|ai @bcn<|@aOX
section
attribute[local irreducible] aX
def a1l a b c d e f R:=(.mk _:NR a7x a8V Tryz.f276 [.u,b,c,d,e] [a] f R).p
def bgO{c0:List AV}{b c d e:AV}{R:o8}(l0:L c0=2)(h:H1 197 2 5 c0 λia f=>a1l ia b c d e f R):Ct 276 [.a c0,b,c,d,e] R:=z1 a8V aNH Tryz.func276 l0 h
def a86:=bA 10 [(4,([4,5,6],[1]))]
def a0v a b R:=(.mk _:NR a7x a86 Tryz.f290 [.u] [a] b R).p
def bgE{c0:List AV}{R:o8}(l0:L c0=4)(h:H1 259 4 1 c0 λia b=>a0v ia b R):Ct 290 [.a c0] R:=z1 a86 aNH Tryz.func290 l0 h
def a0n a s0 R:=(.mk _:NR a7x a8H Tryz.f218 [a] [] s0 R).p
def bgA{a:AV}{R:o8}(h:H0 λs0=>a0n a s0 R):Ct 218 [a] R:=z0 a8H aNH Tryz.func218 h
def a8X:=bA 14 [(7,([4],[1]))]
def aSt a b R:=(.mk _:NR a7x a8X Tryz.f287 [.u] [a] b R).p
def bgv{c0:List AV}{R:o8}(l0:L c0=4)(h:H1 259 4 1 c0 λia b=>aSt ia b R):Ct 287 [.a c0] R:=z1 a8X aNH Tryz.func287 l0 h
def a9D:=bA 35 [(11,([59],[2,3,6])),(14,([78],[2,3,6])),(19,([98],[2,3,6])),(23,([108],[2,3,6]))]
def a2F b a c R:=(.mk _:NR a7x a9D Tryz.f209 [.u, .u] [b,a] c R).p
def bha{c0:List AV}{b:List AV}{R:o8}(l0:L c0=6)(l1:L b=6)(h:H2 31 6 2 c0 251 6 3 b λia c d=>a2F ia c d R):Ct 209 [.a c0, .a b] R:=z2 a9D aNH Tryz.func209 l0 l1 h
end
def aW8(p:xr)(t:Int)(s:ByteArray)(a b:Int)(e:PrB p):Ct 276 [.a p.c,iv t,st s,iv a,iv b] (λr=>∃k,r=iv k/\(k=0->a=5->b=5->0<=aOB p.A7 s)):=by refine bgO rfl λh g d f=>?_;simp+contextual only[a1l,u0,u1,d,gw,ar,Fa,aD6,e,aXX,a6n,↓uL];grind
def aOd:FT:=aTQ aW8
def bbQ{p t s a b Lw K}:=bbn aOd aW8 p t s a b Lw K (j:=by simp+contextual only[ij,Nb])
def aW0(e:vm)(f:∃n,C6 n e):Ct 290 [.a e.c] (λr=>aQ1 r):=by obtain⟨n,f⟩:=f;induction n generalizing e with|zero=>exact f.elim|succ n j=>have i:=f.len;refine bgE aN9 λp o g m=>?_;simp only[a0v];refine yh (λs:Int×Int×Nat=>[iv s.1,iv s.2.1,iv s.2.2]) 2 (L e.l) (λ_=>True) (1,0,0) trivial ?_;rintro⟨a,b,k⟩ _;simp only[qz 25,aI,au,u0,u1,g,gw,aj,Ca,bh,rr,jM,kU,jt,Fa,aO2,NA,aNR,↓uL];intro h;have d:=aL h;refine⟨dJ d,aPW (j _<|f.2 _<|dB d) (aV2 a6h) ?_⟩;rintro r ⟨x,y,rfl⟩;simp only[u0,u1,rr,aRW,I9];exact wN (enc:=λs:Int×Int×Nat=>[iv s.1,iv s.2.1,iv s.2.2]) (s:=(a,b,k)) (s':=(_,_,k+1)) (by rw[fX<|by omega]) rfl rfl d trivial
def aT6:FT:=om aW0
def bbI{e Lw K}:=f111 aT6 aW0 e Lw K (j:=by simp+contextual only[ij,Nb])
def aWW(l:List eo)(d:∃n,shL n 8 l):Ct 218 [sl eo.c l] (λr=>isI r):=by obtain⟨n,d⟩:=d;induction n using Nat.strongRecOn generalizing l with|ind n f=>obtain⟨j,g⟩:=d;refine bgA λs0 o i=>?_;simp only[a0n,u0,u1,↓uL];refine yh (λs:Int×Nat=>[iv s.1,iv s.2]) 1 (L l) (λ_=>True) (L l,0) trivial ?_;rintro⟨a,k⟩ _;simp only[qz 25,aI,au,u0,u1,Ca,rr,gw,bh,jM,kU,jt,alg,aPG,NA,aNR,↓uL];intro h;have b:=aL h;obtain⟨m,rfl,g1,e⟩:=(g _<|dB b).body;refine⟨dJ b,aPW (f m (by omega) _ ⟨by have:=g1.1;omega,g1.2⟩) rfl ?_⟩;rintro r ⟨x,rfl⟩;simp only[u0,u1,AL,I9];refine⟨dJ b,aPW (f m (by omega) _ ⟨by have:=e.1;omega,e.2⟩) rfl ?_⟩;rintro r ⟨y,rfl⟩;simp only[u0,u1,AL,I9];exact wN (enc:=λs:Int×Nat=>[iv s.1,iv s.2]) (s:=(a,k)) (s':=(_,k+1)) (by rw[fX<|by omega]) rfl rfl b trivial
def aT4:FT:=om aWW
def bbE{l Lw K}:=f111 aT4 aWW l Lw K (j:=by simp+contextual only[ij,Nb])
def aWS(e:vm)(f:∃n,C6 n e):Ct 287 [.a e.c] (λr=>isB r):=by obtain⟨n,f⟩:=f;induction n generalizing e with|zero=>exact f.elim|succ n p=>have o:=f.len;refine bgv aN9 λu t g q=>?_;simp only[aSt,↓uL];generalize m:@qp _ 43 ⟨_⟩=Lw;have d:lR [iv 0] Lw:=(by rw[<-m];refine C7 (L e.l) (λ_=>True) trivial λk s _=>?_;simp only[qz 43,aI,au,u0,u1,g,gw,aj,Ca,bh,rr,jM,kU,jt,Fa,aNP,NA,aNR,↓uL];intro h;have i:=aL h;refine⟨dJ i,aPW (p _<|f.2 _<|dB i) (aV2 a6h) ?_⟩;rintro r ⟨x,rfl⟩;simp only[u0,u1,AL,I9,NA];grind [gS]);have b:e.op=2\/e.op=3\/(e.op≠2/\e.op≠3):=(by omega);rcases b with b|b|⟨j,b⟩;simp+contextual only[u0,u1,g,gw,ar,aD6,aj,rr,aRB,aNP,NA,b,aPI,d,ya,Bool.and_self,↓jN,↓uL];simp+contextual only[u0,u1,g,gw,ar,aD6,aj,rr,aRB,aNP,NA,b,aPI,aPF,wY,d,Int.reduceEq,ya,Bool.and_self,↓jA,↓uL];simp+contextual only[u0,u1,g,gw,ar,aD6,aj,rr,aRB,aNP,NA,j,b,aPF,d,Aa,Bool.and_self,↓jA,↓jN,↓uL]
def aRh:FT:=om aWS
def bbA{e Lw K}:=f111 aRh aWS e Lw K (j:=by simp+contextual only[ij,Nb])
def aXn(w:vb)(i:lF):Ct 209 [.a w.c, .a i.c] (λr=>isB r):=by refine bha rfl rfl λg f b d e=>?_;simp+contextual (maxSteps:=2000000) only[qz 141,qz 143,qz 117,qz 119,qz 87,qz 89,qz 69,qz 71,a2F,aOe,au,u0,u1,b,d,ix,rk,gw,ar,aD6,aj,rr,aNP,DR,NA,awG,↓uL];(try simp only[aBY,aNG,bN,bik,aNS,bnq]);(repeat' (first|apply ai|intro _));all_goals first|omega|trivial
def aUf:FT:=aRd aXn
def bb5{w i Lw K}:=f201 aUf aXn w i Lw K (j:=by simp+contextual only[ij,Nb])
def a7y:dO:=(276,aOd)::(290,aT6)::(218,aT4)::(287,aRh)::(209,aUf)::a7x
def aR1:eJ a7y:=it (bhJ aW8) (it (rj aW0<|λ_=>by simp only[Cs,aqG,aOW,Bool.and_self])<|it (rj aWW<|λ_=>by simp only[Cs,aqG,aOW,Bool.and_self])<|it (rj aWS<|λ_=>by simp only[Cs,aqG,aOW,Bool.and_self])<|it (aYm aXn)<|aNH)
def aRO:=ai @bbQ<|ai @bbI<|ai @bbE<|ai @bbA<|ai @bb5<|@aD6
section
attribute[local irreducible] aX
def a9a:=bA 13 [(2,([7],[1,3,5])),(8,([7,8],[1,3,5]))]
def a0O b c a d R:=(.mk _:NR a7y a9a Tryz.f291 [.u,c, .u] [b,a] d R).p
def bgI{c0:List AV}{c:AV}{b:List AV}{R:o8}(l0:L c0=2)(e:L b=4)(h:H2 197 2 3 c0 259 4 5 b λia d f=>a0O ia c d f R):Ct 291 [.a c0,c, .a b] R:=z2 a9a aR1 Tryz.func291 l0 e h
def a8Y:=bA 23 []
def aUS a b R:=(.mk _:NR a7y a8Y Tryz.f273 [.u] [a] b R).p
def bgw{c0:List AV}{R:o8}(l0:L c0=11)(h:H1 261 11 1 c0 λia b=>aUS ia b R):Ct 273 [.a c0] R:=z1 a8Y aR1 Tryz.func273 l0 h
def a8Z:=bA 10 [(3,([3],[0]))]
def a0g a s0 R:=(.mk _:NR a7y a8Z Tryz.f244 [a] [] s0 R).p
def bgx{a:AV}{R:o8}(h:H0 λs0=>a0g a s0 R):Ct 244 [a] R:=z0 a8Z aR1 Tryz.func244 h
def a9F:=bA 30 [(7,([8],[1,3,5,7])),(23,([11],[1,3,5,7,8,10]))]
def a2R b c a d R:=(.mk _:NR a7y a9F Tryz.f168 [.u,c, .u] [b,a] d R).p
def bhb{c0:List AV}{c:AV}{b:List AV}{R:o8}(l0:L c0=6)(e:L b=2)(h:H2 31 6 3 c0 234 2 5 b λia d f=>a2R ia c d f R):Ct 168 [.a c0,c, .a b] R:=z2 a9F aR1 Tryz.func168 l0 e h
end
def aW4(p:xr)(t:Int)(e:vm)(d:PrB p/\∃n,C6 n e):Ct 291 [.a p.c,iv t, .a e.c] (λr=>isI r):=by obtain⟨j,n,d⟩:=d;induction n generalizing e with|zero=>exact d.elim|succ n q=>have o:=d.len;refine bgI rfl aN9 λw v g i u=>?_;simp only[a0O,↓uL];generalize m:@qp _ 49 ⟨_⟩=Lw;have f:∀x:Int,lR [iv x,iv 0] Lw:=(by intro x;rw[<-m];refine yh (λs:Int×Nat=>[iv s.1,iv s.2]) 1 (L e.l) (λ_=>True) (x,0) trivial ?_;rintro⟨a,k⟩ _;simp+contextual only[qz 49,aI,au,u0,u1,g,i,gw,aj,Ca,bh,rr,jM,kU,jt,Fa,aPG,tW,NA,aNR,↓uL];intro h;have b:k<L e.l:=(by simp_all);refine⟨dJ b,aPW (q _<|d.2 _<|dB b) (by simp only[Cs,aqG,aOW,Bool.and_self]) ?_⟩;rintro r ⟨y,rfl⟩;simp only[AL,I9];exact wN (enc:=λs:Int×Nat=>[iv s.1,iv s.2]) (s:=(a,k)) (s':=(y,k+1)) (by grind [fX]) rfl rfl b trivial);simp+contextual only[aOe,qz 17,qz 15,aI,au,u0,u1,g,i,gw,aj,aRO,j,aXX,AL,ar,Fa,f,NA,awG,↓uL]
def aT8:FT:=vn aW4
def bbM{p t e Lw K}:=zZ aT8 aW4 p t e Lw K (j:=by simp+contextual only[ij,Nb])
def aX1(n:Nat)(h:∀s,A5 n s->Ct 273 [.a s.c] isB)(l:List eo)(j:L l<=8)(e:∀s∈l,A5 n s):Ct 244 [sl eo.c l] isB:=by refine bgx λs0 f g=>?_;simp only[a0g];refine C7 (L l) (λ_=>True) trivial λk i _=>?_;simp only[qz 19,aI,au,u0,u1,Ca,bh,rr,gw,jM,kU,jt,Fa,aNP,NA,aNR,↓uL];intro d;have b:=aL d;refine⟨dJ b,aPW (h _<|e _<|dB b) (aV2 aS7) ?_⟩;rintro r ⟨x,rfl⟩;simp only[u0,u1,AL,I9,NA];grind [gS]
set_option maxHeartbeats 8000000 in
def a7f:∀(n:Nat) (s:eo),A5 n s->Ct 273 [.a s.c] isB:=by intro n;induction n with|zero=>intro s h;exact h.elim|succ n o=>intro s l;have A:=l.at;obtain⟨m,C,g1,q⟩:=l.body;obtain rfl:n=m:=(by omega);refine bgw WV λd B f z=>?_;have hI:Q ((L s.index:Int)=1)=U->∃n,C6 n (gd s.index 0):=(by grind [dB]);have u:s.op=1\/s.op=2\/s.op=3\/s.op=14->∃n,C6 n s.expr:=(by grind);have k:fW (cX 244) [sl eo.c s.body] (lo d [sl eo.c s.body]) (λb=>gR (gP U b) (λg=>g<|AV.p (1,1) 0 10) λt=>gR (gP U b) (λg=>rV (lS J d t) λv=>g v) λe=>gR (gP U b) (λg=>fW (cX 244) [dG d e] (lo d [e]) λv=>g v) λi=>rV (mL b i<|bv I) λj=>aE isB d [j]):=(by refine aPW (aX1 n o _ (by omega) g1.2) rfl ?_;rintro r ⟨x,rfl⟩;(cases x);simp only[u0,AL,Aa,aNP,u1,jN,I9];simp only[u0,u1,AL,I9,jA,f,gw,alg,ya];refine aPW (aX1 n o _ (by omega) q.2) rfl ?_;rintro r ⟨y,rfl⟩;simp only[AL,u1,aNP,I9]);have cs:(Q (s.op<1)||Q (15<s.op))=U\/s.op=1\/s.op=2\/s.op=3\/s.op=4\/s.op=5\/s.op=6\/s.op=7\/s.op=8\/s.op=9\/s.op=10\/s.op=11\/s.op=12\/s.op=13\/s.op=14\/s.op=15:=(by grind);rcases cs with h|h|h|h|h|h|h|h|h|h|h|h|h|h|h|h;simp+contextual only[aUS,u0,u1,f,gw,aj,h,aNP,↓iC,↓uL];trace_state;all_goals(try have w:=u<|by omega);simp+contextual only[aUS,u0,u1,f,rk,gw,ar,Fa,aRO,aj,rr,rg,Ca,Gx,aRB,aNP,h,k,aPI,aPF,Int.reduceLT,Int.reduceEq,Int.reduceLE,bnq,byX,bAR,ya,Aa,↓jA,↓jN,Bool.and_self,NA,aNR,↓uL];(try simp only[aF,aBY,aNG,bN,fH,cP,bik,aNS,eH,fK]);simp_all
def a6L(s:eo)(b:∃n,A5 n s):Ct 273 [.a s.c] (λr=>isB r):=by obtain⟨n,b⟩:=b;exact a7f n s b
def a8a:FT:=om a6L
def aWT(l:List eo)(a:∃n,shL n 8 l):Ct 244 [sl eo.c l] (λr=>isB r):=by obtain⟨n,a⟩:=a;exact aX1 n (a7f n) l a.1 a.2
def aT1:FT:=om aWT
def bbB{l Lw K}:=f111 aT1 aWT l Lw K (j:=by simp+contextual only[ij,Nb])
def aYh(c:A2):Prop:=0<=c.li/\c.li<=32/\∀k,k<L c.aYx->∀j∈A1 (gd c.aYx k),0<=j/\j<c.li
def aTv{P:Bool->Prop}{Q:o8}:(∀r,(∃b:Bool,r=bv b/\P b)->Q r)=∀b,P b->Q (bv b):=(by grind)
def aPA{a:Bool}{p:Bool->Prop}:(∃k,bv a=bv k/\p k)=p a:=(by simp)
def bd5{l:List Int}{Q:o8}:(∀r,aRU l r->Q r)=∀t o,Q (.l (l.map ci) t o):=QS
def bdN{Y:ae}{x:lF}{r:AV}:lo Y [.a x.c] r=True:=by simp[lo,nA,eB,iR,lF.c]
def aXo(w:vb)(t:Int)(c:A2)(H:L c.aYx<1000000):Ct 168 [.a w.c,iv t, .a c.c] (λr=>∃b,r=bv b/\(b=U->aYh c)):=by refine bhb rfl rfl λK E z g P=>?_;simp+contextual only[a2R,u0,u1,g,gw,ar,aj,aPA,eE,aNU,NA,↓uL];intro f;refine yV (L c.aYx) (λk _ Y=>Fx K Y []/\∀u,u<k->∀j∈A1 (gd c.aYx u),0<=j/\j<c.li) ⟨Fx.refl _ _,by simp⟩ ?_;rintro k _ Y W ⟨F,hI⟩;have p:L Y=4096:=F.len.trans E;have B:=F.kq z;have l:=F.kq g;simp only[qz 43,qy 6,aI,au,u0,u1,l,rk,gw,aj,Ca,bh,aPA,↓uL];refine⟨λh=>⟨vp h,anu p λv O e N A=>?_⟩,λh _=>?_⟩;have q:=aL h;have C:=e.kq B;have m:=e.kq l;simp+contextual only[qz 8,au,u0,u1,C,m,A,ix,rk,gw,ar,Fa,aRO,aj,rr,rg,aPA,bd5,bdN,H,eE,aNU,NA,↓uL];refineλx y _=>⟨(by grind [dX]),λ_ _ X o=>?_⟩;refine C7 (L<|A1<|gd c.aYx k) (λi=>∀d,d<i->0<=gd (A1<|gd c.aYx k) d/\gd (A1<|gd c.aYx k) d<c.li) (by simp) λi T S=>?_;have G:L (A1<|gd c.aYx k)<=3:=(by grind [A1]);simp only[qz 139,aI,au,u0,u1,gT,tf,rk,gw,m,bh,aj,ar,aRO,rr,aPA,eE,aNU,NA,↓uL];refine⟨(by grind [dJ,aL,gS,dh]),λR=>?_⟩;refine dR (mk:=λ(_:Unit) i=>[iv i]) (s:=()) (s':=()) (λ_ _=>rfl) q (by omega) ⟨F.trans e,a6p hI λj D=>?_⟩;obtain⟨d,M,rfl⟩:=ou D;grind [bT,C3,bw];simp at f;have n:k=L c.aYx:=(by grind);subst n;exact⟨by omega,by omega,hI⟩
def aUg:FT:=vn aXo
def bb6{w t c Lw K}:=zZ aUg aXo w t c Lw K (j:=by simp+contextual only[ij,Nb])
def a7z:dO:=(291,aT8)::(273,a8a)::(244,aT1)::(168,aUg)::a7y
def aTB:eJ a7z:=it (By aW4<|λ_ _ _=>by simp only[Cs,aqG,aOW,Bool.and_self]) (it (rj a6L<|λ_=>by simp only[Cs,aqG,aOW,Bool.and_self])<|it (rj aWT<|λ_=>by simp only[Cs,aqG,aOW,Bool.and_self])<|it (By aXo)<|aR1)
def aQT:=ai @bbM<|ai @bbB<|ai @bb6<|@aRO
section
attribute[local irreducible] aX
def a8W:=bA 27 [(3,([3],[1])),(11,([4],[1])),(18,([6],[1,4,5]))]
def a0f a b R:=(.mk _:NR a7z a8W Tryz.f215 [.u] [a] b R).p
def bgu{c0:List AV}{R:o8}(l0:L c0=2)(h:H1 197 2 1 c0 λia b=>a0f ia b R):Ct 215 [.a c0] R:=z1 a8W aTB Tryz.func215 l0 h
def a0r b c a d R:=(.mk _:NR a7z a8V Tryz.f277 [.u,c, .u] [b,a] d R).p
def bgC{c0:List AV}{c:AV}{b:List AV}{R:o8}(l0:L c0=2)(e:L b=4)(h:H2 197 2 3 c0 259 4 5 b λia d f=>a0r ia c d f R):Ct 277 [.a c0,c, .a b] R:=z2 a8V aTB Tryz.func277 l0 e h
def a9p:=bA 13 [(6,([3],[1]))]
def a1N a b R:=(.mk _:NR a7z a9p Tryz.f110 [.u] [a] b R).p
def bgX{c0:List AV}{R:o8}(l0:L c0=7)(h:H1 135 7 1 c0 λia b=>a1N ia b R):Ct 110 [.a c0] R:=z1 a9p aTB Tryz.func110 l0 h
end
def aWR(p:xr)(u:shP p):Ct 215 [.a p.c] (λr=>isB r):=by obtain⟨⟨A,B,C⟩,D,o⟩:=u;refine bgu rfl λw t e z=>?_;simp only[a0f];refine C7 (L p.A7) (λ_=>True) trivial λk q _=>?_;simp+contextual only[qz 19,aI,au,u0,u1,e,rk,gw,aj,Ca,bh,ar,Fa,aQT,rr,aNP,NA,↓uL];refine⟨λh=>⟨vp h,by grind [gS,aL]⟩,λ_=>?_⟩;refine yV (L p.ay) (λ_ _ Y=>Fx w Y []) (Fx.refl _ _) ?_;rintro k _ Y q F;have n:=F.kq e;have f:L Y=4096:=F.len.trans t;simp only[qz 67,qy 4,qy 6,aI,au,u0,u1,n,rk,gw,aj,Ca,bh,aNP,NA,aNR,↓uL];intro h;have d:=aL h;refine⟨dJ d,anu f λv y l x m=>?_⟩;have g:=o _<|dB d;refine C7 (L (gd p.ay k).locs) (λ_=>True) trivial λj E _=>?_;simp+contextual only[qz 109,aI,au,u0,u1,m,rk,gw,aj,ix,bh,ar,aQT,rr,rg,aNP,NA,↓uL];refine⟨λh=>⟨vp h,λ_=>gS (aL h) (by have:=g.1;omega) trivial⟩,λ_=>⟨λ_=>⟨4,g.2⟩,λb _=>dR (mk:=λ(_:Unit) i=>[iv i]) (s:=()) (s':=()) (λ_ _=>rfl) d (by omega)<|F.trans l⟩⟩
def aT0:FT:=om aWR
def bbz{p Lw K}:=f111 aT0 aWR p Lw K (j:=by simp+contextual only[ij,Nb])
def aWY(p:xr)(t:Int)(e:vm)(f:PrB p/\∃n,C6 n e):Ct 277 [.a p.c,iv t, .a e.c] (λr=>isI r):=by refine bgC rfl aN9 λi h b d g=>?_;simp+contextual only[a0r,u0,u1,b,d,gw,ar,Fa,aQT,f,rr,aPG,NA,awG,↓uL]
def aP8:FT:=vn aWY
def bbG{p t e Lw K}:=zZ aP8 aWY p t e Lw K (j:=by simp+contextual only[ij,Nb])
def aPU(c:qt):Prop:=mQ c.aQ=U/\L c.ay=L c.aQ.ay/\∀t∈c.ay,aYh t
def aOc(c:qt):Prop:=L c.ay<1000/\∀t∈c.ay,L t.aYx<1000000
def aXh(c:qt)(f:aOc c):Ct 110 [.a c.c] (λr=>∃b,r=bv b/\(b=U->aPU c)):=by obtain⟨i,e⟩:=f;refine bgX rfl λp n d g=>?_;simp+contextual only[a1N,u0,u1,d,gw,aj,ar,aQT,rr,aPA,eE,aNU,NA,↓uL];intro o;refine C7 (L c.ay) (λk=>∀j,j<k->aYh (gd c.ay j)) (by simp) λk m l=>?_;simp+contextual only[qz 37,aI,au,u0,u1,d,rk,gw,aj,Ca,bh,ar,Fa,aQT,rr,aTv,aPA,eE,aNU,NA,↓uL];refine⟨λh=>⟨vp h,e _<|dB<|aL h,by grind [gS,aL]⟩,λh _=>⟨?_,?_,?_⟩⟩;simp_all;grind;grind [ou,bT,C3,bw]
def aRk:FT:=om aXh
def bbZ{c Lw K}:=f111 aRk aXh c Lw K (j:=by simp+contextual only[ij,Nb])
def aYb:dO:=(215,aT0)::(277,aP8)::(110,aRk)::a7z
def aTC:eJ aYb:=it (rj aWR) (it (By aWY<|λ_ _ _=>by simp only[Cs,aqG,aOW,Bool.and_self])<|it (rj aXh)<|aTB)
def aQU:=ai @bbz<|ai @bbG<|ai @bbZ<|@aQT
section
attribute[local irreducible] aX
def a9e:=bA 11 [(3,([9],[0,1,2,3]))]
def aUX a b c d s0 R:=(.mk _:NS aYb a9e Tryz.f274 [a,b,c,d] [] s0 R).p
def bgM{a b c d:AV}{s0:ae}{R:be}(e:L s0=4096)(h:aUX a b c d s0 R):EB 274 [a,b,c,d] s0 R:=zB a9e aTC Tryz.func274 h
def a9f:=bA 56 [(12,([67],[0,3,5,6,7,8,9,30])),(17,([91],[0,3,5,6,7,8,9,30])),(24,([119],[0,3,5,6,7,8,9,30])),(51,([14],[0,3,5,6]))]
def aUY b a c R:=(.mk _:NS aYb a9f Tryz.f247 [b, .u] [a] c R).p
def bgN{c:AV}{b:List AV}{s0:ae}{R:be}(d:L s0=4096)(l1:L b=11)(h:HB1 261 11 3 b s0 λf e=>aUY c f e R):EB 247 [c, .a b] s0 R:=zB1 a9f aTC Tryz.func247 d l1 h
def a5F:=bA 22 [(3,([6],[0,1])),(9,([8],[0,1,6,7])),(16,([8,9],[0,1,6]))]
def aRq a b s0 R:=(.mk _:NF<|zF GGV aYb a5F Tryz.f219 [a,b] [] s0<|QDb Tryz.f219 R).p
def a7S{a b:AV}{s0:ae}{R:be}(c:L s0=4096)(h:aRq a b s0 R):EB 219 [a,b] s0 R:=aTc<|zB a5F (aQ9 aTC) Tryz.func219 h
end
def aV6{fn:Nat}{xs:List AV}{Y:ae}{d:Nat}{K:be}{P:Value->Prop}(i:uQ.elem fn=U)(h:∃r b,((∃v,r= .s v/\P v)/\Fx Y b [])/\cZ aS GG fn xs Y r b)(g:∀v,P v->K (.s v) Y):cB fn xs Y d K:=by obtain⟨r,b,⟨⟨v,rfl,j⟩,c⟩,f⟩:=h;exact aS2 i ⟨_,b,⟨rfl,c⟩,f⟩<|g v j
section
variable{Y:ae}{e:TypeId}{z:Nat}{a:AV}{aa:List (List AV)}
theorem ixG{i:Int}{K:o8}(d:gm Y e z a aa)(c:aF (L aa) i)(h:∀b m,a= .m b (L aa)->box Y b=V ⟨e,z,U,I,aa++m⟩->K (.p b i.toNat 0)):rV (cz z Y a<|iv i) K:=by have f:=c.1;have g:=c.2;rcases d with⟨rfl,rfl⟩|⟨b,m,rfl,j⟩;grind;grind [cz,rV]
theorem stG{b:Id}{i:Nat}{cs:List AV}{K:ae->Prop}(c:box Y b=V ⟨e,z,U,I,aa⟩)(m:i<L aa)(n:∀r∈aa,L r=z)(k:L cs=z)(l:cs.all eN=U)(h:nrm (eR Y<|.a cs)= .a cs)(hI:eB (.a cs)=[])(g:∀Y',Fx Y Y' [b]->box Y' b=V ⟨e,z,U,I,aa.set i cs⟩->K Y'):sV (aK z Y (.p b i 0)<|.a cs) K:=by have d:aa[i]?=V aa[i]:=(by simp);have j:aa[i].length=z:=(by simp_all);have f:aK z Y (.p b i 0) (.a cs)=V (wr Y b ⟨e,z,U,I,aa.set i cs⟩):=(by simp only[aK,aBG,c,eE,bhR,hI,kills,aRl,h,pW,eY,d];grind);rw[f];exact g _ (wc c)<|lO c
theorem aQz{b:Id}{i j:Nat}{x:AV}{r:List AV}{K:ae->Prop}(c:box Y b=V ⟨e,z,U,I,aa⟩)(h:aa[i]?=V r)(l:j<L r)(g:eY (nrm<|eR Y x)=V [nrm<|eR Y x])(k:eN (nrm<|eR Y x)=U)(hI:eB x=[])(f:∀Y',Fx Y Y' [b]->box Y' b=V ⟨e,z,U,I,aa.set i<|r.set j<|nrm<|eR Y x⟩->K Y'):sV (aK 1 Y (.p b i j) x) K:=by have d:aK 1 Y (.p b i j) x=V (wr Y b ⟨e,z,U,I,aa.set i<|r.set j<|nrm<|eR Y x⟩):=(by simp only[aK,aBG,c,eE,bhR,hI,kills,aRl,pW,g,h,bZ,vw];grind [GP]);rw[d];exact f _ (wc c)<|lO c
end
def bxL{e:TypeId}{z d:Nat}{cs:List AV}{Y:ae}{K:be}(h:L cs=z)(g:0<z)(b:d<L Y)(f:∀v Y',Fx Y Y' []->bK Y (d,v)->box Y' (d,v)=V ⟨e,z,U,U,[cs]⟩->K (.p (d,v) 0 0) Y'):eV (bxA e z Y d<|.a cs) K:=by have c:bxA e z Y d (.a cs)=V (.p (lA Y d) 0 0,put Y d ⟨e,z,U,U,[cs]⟩):=(by grind [bxA,eY,vg]);rw[c];exact f _ _ (kH b) (qQ Y d)<|iy b
def gfP{Y:ae}{b:Id}{T e:TypeId}{z ze j d by':Nat}{cs zs:List AV}{a:AV}{aa new:List (List AV)}{t o:Bool}{K:AV->be}(B:box Y b=V ⟨T,z,U,U,[cs]⟩)(G:j<L cs)(w:gm Y e ze a aa)(i:b∉aA a)(O:L zs=ze)(k:0<ze)(D:d<L Y)(M:∀r∈aa,L r=ze)(H:∀r∈new,L r=ze)(v:new≠[])(h:(L aa+L new)*(by'+1)<=1099511627776)(C:b.1≠d)(A:∀c Y',box Y' b=V ⟨T,z,U,U,[cs.set j c]⟩->bc Y' e ze c (aa++new)->Fx Y Y' (b::aA a)->(∀q∈aA c,bK Y q/\q.1=d)->K (.p b 0 j) c Y'):eV (cj e zs by' Y d a<|.l new t o) λx s=>rV (iQ j s<|.p b 0 0) λy=>sV (aK 1 s y x) (K y x):=by refine qs w O k D M H v h λc Y' g F N=>?_;have f:=F.keep _ _ i B;have E:iQ j Y' (.p b 0 0)=V (.p b 0 j):=(by simp[iQ,f]);simp only[E,aY];refine A0 f g.p.ce G λn m u=>?_;have P:b∉aA c:=(by grind);refine A c n u (by grind [bc.fx]) ((F.trans m).mono λq R=>?_) N;grind
def bfa{α:Type}{l:List α}{x y:α}:(l++[x]).set (L l) y=l++[y]:=by simp
structure Wk(Y:ae)(b:Id)(p:xr)(al:List eo)(n:Nat)(a s t:AV):Prop where
 bx:∃th:Int,box Y b=V ⟨293,6,U,U,[[sl asq.c p.A7,sl xt.c p.ay,iv th,a,s,t]]⟩
 ga:gm Y 261 11 a (al.map eo.c)
 gs:∃l:List ByteArray,gm Y 9 1 s (l.map cs)/\L l<=n
 gt:∃l:List ByteArray,gm Y 9 1 t (l.map cs)/\L l<=n
 la:L al<=6
 le:L Y=4096
 sb:b.1=60
 sa:∀q∈aA a,q.1=42
 ss:∀q∈aA s,q.1=204
 st:∀q∈aA t,q.1=262
section
variable{Y Y':ae}{b:Id}{p:xr}{al:List eo}{n:Nat}{a s t:AV}
theorem Wk.fx{ks:List Id}(W:Wk Y b p al n a s t)(F:Fx Y Y' ks)(d:b∉ks)(e:∀q∈aA a,q∉ks)(f:∀q∈aA s,q∉ks)(h:∀q∈aA t,q∉ks):Wk Y' b p al n a s t:=by obtain⟨o,i⟩:=W.bx;obtain⟨l,g,j⟩:=W.gs;obtain⟨m,c,k⟩:=W.gt;exact⟨⟨o,F.keep _ _ d i⟩,W.ga.fx F e,⟨l,g.fx F f,j⟩,⟨m,c.fx F h,k⟩,W.la,F.len.trans W.le,W.sb,W.sa,W.ss,W.st⟩
theorem Wk.fx0(W:Wk Y b p al n a s t)(F:Fx Y Y' []):Wk Y' b p al n a s t:=(by grind [Wk.fx])
theorem Wk.mono{m:Nat}(W:Wk Y b p al n a s t)(h:n<=m):Wk Y b p al m a s t:=by obtain⟨l,g,e⟩:=W.gs;obtain⟨k,c,d⟩:=W.gt;exact⟨W.bx,W.ga,⟨l,g,by omega⟩,⟨k,c,by omega⟩,W.la,W.le,W.sb,W.sa,W.ss,W.st⟩
theorem ixL{i:Int}{K:o8}{α:Type}[Inhabited α]{f:α->List AV}{l:List α}{z:Nat}{e:TypeId}(d:gm Y e z a<|l.map f)(c:aF (L l) i)(w:∀x,L (f x)=z)(g:∀y,(∀q,lS q Y y=aN q (f<|gd l i.toNat))->(∀j q,rV (iQ j Y y) q=q (match y with| .p b k o=> .p b k (o+j)|y=>y))->K y):rV (cz z Y a<|iv i) K:=by refine ixG d (by grind) λb m v h=>g _ (λq=>?_) (λj q=>?_);have r:=c.1;have u:=c.2;grind [gd,xe,eC,bT,lS,iE];simp[iQ,h,rV]
def bdi(W:Wk Y b p al n a s t)(x y:Int)(q:ByteArray):∃r c,((∃v,r= .s v/\∃u:Bool,v= .bool u)/\Fx Y c [])/\cZ aS GG 274 [.p b 0 0,iv x,iv y,st q] Y r c:=by refine bgM W.le ?_;simp only[aUX];refine yV (L al) (λ_ _ Y'=>Fx Y Y' []) (Fx.refl _ _) ?_;rintro k _ c B F;have e:=W.fx0 F;obtain⟨C,g⟩:=e.bx;have j:∀u Y',Fx Y Y' []->fe (λr c=>(∃v,r= .s v/\∃u:Bool,v= .bool u)/\Fx Y c []) Y' [bv u]:=λu Y' d=>⟨⟨_,rfl,u,rfl⟩,d⟩;simp only[qz 19,qy 2,aI,au,oo g,u0,u1,g,gw,aj,e.ga.ln,bJ,↓uL];refine⟨λh=>?_,λ_=>j _ _ F⟩;have f:=aL h;refine ixL e.ga (dJ f) (λ_=>WV) λD o _=>?_;simp only[o,bh,gw,aY];refine aRA rfl WV (by decide) (by rw[e.le];decide) λv A l z m=>?_;have d:=F.trans l;simp+contextual only[qz 4,au,u0,u1,m,gw,aj,j _ _ d,NA,I9,↓uL];have w:=W.la;exactλ_=>dR (mk:=λ(_:Unit) i=>[iv i]) (s:=()) (s':=()) (λ_ _=>rfl) f (by omega) d
theorem aRE(W:Wk Y b p al n a s t){x y:Int}{c:ByteArray}{d:Nat}{K:be}(e:∀u:Bool,K (bv u) Y):cB 274 [.p b 0 0,iv x,iv y,st c] Y d K:=aV6 rfl (bdi W x y c) (by simp_all)
def aPr(Y:ae)(b:Id)(p:xr)(al:List eo)(n:Nat)(a s t:AV)(r:AV)(c:ae):Prop:=∃(e:Int) (s' d:AV),r=iv e/\Wk c b p al (n+1) a s' d/\Fx Y c (b::(aA s++aA t))/\(∀q∈aA s',q∈aA s\/bK Y q)/\∀q∈aA d,q∈aA t\/bK Y q
theorem aPr.no(W:Wk Y b p al n a s t)(F:Fx Y Y' [])(e:Int):aPr Y b p al n a s t (iv e) Y':=⟨e,s,t,rfl,(W.fx0 F).mono (by omega),F.mono (by simp),λ_ h=> .inl h,λ_ h=> .inl h⟩
def bd6{Q:o8}:(∀r,(∃k:Int,r=iv k)->Q r)=∀k,Q (iv k):=a65
def a52{x:ByteArray}:aX C9 1 Y [(0,st x)]=V (.l ([x].map cs) U U,Y):=iz
set_option maxHeartbeats 8000000 in
theorem bdl(W:Wk Y b p al n a s t)(O:PrB p){m:Nat}{x:eo}(hx:A5 m x)(hn:n<100000):∃r Y1,aPr Y b p al n a s t r Y1/\cZ aS GG 247 [.p b 0 0, .a x.c] Y r Y1:=by have hw:=W;have ha:=hx.at;obtain⟨b1,B⟩:=b;obtain rfl:b1=60:=W.sb;refine bgN W.le WV λs2 v3 K2 a1 nf2 b3=>?_;have F2:Fx Y s2 []:=K2.fx [];have T:=W.fx0 F2;obtain⟨th,D⟩:=T.bx;have rp:∀{l:List AV},aN (V 2) (sl asq.c p.A7::sl xt.c p.ay::l)=V (.a p.c):=rfl;simp only[aUY,qy 4,oo D,u0,u1,D,rp,gw,aj,↓uL];refine anu T.le λv5 A E aR b5=>?_;have f:=T.fx0 E;have X:=E.kq b3;have F:=F2.trans E;obtain⟨th,D⟩:=f.bx;have a0:cO A (.p (60,B) 0 0)=V (.p (60,B) 0 0):=oo D;obtain⟨ls,N,aY⟩:=f.gs;obtain⟨lt,H,aZ⟩:=f.gt;have aK:dG A s=sl Ab.cs ls:=N.ar;have aL:dG A t=sl Ab.cs lt:=H.ar;refine dT (by first|rfl|(simp[eL,okT,tok,lb,cq,Qh,J3,dC,pP,dK];done)) ?_;refine aRE f λtx=>?_;simp only[qz 8,↓uL];refine aRE f λaT=>?_;simp only[qz 10,↓uL];refine aRE f λlp=>?_;have dn:∀e:Int,fe (aPr Y (60,B) p al n a s t) A [iv e]:=λe=>aPr.no W F e;have hI:∀y∈x.index,∃n,C6 n y:=(by grind);have hX:x.op=1\/x.op=2\/x.op=3\/x.op=14->∃n,C6 n x.expr:=(by grind);have an:=aTb (p:=λi=>Q<|(gd p.A7 i).name=x.name) (n:=L p.A7);have ah:(x.op=1\/x.op=2\/x.op=3\/x.op=4\/x.op=5\/x.op=6\/x.op=7\/x.op=8\/x.op=9\/x.op=10\/x.op=11\/x.op=12\/x.op=13\/x.op=14)\/(x.op≠1/\x.op≠2/\x.op≠3/\x.op≠4/\x.op≠5/\x.op≠6/\x.op≠7/\x.op≠8/\x.op≠9/\x.op≠10/\x.op≠11/\x.op≠12/\x.op≠13/\x.op≠14):=(by omega);have aO:∀(i j:Int) (d:Nat) (k:Int),gF (!tx) (λk=>cB 274 [AV.p (60,B) 0 0,iv i,iv j,st x.name] A d λax av=>k ax av) A λaz C=>rV (mL (bv tx) (bv U) az) λR=>fW aOS [dG C R] (lo C [R]) λS=>fW aOi [AV.s<|Value.int dq k,dG C S] (lo C [iv k,S]) λaB=>fe (aPr Y (60,B) p al n a s t) C [aB]:=(by intro i j d k;(cases tx);simp only[kN,gF,aNV];refine aRE f λu=>?_;simp only[u0,ar,aQU,dn,awG];simp only[gF,fh,aPy,ya,u0,ar,aQU,dn,awG]);simp only[qz 12,u0,u1,X,gw,aj,↓uL];rcases ah with(h|h|h|h|h|h|h|h|h|h|h|h|h|h)|⟨g1,g2,g3,g4,g5,g6,g7,g8,g9,aU,aV,z,aW,aX⟩;(all_goals(try have am:=hX<|by omega);simp+contextual only[qz 309,qy 26,qz 311,qz 147,qy 20,qz 149,qz 105,qz 107,qz 75,qz 77,aOe,aI,au,u0,u1,rk,gw,ar,Fa,aQU,aj,rr,Ca,Gx, *,aPI,aPF,Int.reduceEq,bnq,↓iC,↓iB,aXX,bd6,NA,aNR,eE,sr,aNU,aOw,↓uL]);intro h0 k;have:0<L x.index:=(by grind);exact⟨⟨by omega,by omega⟩,hI _<|dB this⟩;(any_goals intro k hk h0;have ap:k=0:=(by simp_all);refine⟨by have:=O.1;omega,⟨hk ap,an.2⟩,aRE f λu=>?_⟩;cases tx<;>cases u<;>simp+contextual only[qz 18,u0,u1,X,gw,aj,ar,aQU,dn,ya,Aa,jA,jN,awG,↓uL]);intro k hk;refine⟨by have:=O.2.1;omega,λ_=>⟨by omega,λ_=>?_⟩⟩;simp only[a52,bQ];refine apQ N f.le oX oX (by simp) (by simp;omega) λs' aq z o af=>?_;have w:=o.keep _ _ (λg=>by have:=f.ss _ g;simp at this) D;simp only[qz 22,oo w,u0,u1,w,aj,↓uL];refine A0 w z.p.ce (by simp) λP v G=>?_;refine dT (by first|rfl|(simp[eL,okT,tok,lb,cq,Qh,J3,dC,pP,dK];done)) ?_;have M:∀q∈aA s',q∉[((60,B):Id)]:=(by grind);refine⟨0,s',t,rfl,⟨⟨th,G⟩,(f.ga.fx o<|λq g K=>by grind [Wk.sa,Wk.ss]).fx v (λq g e=>by grind [Wk.sa]),⟨ls++[x.name],by rw[dg];exact z.p.fx v M,by simp;omega⟩,⟨lt,(H.fx o<|λq g K=>by grind [Wk.st,Wk.ss]).fx v (λq g e=>by grind [Wk.st]),by omega⟩,f.la,v.len.trans<|o.len.trans f.le,rfl,f.sa,(by grind),f.st⟩,((F.trans o).trans v).mono<|λq g=> .inl ?_,(by grind [bK.old]),λq g=> .inl g⟩;grind;intro k _;have:=O.2.1;omega;(focus refineλk=>⟨λ_=>by omega,λ_=>?_,λ_=>?_⟩;all_goals simp only[a52,bQ];refine apQ H f.le oX oX (by simp) (by simp;omega) λt' aq z o af=>?_;have w:=o.keep _ _ (λg=>by have:=f.st _ g;simp at this) D;have Z:=o.keep _ _ (λg=>by have:=f.st _ g;simp at this) X;have d5:=o.keep _ _ (λg=>by have:=f.st _ g;simp at this) b5;simp only[qz 28,oo w,u0,u1,w,aj,↓uL];refine A0 w z.p.ce (by simp) λP v G=>?_;have Z:=v.kq Z;have d5:=v.kq d5;refine dT (by first|rfl|(simp[eL,okT,tok,lb,cq,Qh,J3,dC,pP,dK];done)) ?_;have M:∀q∈aA t',q∉[((60,B):Id)]:=(by grind);have ak:∀e:Int,aPr Y (60,B) p al n a s t (iv e) P:=(by intro e;refine⟨e,s,t',rfl,⟨⟨th,G⟩,(f.ga.fx o<|λq g K=>by grind [Wk.sa,Wk.st]).fx v (λq g e=>by grind [Wk.sa]),⟨ls,(N.fx o<|λq g K=>by grind [Wk.ss,Wk.st]).fx v (λq g e=>by grind [Wk.ss]),by omega⟩,⟨lt++[x.name],by rw[dg];exact z.p.fx v M,by simp;omega⟩,f.la,v.len.trans<|o.len.trans f.le,rfl,f.sa,f.ss,by grind⟩,((F.trans o).trans v).mono<|λq g=> .inl ?_,λq g=> .inl g,by grind [bK.old]⟩;grind);simp only[u0,u1,Z,d5,gw,aj,ar,Fa,aQU,O,am,rr,awG,↓uL];exactλ_=>ak _)
theorem baX(W:Wk Y b p al n a s t)(h:PrB p){m:Nat}{x:eo}(j:A5 m x)(i:n<100000){d:Nat}{K:be}(v:∀(e:Int) (s' g:AV) f,Wk f b p al (n+1) a s' g->Fx Y f (b::(aA s++aA t))->(∀q∈aA s',q∈aA s\/bK Y q)->(∀q∈aA g,q∈aA t\/bK Y q)->K (iv e) f):cB 247 [.p b 0 0, .a x.c] Y d K:=by refine jH rfl (bdl W h j i) ?_;rintro r f ⟨e,s',g,rfl,k,l,o,u⟩;grind [Fx.len]
def bS:Nat->Nat|0=>0|m+1=>1+8*bS m
def aR9(Y:ae)(b:Id)(p:xr)(al:List eo)(n:Nat)(a s t:AV)(r:AV)(c:ae):Prop:=∃(e l:Int) (d s' f:AV),r= .t [iv e,iv l]/\Wk c b p al n d s' f/\Fx Y c (b::(aA a++(aA s++aA t)))/\(∀q∈aA d,q∈aA a\/bK Y q)/\(∀q∈aA s',q∈aA s\/bK Y q)/\∀q∈aA f,q∈aA t\/bK Y q
theorem bc8(hB:PrB p):∀(m:Nat) {Y:ae} {al:List eo} {n:Nat} {a s t:AV} {l:List eo},Wk Y b p al n a s t->shL m 8 l->n+L l*bS m<100000->
  ∃r Y1,aR9 Y b p al (n+L l*bS m) a s t r Y1/\cZ aS GG 219 [.p b 0 0,sl eo.c l] Y r Y1:=by
 intro m
 induction m with
 |zero=>
  intro Y al n a s t l W hs hn
  have:l=[]:=List.eq_nil_iff_forall_not_mem.2 λx hx=>hs.2 x hx
  subst this
  refine a7S W.le ?_
  simp only[aRq]
  refine yV 0 (λ_ _ Y'=>Y'=Y) rfl ?_
  rintro k _ Y1 hk rfl
  simp only[qz 19,qy 2,aI,au,u0,u1,vw,↓uL]
  refine⟨λh=>by simp at h;omega,λ_=>⟨0,0,a,s,t,rfl,W.mono (by omega),Fx.refl _ _,λ_ h=> .inl h,λ_ h=> .inl h,λ_ h=> .inl h⟩⟩
 |succ m ih=>
  intro Y al n a s t l W hs hn
  obtain⟨b1,g⟩:=b
  obtain rfl:b1=60:=W.sb
  refine a7S W.le ?_
  simp only[aRq]
  refine yV (L l) (λk _ Y'=>∃D s' F,Wk Y' (60,g) p al (n+k*bS (m+1)) D s' F/\Fx Y Y' ((60,g)::(aA a++(aA s++aA t)))/\(∀q∈aA D,q∈aA a\/bK Y q)/\(∀q∈aA s',q∈aA s\/bK Y q)/\∀q∈aA F,q∈aA t\/bK Y q) (by grind [Fx.refl]) ?_
  rintro k _ Y1 hk ⟨a1,s1,t1,W1,F1,i1,i2,i3⟩
  have cb:k*bS (m+1)<=L l*bS (m+1):=qo _ hk
  have aO:∀(e ln:Int) (D s' F:AV) Y',Wk Y' (60,g) p al (n+L l*bS (m+1)) D s' F->Fx Y Y' ((60,g)::(aA a++(aA s++aA t)))->(∀q∈aA D,q∈aA a\/bK Y q)->(∀q∈aA s',q∈aA s\/bK Y q)->(∀q∈aA F,q∈aA t\/bK Y q)->fe (aR9 Y (60,g) p al (n+L l*bS (m+1)) a s t) Y' [iv e,iv ln]:=λe ln D s' F Y' h1 h2 h3 h4 h5=>⟨e,ln,D,s',F,rfl,h1,h2,h3,h4,h5⟩
  simp only[qz 19,qy 2,aI,au,u0,u1,Ca,bh,rr,gw,↓uL]
  refine⟨λh=>⟨vp h,aRA rfl WV (by decide) (by rw[W1.le];decide) λv s2 F2 N2 aM=>?_⟩,by grind⟩
  have ao:=aL h
  have W2:=W1.fx0 F2
  have hx:=hs.2 _<|dB ao
  obtain⟨m',cp,g1,g2⟩:=hx.body
  obtain rfl:m=m':=by omega
  have bF:n+k*bS (m+1)+(1+8*bS m)<=n+L l*bS (m+1):=by
   have h9:(k+1)*bS (m+1)<=L l*bS (m+1):=qo _ ao
   grind [tN,bS]
  have n7:∀{D s' F:AV} {Y':ae} {bk:List eo} {n':Nat},Wk Y' (60,g) p bk n' D s' F->∀(v:Nat),((7,v):Id)∉((60,g):Id)::(aA D++(aA s'++aA F)):=λW v o=>by
   simp only[eW,dF,iK] at o
   rcases o with h|h|h|h
   ·omega
   ·have:=W.sa _ h;simp at this
   ·have:=W.ss _ h;simp at this
   ·have:=W.st _ h;simp at this
  generalize cr:gd l k=x at*
  simp only[qz 4,u0,u1,aM,gw,↓uL]
  refine baX W2 hB hx (by omega) λe s3 t3 Y3 z F3 j2 j3=>?_
  have b3:=F3.keep _ _ (λo=>n7 W2 v<|by simp only[eW,dF] at o⊢;rcases o with h|h|h;exact .inl h;exact .inr<|.inr<|.inl h;exact .inr<|.inr<|.inr h) aM
  have Z:Fx Y Y3 ((60,g)::(aA a++(aA s++aA t))):=((F1.trans F2).trans F3).mono (by grind [bK.no])
  have aR:∀q∈aA s3,q∈aA s\/bK Y q:=(by grind [bK.old])
  have aT:∀q∈aA t3,q∈aA t\/bK Y q:=(by grind [bK.old])
  obtain⟨th,ah⟩:=z.bx
  have bp:=z.la
  have ew:dq.wrap ((L al:Int)+1)=((L al+1:Nat):Int):=fX (by omega)
  simp+contextual only[qz 6,aOe,qz 59,qz 57,qy 8,aI,au,oo ah,u0,u1,ah,yr,C5,yd,z.ga.ln,bJ,b3,gw,aj,ew,Int.reduceEq,bnq,byX,aPI,↓iC,↓uL]
  have ac:∀(e ln:Int),fe (aR9 Y (60,g) p al (n+L l*bS (m+1)) a s t) Y3 [iv e,iv ln]:=λe ln=>aO e ln _ _ _ _ (z.mono<|by omega) Z i1 aR aT
  refine⟨λ_=>ac _ _,λh6=>⟨λ_=>ac _ _,λ_=>?_⟩⟩
  have co:L al+1<=6:=by grind
  have bs:aX aOl 1 Y3 [(0,.a [iv 0,iv 0,sv [],sv [],.l [] U U,iv 0,iv 0,sv [],.l [] U U,.l [] U U,.l [] U U])]=V (.l [aOl] U U,Y3):=by kernel_rfl
  simp only[bs,bQ]
  refine apQ z.ga z.le (qW λ_=>WV) (by simp) (by simp) (by simp;omega) λa4 Y4 g4 F4 N4=>?_
  rcases g4 with⟨h8,_⟩|⟨q,bo,o⟩
  ·simp at h8
  subst bo
  have aP:q.1=42:=(N4 q<|by simp[aA]).2
  have bw:=(N4 q<|by simp[aA]).1
  obtain⟨q1,q2⟩:=q
  simp only at aP
  subst aP
  have na:∀{u:Nat} {r:Nat},r≠42->((r,u):Id)∉aA a1:=λj o=>j<|z.sa _ o
  have b4:=F4.keep _ _ (na<|by decide) b3
  have bq:=F4.keep _ _ (na<|by decide) ah
  have aC:L (al.map eo.c++[aOl])=L al+1:=by simp
  have bt:∀{K:o8},K (.p (42,q2) (L al) 0)->rV (cz 11 Y4 (.m (42,q2)<|L<|al.map eo.c++[aOl])<|iv (L al:Int)) K:=λ{K} hK=>by
   simp only[cz,Int.natCast_nonneg,aNZ,o,qd,bh,aC,Nat.lt_succ_self,awG,rV]
   exact hK
  simp only[qz 10,↓uL]
  refine bt ?_
  refine stG o (by simp) (by intro r j;simp only[dF,dN,cE] at j;rcases j with⟨y,_,rfl⟩|rfl;exact WV;rfl) WV (by rw[apT];rfl) (by rw[apT];rfl) (by rw[apT];rfl) λY5 F5 aQ=>?_
  have a2:(al.map eo.c++[aOl]).set (L al) (eo.c x)=(al++[x]).map eo.c:=by
   have:=bfa (l:=al.map eo.c) (x:=aOl) (y:=eo.c x)
   rw[bJ] at this
   rw[this];simp
  rw[a2] at aQ
  have b5:=F5.kq b4
  have T:=F5.kq bq
  simp only[qz 12,oo T,u0,u1,T,aj,↓uL]
  refine A0 T rfl (by simp) λY6 F6 br=>?_
  have b6:=F6.kq b5
  have cq:=F6.kq aQ
  have bv:J3 (.a x.c)=[]:=by rw[apT];rfl
  refine dT (by simp only[lbV,aBG,T,o,aNZ,eE,bhR,Cz,RN,bv];simp[eL,lb,J3,dC,dK]) ?_
  have aa:Fx Y3 Y6 (aA a1++[(60,g)]):=((F4.trans F5).trans F6).mono λr j=>by
   simp only[dF,cE] at j⊢
   grind [bK.no]
  have ba:Fx Y Y6 ((60,g)::(aA a++(aA s++aA t))):=(Z.trans aa).mono λr j=>by
   rcases dF.1 j with h|h
   ·exact .inl h
   ·rcases dF.1 h with h|h
    ·rcases i1 r h with h|h
     ·grind
     ·exact .inr h.no
    grind
  have aN:∀r:Id,r.1≠42->r.1≠60->r∉aA a1++[((60,g):Id)]:=(by grind)
  obtain⟨ls,gs,an⟩:=z.gs
  obtain⟨lt,ag,S⟩:=z.gt
  have W6:Wk Y6 (60,g) p (al++[x]) (n+k*bS (m+1)+1) (.m (42,q2)<|L<|al.map eo.c++[aOl]) s3 t3:=by
   refine⟨⟨th,br⟩, .inr ⟨(42,q2),[],by simp,by grind⟩,⟨ls,gs.fx aa<|λr j=>aN r (by grind [Wk.ss])<|by grind [Wk.ss],an⟩,⟨lt,ag.fx aa<|λr j=>aN r (by grind [Wk.st])<|by grind [Wk.st],S⟩,by simp;omega,F6.len.trans<|F5.len.trans<|F4.len.trans z.le,rfl,by simp[aA],z.ss,z.st⟩
  have a5:bK Y (42,q2):=bw.old Z
  have ad:∀{B:ae} {N:Nat} {M E G:AV} {l':List eo} {d:Nat} {K:be},Wk B (60,g) p (al++[x]) N M E G->shL m 4 l'->N<=n+k*bS (m+1)+(1+4*bS m)->Fx Y B ((60,g)::(aA a++(aA s++aA t)))->(∀q∈aA M,q∈aA a\/bK Y q)->(∀q∈aA E,q∈aA s\/bK Y q)->(∀q∈aA G,q∈aA t\/bK Y q)->
    (∀(e ln:Int) (H s9 t9:AV) (C:ae),Wk C (60,g) p (al++[x]) (N+4*bS m) H s9 t9->Fx B C ((60,g)::(aA M++(aA E++aA G)))->Fx Y C ((60,g)::(aA a++(aA s++aA t)))->(∀q∈aA H,q∈aA a\/bK Y q)->(∀q∈aA s9,q∈aA s\/bK Y q)->(∀q∈aA t9,q∈aA t\/bK Y q)->K (.t [iv e,iv ln]) C)->cB 219 [.p (60,g) 0 0,sl eo.c l'] B d K:=by
   intro B N M E G l' d K A am hN X aw O P hK
   have h4:L l'*bS m<=4*bS m:=qo _ am.1
   refine jH rfl (ih A ⟨by have:=am.1;omega,am.2⟩<|by omega) ?_
   rintro r C ⟨e,ln,H,s9,t9,rfl,R,w,v1,v2,v3⟩
   refine⟨w.len,hK e ln H s9 t9 C (R.mono<|by omega) w ((X.trans w).mono λr j=>?_) (λq o=>(v1 q o).elim (aw q) λh=> .inr<|h.old X) (λq o=>(v2 q o).elim (O q) λh=> .inr<|h.old X)<|λq o=>(v3 q o).elim (P q) λh=> .inr<|h.old X⟩
   rcases dF.1 j with h|h
   ·exact .inl h
   ·simp only[eW,dF] at h⊢
    rcases h with h|h|h|h
    ·grind
    ·exact(aw r h).elim (by grind) λh=> .inr h.no
    ·exact(O r h).elim (by grind) λh=> .inr h.no
    ·exact(P r h).elim (by grind) λh=> .inr h.no
  simp only[u0,u1,b6,gw,aj,↓uL]
  refine ad W6 g1 (by omega) ba (by simp[aA];exact .inr a5) aR aT λe' ln H s9 t9 C R G9 w v1 v2 v3=>?_
  have b9:=G9.keep _ _ (n7 W6 v) b6
  simp only[qz 16,rr,aY,↓uL]
  refine bjf (λf=>∀(e ln:Int) {B:ae} {N:Nat} {M E G:AV},Wk B (60,g) p (al++[x]) N M E G->N<=n+k*bS (m+1)+(1+8*bS m)->Fx Y B ((60,g)::(aA a++(aA s++aA t)))->(∀q∈aA M,q∈aA a\/bK Y q)->(∀q∈aA E,q∈aA s\/bK Y q)->(∀q∈aA G,q∈aA t\/bK Y q)->f [iv e,iv ln] B) ?_ λf ap=>?_
  ·intro e ln B N M E G A hN X aw O P
   obtain⟨th,ak⟩:=A.bx
   have e1:dq.wrap (((L al+1:Nat):Int)-1)=(L al:Int):=by grind [eM]
   simp only[qz 99,aI,oo ak,u0,u1,ak,yr,C5,yd,aj,A.ga.ln,bJ,a6G,bZ,vw,e1,↓uL]
   refine slP A.ga (by omega) (by simp;omega) λH g9 i9=>?_
   have ht:((al++[x]).map eo.c).take ((L al:Int).toNat)=al.map eo.c:=by simp
   rw[ht] at g9
   refine A0 ak g9.ce (by simp) λC w b9=>?_
   have d9:∀r:Id,r.1≠60->r∉[((60,g):Id)]:=(by grind)
   obtain⟨ls,gs,an⟩:=A.gs
   obtain⟨lt,ag,S⟩:=A.gt
   have R:Wk C (60,g) p al N H E G:=⟨⟨th,b9⟩,g9.fx w<|λr j=>(by grind [Wk.sa]),⟨ls,gs.fx w<|λr j=>(by grind [Wk.ss]),an⟩,⟨lt,ag.fx w<|λr j=>(by grind [Wk.st]),S⟩,bp,w.len.trans A.le,rfl,λr j=>A.sa r<|i9▸j,A.ss,A.st⟩
   have aK:Fx Y C ((60,g)::(aA a++(aA s++aA t))):=(X.trans w).mono λr j=>by
    rcases dF.1 j with h|h
    ·exact .inl h
    ·exact .inl (by simp at h;simp[h])
   have u9:∀q∈aA H,q∈aA a\/bK Y q:=(by grind)
   simp only[qz 20,au,u0,u1,↓uL]
   refine⟨λ_=>aO _ _ _ _ _ _ (R.mono<|by omega) aK u9 O P,λ_=>?_⟩
   refine dR (mk:=λ(_:Unit) i=>[iv i]) (s:=()) (s':=()) (λ_ _=>rfl) ao (by have:=hs.1;omega) ⟨H,E,G,R.mono ?_,aK,u9,O,P⟩
   grind [tN,bS]
  simp only[qz 101,u0,u1,b9,gw,aj,↓uL]
  refine⟨λ_=>?_,λ_=>ap _ _ R (by omega) w v1 v2 v3⟩
  refine ad R g2 (by omega) w v1 v2 v3 λe2 cs cn ct cu cm bg cl a7 w1 w2 w3=>?_
  simp only[qz 18,rr,aY]
  exact ap _ _ bg (by omega) a7 w1 w2 w3
theorem baR(i:PrB p){m:Nat}{l:List eo}(W:Wk Y b p al n a s t)(k:shL m 8 l)(j:n+L l*bS m<100000){d:Nat}{K:be}(y:∀(e ln:Int) (g s' h:AV) f,Wk f b p al (n+L l*bS m) g s' h->Fx Y f (b::(aA a++(aA s++aA t)))->(∀q∈aA g,q∈aA a\/bK Y q)->(∀q∈aA s',q∈aA s\/bK Y q)->(∀q∈aA h,q∈aA t\/bK Y q)->K (.t [iv e,iv ln]) f):cB 219 [.p b 0 0,sl eo.c l] Y d K:=by refine jH rfl (bc8 i m W k j) ?_;rintro r f ⟨e,ln,g,s',h,rfl,o,u,v,w,x⟩;grind [Fx.len]
end
def a7A:dO:=aYb
def a7k:eJ a7A:=aTC
def aWi:=@aQU
section
attribute[local irreducible] aX
def a87:=bA 37 [(18,([8,9],[1])),(28,([11],[1,10]))]
def a0x a b R:=(.mk _:NR a7A a87 Tryz.f170 [.u] [a] b R).p
def bgF{c0:List AV}{R:o8}(l0:L c0=2)(h:H1 197 2 1 c0 λia b=>a0x ia b R):Ct 170 [.a c0] R:=z1 a87 a7k Tryz.func170 l0 h
end
def bdo{p:xr}(f:shP p):Ct 170 [.a p.c] aQ1:=by
 have g:=f.1
 have R:=g.1
 have h2:=g.2.1
 refine bgF rfl λs2 S j h0=>?_
 simp+contextual only[a0x,u0,u1,j,gw,aj,ar,Fa,aWi,f,R,g,rr,aO2,NA,↓uL]
 intros
 refine yh (λs:Int×Nat=>[iv s.1,iv s.2]) 1 (L p.ay) (λ_=>True) (0,0) trivial ?_
 rintro⟨c,k⟩ _
 simp+contextual only[qz 109,aI,au,u0,u1,j,rk,gw,aj,Ca,bh,ar,aWi,rr,aO2,NA,↓uL]
 refine⟨λh=>⟨vp h,⟨4,(f.2.2 _<|dB<|aL h).2⟩,λx=>wN (enc:=λs:Int×Nat=>[iv s.1,iv s.2]) (s:=(c,k)) (s':=(_,k+1)) (by rw[fX<|by grind]) rfl rfl (aL h) trivial⟩,λ_ _=>?_⟩
 have z:bM bnH [(0,2),(2,1),(3,1),(4,1),(5,1)] [(0, .a p.c)]=V (.a [sl asq.c p.A7,sl xt.c p.ay,iv 0, .l [] U U, .l [] U U, .l [] U U]):=rfl
 simp only[z,aY]
 refine bxL rfl (by decide) (by omega) λv F o N3 N=>?_
 have A:L F=4096:=o.len.trans S
 have W3:Wk F (60,v) p [] 0 (.l [] U U) (.l [] U U) (.l [] U U):=⟨⟨0,N⟩, .inl ⟨rfl,rfl⟩,⟨[], .inl ⟨rfl,rfl⟩,by simp⟩,⟨[], .inl ⟨rfl,rfl⟩,by simp⟩,by simp,A,rfl,by simp[aA],by simp[aA],by simp[aA]⟩
 have c3:=o.kq j
 refine yV (L p.ay) (λk _ Y=>∃a s t,Wk Y (60,v) p [] (k*10000) a s t/\box Y (1,1)=V ⟨197,2,U,U,[p.c]⟩) (by grind) ?_
 rintro k _ Y hk ⟨a,s,t,W,q⟩
 obtain⟨th,m⟩:=W.bx
 simp only[qz 169,aI,au,u0,u1,q,oo m,m,gw,aj,rr,aO2,NA,aNR,↓uL]
 intro h
 have d:=aL h
 have E:=f.2.2 _<|dB d
 have ab:=f.2.1
 refine A0 m rfl (by simp) λX b O=>?_
 have u:=b.kq q
 have H:Wk X (60,v) p [] (k*10000) a s t:=by
  obtain⟨ls,w,B⟩:=W.gs
  obtain⟨T,y,n⟩:=W.gt
  have d9:∀r:Id,r.1≠60->r∉[((60,v):Id)]:=(by simp_all)
  exact⟨⟨k,O⟩,W.ga.fx b<|λr D=>(by grind [Wk.sa]),⟨ls,w.fx b<|λr D=>(by grind [Wk.ss]),B⟩,⟨T,y.fx b<|λr D=>(by grind [Wk.st]),n⟩,W.la,b.len.trans W.le,rfl,W.sa,W.ss,W.st⟩
 simp only[qz 6,u0,u1,u,rk,gw,aj,Ca,bh,↓uL]
 have aa:bS 4=585:=rfl
 have hm:L (gd p.ay k).body*bS 4<=8*bS 4:=qo _ E.2.1
 refine⟨dJ d,baR g H E.2 (by omega) λe ln M s' Z s5 K G _ _ _=>?_⟩
 have P:=G.keep _ _ (λC=>by
  simp only[eW,dF,iK] at C
  rcases C with h|h|h|h
  ·omega
  ·have:=W.sa _ h;simp at this
  ·have:=W.ss _ h;simp at this
  ·have:=W.st _ h;simp at this) u
 simp only[qz 8,au,u0,u1,rr,aO2,NA,I9,↓uL]
 exactλ_=>dR (mk:=λ(_:Unit) i=>[iv i]) (s:=()) (s':=()) (λ_ _=>rfl) d (by omega) ⟨M,s',Z,K.mono (by omega),P⟩
def a59{p:xr}(f:shP p):∃x:Int×Int,Ct 170 [.a p.c] (·= .t [iv x.1,iv x.2]):=by obtain⟨r,⟨e,l,rfl⟩,b,d⟩:=bdo f;exact⟨(e,l),_,rfl,b,d⟩
noncomputable def chk(p:xr):Int×Int:=@dite _ (shP p) (Classical.propDecidable _) (λh=>Classical.choose<|a59 h) λ_=>(0,0)
def aW1(p:xr)(b:shP p):Ct 170 [.a p.c] (·= .t [iv (chk p).1,iv (chk p).2]):=by rw[chk,dif_pos b];exact Classical.choose_spec<|a59 b
def aRi:FT:=mT aW1
def bbJ{p Lw K}:=f110 aRi aW1 p Lw K (j:=by simp+contextual only[ij,Nb])
def a7B:dO:=(170,aRi)::a7A
def aX4:eJ a7B:=it (pg aW1)<|a7k
def aWj:=ai @bbJ<|@aWi
section
attribute[local irreducible] aX
def a9E:=bA 11 [(3,([0,2,10],[1,3]))]
def aSv a b c d s0 R:=(.mk _:NS a7B a9E Tryz.f221 [a,b,c,d] [] s0 R).p
def a7U{a b c d:AV}{s0:ae}{R:be}(e:L s0=4096)(h:aSv a b c d s0 R):EB 221 [a,b,c,d] s0 R:=zB a9E aX4 Tryz.func221 h
def a9q:=bA 32 [(8,([6],[1,2,3])),(11,([],[1,2,3,6])),(14,([39],[1,2,3,6,7,31])),(17,([8],[1,2,3,6,7])),(21,([65],[1,2,3,6,7,31])),(26,([9],[1,2,3]))]
def a1P a b R:=(.mk _:NR a7B a9q Tryz.f171 [.u] [a] b R).p
def bgY{c0:List AV}{R:o8}(l0:L c0=2)(h:H1 197 2 1 c0 λia b=>a1P ia b R):Ct 171 [.a c0] R:=z1 a9q aX4 Tryz.func171 l0 h
end
end Go.Ab
