/- Part of the proof of EncodeIndex, made short by a program. -/
import Derived.Test.YtmilgmjhdfijjaaGreatDoorC
import Derived.Laws.RangeString
import Derived.Laws.RangeAny
set_option linter.all false
set_option maxRecDepth 100000
open And renaming intro->ai
open Bool renaming and_eq_false_iff->pk,and_eq_true->bN,and_false->qc,and_true->ru,false->I,false_and->kM,false_eq_true->eE,false_or->lG,not_eq_false'->fK,not_eq_true'->eH,not_false->kN,not_true->fh,or_eq_false_iff->cP,or_eq_true->fH,or_false->kz,or_true->wY,true->U,true_and->iw,true_eq_false->sr
open Decidable renaming decide->Q,not_not->aNS
open Eq renaming mpr->aND
open Go.Code renaming region->BM,ret->ET
open Go.IntKind renaming i64->dq
open Go.Proofs.Tryz renaming f98->CI,func98->So,ntmps98->arJ,prog->aS
open Go.Value renaming bool.injEq->mV,int.injEq->mW,string.injEq->mX
open Int renaming toNat_natCast->bh,toNat_of_nonneg->kA
open List renaming all_cons->Cs,all_eq_true->dV,all_nil->aqG,any_eq_true->tL,append_assoc->cC,append_inj->aqH,append_nil->cL,cons.injEq->kO,cons_append->zn,drop->aOz,drop_succ_cons->nM,drop_zero->ip,ext_getElem->zp,filter_append->me,findIdx?_isSome->RM,getD_eq_getElem?_getD->eI,getElem?_eq_getElem->eC,getElem?_set_ne->oq,getElem_of_mem->ou,length->L,length_append->P8,length_cons->bZ,length_filter_le->fZ,length_map->bJ,length_nil->vw,length_pos_iff->aqS,length_replicate->oA,length_set->zq,map_append->dg,map_congr_left->ja,map_cons->ji,map_map->vA,map_nil->mU,mem_append->dF,mem_cons->eW,mem_map->dN,mem_range->fq,mem_singleton->cE,nil_append->dW,not_mem_nil->ql,range->aH,replicate->er,take_append_drop->aq0,take_length->gV,take_of_length_le->oB,take_succ_eq_append_getElem->iJ,take_zero->CE
open Nat renaming add_zero->kP,eq_zero_or_pos->oD,le_antisymm->bP,le_refl->dA,le_trans->gl,lt_of_le_of_lt->rC,lt_of_lt_of_le->C3,lt_or_ge->jj,reduceAdd->dc,zero_add->aj
open Option renaming bind_some->qd,getD_some->mi,isSome_iff_exists->zz,map_some->df,none->J,some->V,some.injEq->bE
namespace Go.Ab
open Go Go.RowKit Go.Proofs
def NH(w:br)(i:Int)(b:Bool):Ct 78 [.a w.c,iv i,bv b] (·=bv (dh i (L w.ak)&&((gd w.ak i.toNat).rw==b))):=by refine aJX rfl λs0 f d e=>?_;simp+contextual only[aYG,u0,u1,d,rk,ix,ar,aQS,cT,aj,DR,oe,vg,↓uL];done
def EV:FT:=za NH
def axV{w i b Lw K}:=KP EV NH w i b Lw K
def Ow(w:br)(s:aW)(f:lh w s=U/\L w.bC<=2):Ct 80 [.a w.c, .a s.c] (·=bv U):=by refine aK4 rfl rfl λs0 o b j u=>?_;obtain⟨n,q,r,t⟩:=iY f.1;have p:=f.2;simp+contextual only[Io,u0,u1,b,j,rk,ix,cT,aj,↓uL];refine⟨(by simp_all),λ_=>?_⟩;refine pQ (L w.bC) [6] (λk=>True) trivial λk Y x v e=>?_;have d:box Y (2,1)=_:=e.bt b;simp+contextual only[Ip,u0,u1,d,ix,rk,bh,au,aI,aj,↓uL];refine⟨λh=>⟨bA h,?_⟩,λh=>trivial⟩;refine eF rfl rfl (by decide) (by rw[e.1,o];decide) λi g l=>?_;have m:box i (2,1)=_:=g.bt d;simp+contextual only[aa8,Ip,Io,u0,u1,m,l,rk,ar,aQS,cT,aj,au,↓uL];have y:dh (gd w.bC k).eg (L w.ak)=U:=dX.2 (n _ (dB (aL h)));grind [oL,aL,Fr.trans]
def zf:FT:=gz Ow
def ayt{w s Lw K}:=gX zf Ow w s Lw K
def Ox(w:br)(b bb:Int):Ct 181 [.a w.c,iv b,iv bb] (·=bv (named w b bb)):=by refine aK5 rfl λg f d e=>?_;simp only[aa9,↓uL];simp only[f8,abm,iM,aY,sw,↓uL];simp only[abf,aI,au,↓uL];simp only[f8,abh,iM,aY,sw,↓uL];simp only[aba,aI,au,↓uL];simp only[f8,abi,iM,aY,sw,↓uL];simp only[abb,aI,au,↓uL];simp only[f8,abj,iM,aY,sw,↓uL];simp only[abc,aI,au,↓uL];simp only[f8,abk,iM,aY,sw,↓uL];simp only[abd,aI,au,↓uL];simp only[f8,abl,iM,aY,sw,↓uL];simp only[abe,aI,au,↓uL];simp only[f8,abn,iM,aY,sw,↓uL];simp only[abg,aI,au,↓uL];simp+contextual only[↓iC,↓iB,↓iS,u0,u1,aQS,ar,d,rk,ix,cT,aj,named,asq,aOl,DR,oe,vg,↓uL]
def Ft:FT:=za Ox
def ayu{w kind bb Lw K}:=KP Ft Ox w kind bb Lw K
theorem aE7{l:List Int}{n:Int}:Q (0<=oW l n)=Q (n∈l):=by grind [oW,decide,RM,tL,zz,List.findIdx?_eq_none_iff,decide_eq_false_iff_not]
def PN(l:List Int)(n:Int)(b:L l<4611686018427387904):Ct 217 [sl ci l,iv n] (·=bv (Q (n∈l))):=by refine aMz λs0 _ a=>?_;simp+contextual only[aj1,u0,u1,ar,aQS,↓uL];grind [aE7]
def zl:FT:=gz PN
def azz{l n Lw K}:=gX zl PN l n Lw K
def aFl{s:ByteArray}{Y:ae}{d:Nat}{K:be}(a:d<L Y)(c:∀Y',Fr Y Y' [d]->box Y' (d,(aZ Y d).lB+1)=V ⟨0,0,U,I,[[st s,iv 0]]⟩->K (.g 1 (d,(aZ Y d).lB+1) 0 0) Y'):eV (tu Y d (st s)) K:=by have b:tu Y d (st s)=V (.g 1 (d,(aZ Y d).lB+1) 0 0,put Y d ⟨0,0,U,I,[[st s,iv 0]]⟩):=(by simp[tu,y7,a,lA]);rw[b];exact c _ ⟨D3,λk f=>yk (λe=>f (by simp[e]))⟩ (zQ a rfl)
def aEA{s:ByteArray}{Y:ae}{b:Id}{p o n:Nat}{K:be}(a:box Y b=V ⟨0,0,U,I,[[st s,iv p]]⟩)(i:b.1<L Y)(c:p<s.size->∀Y',Fr Y Y' [b.1]->box Y' b=V ⟨0,0,U,I,[[st s,iv ((p+(Utf8.decode s p).2:Nat):Int)]]⟩->K (.t [bv U,iv p, .s (.int .i32 (Utf8.decode s p).1)]) Y')(d:s.size<=p->K (.t [bv I]) Y):eV (se Y (.g 1 b o n)) K:=by unfold se;simp only[a,vg,vm,bh];by_cases h:p<s.size;rw[bX h];exact c h _ ⟨uC,λk f=>wy (λe=>f (by simp[e]))⟩ (lO a);rw[cj h];exact d (by omega)
def av3{a b:Int}:wl .leq 0 [] (.s (.int .i32 a)) (.s (.int .i32 b))=V (bv (Q (a<=b))):=rfl
def avW{a b:Int}:wl .eql 0 [] (.s (.int .i32 a)) (.s (.int .i32 b))=V (bv (Q (a=b))):=rfl
def DV(s:ByteArray)(b:Id):bu:=λ_ Y=>match box Y b with|some ⟨_,_,_,_,[[_, .s (.int _ p)]]⟩=>s.size-p.toNat|_=>0
def aB7{c:Int}(h:oO c=U):c<128:=by grind [oO,wx,zY]
def PQ(s:ByteArray)(w:aQt s=U):Ct 127 [st s] (·=bv U):=by refine aMH λs0 u C=>?_;have e:=w;simp only[aQt,bN,eH,mn,cP,fK,nl] at e;obtain⟨⟨⟨⟨p1,G⟩,H⟩,x⟩,y⟩:=e;simp+contextual only[ake,u0,u1,Qm,ar,aQS,x,↓uL];refine⟨λh=>?_,λ_=>?_⟩;grind;refine aFl (by omega) λB n q=>?_;generalize(aZ s0 18).lB+1=v at*;refine⟨λvs Y=>∃p:Nat,vs=[]/\p<=s.size/\box Y (18,v)=V ⟨0,0,U,I,[[st s,iv p]]⟩/\L Y=4096,DV s (18,v),⟨0,rfl,by omega,q,by rw[n.1,u]⟩,?_⟩;rintro vs Y ⟨p,rfl,A,r,l⟩;simp only[akf,aI,↓uL];refine aEA r (by omega) (λa f o g=>?_) (λz=>?_);have b:=y p a;have k:rI s p=((s[p]'a).toNat:Int):=(by simp[rI,a]);have i:(s[p]'a).toNat<128:=(by have:=aB7 b;omega);have j:=decode_ascii s p a i;rw[j] at g⊢;simp only at g⊢;rw[<-k];have d:(∃p:Nat,True/\p<=s.size/\box f (18,v)=V ⟨0,0,U,I,[[st s,iv p]]⟩/\L f=4096)/\DV s (18,v) [] f<DV s (18,v) [] Y:=(by refine⟨⟨p+1,trivial,by omega,g,by rw[o.1,l]⟩,?_⟩;grind [DV,bh]);generalize F:rI s p=c at*;have m:p=0->wx c=U:=(by grind);simp+contextual only[JV,oJ,pG,KM,u0,u1,av3,avW,↓uL];refine⟨λ_=>⟨λ_=>d,λD=>⟨λ_=>d,λE=>?_⟩⟩,λh=>(nomatch h)⟩;exfalso;have t:oO c=U:=b;simp only[oO,wx,zY] at t m;grind;simp only[JV,oJ,u0,u1,↓uL];simp
def Gh:FT:=mT PQ
def azC{s Lw K}:=oK Gh PQ s Lw K
def Ot(w:am)(q:Int)(hp:L w.ac<100000/\(aF (L w.ac) q->((gd w.ac q.toNat).kind=23->aF (L w.init.bm.done) (gd w.ac q.toNat).bb/\aF (L w.init.bU) (gd w.ac q.toNat).bb)/\((gd w.ac q.toNat).kind=3->aF (L w.init.cells) (gd w.ac q.toNat).bb))):Ct 83 [.a w.c,iv q] (λr=>∃t,r= .l ((dx w q).map ci) t U):=by refine aK0 rfl λs2 hl F h0=>?_;simp+contextual only[aaH,u0,u1,F,ix,rk,aj,ar,cT,↓uL];have N:(Q (q<0)||Q ((L w.ac:Int)<=q))=!dh q (L w.ac):=(by grind [dh]);rw[N];refine⟨λh=>?_,λh=>?_⟩;simp only[eH] at h;have:dx w q=[]:=(by simp[dx,h]);rw[this];exact⟨rfl,U,rfl⟩;simp only[fK] at h;have hi:=h;have X:=dX.1 h;obtain⟨aB,S⟩:=hp;obtain⟨T,W⟩:=S X;refine⟨X,eF rfl rfl (by decide) (by omega) λs B G=>?_⟩;have H:box s (2,1)=_:=B.bt F;have P:L s=4096:=(by rw[B.1,hl]);generalize(aZ s2 5).lB+1=v at*;have x:∀a Y (m:List Int) (d:Int),L m<=1->dx w q=m++fw (mr w q) (L w.ac)->(((gd w.ac q.toNat).kind=3/\d=4)\/((gd w.ac q.toNat).kind=23/\d=22))->Fr s Y [105,40,65]->Gr Y [105,40,65] 3 1 a (m.map ci)->aaK (.p (2,1) 0 0) (.p (5,v) 0 0) (iv q) (λr=>∃t,r= .l ((dx w q).map ci) t U) [a,iv d] Y:=(by intro a Y m d aC M ap e G4 _;have d1:box Y (2,1)=_:=e.bt H;have d3:box Y (5,v)=_:=e.bt G;simp only[u0,u1,d1,rk,aj,cT,au,↓uL];refine iu (λa i=>[a,iv i]) 1 [105,40,65] [105,40,65,9] 3 1 (L w.ac) (λk=>(m++fw (mr w q) k).map ci) (λ_=>True) trivial (by grind [fw]) λk E Y' az _ hG u=>?_;have e3:box Y' (5,v)=_:=u.bt d3;have R:L Y'=4096:=(by rw[u.1,e.1,P]);simp only[aaN,aI,di,u0,u1,aaL,ix,rk,bh,au,ck,↓uL];refine⟨λh=>⟨bA h,?_⟩,λh=>?_⟩;refine eF rfl rfl (by decide) (by omega) λD n b2=>?_;have f3:box D (5,v)=_:=n.bt e3;have aD:=qX (mr w q) k;have g:mr w q k=I->CO [E,iv k] (hI (λa i=>[a,iv i]) Y [105,40,65] [105,40,65,9] 3 1 (L w.ac) (λk=>(m++fw (mr w q) k).map ci) (λ_=>True)) (gM 1 (L w.ac)) Y' [E] D:=(by intro j;simp only[CO,aI,au,ck,cS,aY,↓uL];refine C0 (mk:=λa i=>[a,iv i]) (λ_ _=>rfl) (aL h) (by omega) trivial ?_ (u.trans (n.mono (by decide)));grind [yJ,Gr.fr]);simp+contextual only[aaI,u0,u1,f3,b2,rk,aj,ar,iz,au,ck,↓uL];have ay:mr w q k=(!(Q ((gd w.ac k).kind≠d)||Q ((gd w.ac k).bb≠(gd w.ac q.toNat).bb)||Q ((gd w.ac k).value≠(gd w.ac q.toNat).value))&&(Q ((gd w.ac k).aq≠(gd w.ac q.toNat).aq)||Q ((k:Int)<q))):=(by rw[Bool.eq_iff_iff];have aA:(k:Int)=q->(gd w.ac k).kind=(gd w.ac q.toNat).kind:=(by grind);simp only[mr,aTG,bN,fH,mn,eH,cP,pk,nl,aN2,aNS];grind);refine⟨λj=>?_,λj=>⟨λK=>?_,λK=>?_⟩⟩;exact g (by grind);have ax:mr w q k=U:=(by simp_all);refine fP (hG.fr n (by decide)) rfl (by decide) (by decide) (by rw[n.1,R];decide) pU (by simp) (by grind) λa2 Y3 g3 C=>?_;simp only[CO,aI,au,ck,cS,aY,↓uL];refine C0 (mk:=λa i=>[a,iv i]) (λ_ _=>rfl) (aL h) (by omega) trivial ?_ (u.trans ((n.mono (by decide)).trans (C.mono (by decide))));grind [Bo];exact g (by simp_all);have O:k=L w.ac:=(by grind);subst O;rw[M];grind [qV]);have ab:∀b,oM w (gd w.ac q.toNat)=b->fR (gd w.ac q.toNat)=U->dx w q=(bif b then[-1] else[])++fw (mr w q) (L w.ac):=(by grind [dx]);simp+contextual only[aaJ,di,aaM,u0,u1,H,G,rk,ix,aj,dc,ar,iz,↓uL];refine⟨λZ=>?_,λZ=>⟨λy=>?_,λy=>?_⟩⟩;have o:=nt Z;refine⟨W o,λj=>?_,λj=>?_⟩;refine fP (aa:=[]) (ds:=[105,40,65]) (new:=[ci (-1)]) Gr.nil rfl (by decide) (by decide) (by omega) (by simp) (by simp) (by decide) λa A z e=>?_;exact x a A [-1] 4 (by simp) (by grind [oM,decide,gd,fR]) (.inl ⟨o,rfl⟩) e z;exact x _ s [] 4 (by simp) (by grind [oM,decide,gd,fR]) (.inl ⟨o,rfl⟩) (Fr.refl _ _) Gr.nil;have f:=nt y;obtain⟨o1,o2⟩:=T f;refine⟨o1,λ_=>o2,λj=>?_,λj=>?_⟩;refine fP (aa:=[]) (ds:=[105,40,65]) (new:=[ci (-1)]) Gr.nil rfl (by decide) (by decide) (by omega) (by simp) (by simp) (by decide) λa A z e=>?_;exact x a A [-1] 22 (by simp) (by grind [oM,fR]) (.inr ⟨f,rfl⟩) e z;exact x _ s [] 22 (by simp) (by grind [oM,fR]) (.inr ⟨f,rfl⟩) (Fr.refl _ _) Gr.nil;have hr:fR (gd w.ac q.toNat)=I:=(by grind [fR]);have:dx w q=[]:=(by simp[dx,hr]);rw[this];exact⟨rfl,U,rfl⟩
def Fq:FT:=pn Ot
def ayq{w q Lw K}:=rQ Fq Ot w q Lw K
structure jY where
 w:am
 ss:List aW
 deriving Inhabited,DecidableEq
def jY.c(x:jY):List AV:=x.w.c++[sl aW.c x.ss]
def j9{x y:jY}:(jY.c x=jY.c y)=(x=y):=by apply vb;constructor;intro h;obtain⟨d,xs⟩:=x;obtain⟨e,ys⟩:=y;have a:d.c=e.c:=(aqH h (by simp[am.c])).1;have b:=(aqH h (by simp[am.c])).2;simp only[NA] at a;simp only[kO,o8,amV] at b;rw[a,b];intro h;rw[h]
def apj:dO:=(78,EV)::(80,zf)::(181,Ft)::(217,zl)::(127,Gh)::(83,Fq)::api
def rf:eJ apj:=it (Rs NH) (it (aCb Ow) (it (Rs Ox) (it (aCb PN) (it (pg PQ) (it (aN0 Ot) (sf))))))
def rW:=ai @axV<|ai @ayt<|ai @ayu<|ai @azz<|ai @azC<|ai @ayq<|@aQS
abbrev aOO:List AV:=[(sv []),(bv I)]
def asy:=bi 31 [(5,([5,19],[2,17,18])),(12,([5,32],[2,30,31])),(22,([53],[10,51,52]))]
def aYI d(f:aG)(e:bu) g b a:=aV (gt d 1) (iv 1) λc=>f [b,c] a/\e [b,c] a<e d g
def aYJ c b g h i a:=ab 0 a c λe=>eV (aX C9 1 a [(0,e)]) λf d=>eV (j5 9 zz9 16 d 27 (gt b 0) f) (aYI b g h i)
def SL a(f:aG)(b:bu) g d c:=aV (gt a 1) (iv 1) λe=>f [d,e] c/\b [d,e] c<b a g
def aYK c a d e f b:=ab 0 b c λh=>eV (aX C9 1 b [(0,h)]) λi g=>eV (j5 9 zz9 16 g 40 (gt a 0) i) (SL a d e f)
def SN a(e:aG)(b:bu) f c:=aV (gt a 0) (iv 1) λd=>e [d] c/\b [d] c<b a f
def SS i h e R f g b a:=∀_:Rg,aU (gt b 0) i λj=>ah j (ao 1 a h (gt b 0) λk=>aM a k λd=>fV Gh a [d] λl=>cf l λc=>ic c e λm=>ic c d λn=>aC c (rV (oP ⟨I,[],(.bool I)⟩ a m n I)) λo=>aD c (bv U) o λp=>ah p (aE R a [(bv I)]) (sV (muA ⟨I,[],(.bool I)⟩ a e d (bv U)) (SN b f g a))) (aE R a [(bv U)])
def SO b R c a:=aJ a b λd=>lV [(iv 0)] a (SS d b c R)
def SP f R c a:=ab 4 a f λd=>eV (j5 9 zz9 16 a 49 c d) λe b=>eV (oS 223 b 50) (SO e R)
def SR i h d R e f b a:=∀_:Rg,aU (gt b 1) i λj=>ah j (ao 2 a h (gt b 1) λk=>aw 2 a k λl=>eV (bs 126 aPp a 9) λc g=>sV (aK 2 g c l) (aYK c b e f a)) (ab 3 a d λm=>eV (j5 9 zz9 16 a 45 (gt b 0) m) (SP d R))
def SU n m e R k l b a:=∀_:Rg,aU (gt b 1) n λg=>ah g (ao 2 a m (gt b 1) λh=>aw 2 a h λi=>eV (bs 124 aOO a 7) λc f=>sV (aK 2 f c i) (aYJ c b k l a)) (ab 2 a e λd=>aJ a d λj=>lV [(gt b 0),(iv 0)] a (SR j d e R))
def SQ a R t3 b:=ab 1 b a λc=>aJ b c λd=>lV [t3,(iv 0)] b (SU d c a R)
def aYH a b c R:=eV (j5 9 zz9 16 c 15 (.l [] U U) b) (SQ a R)
def aJZ{b:List AV}{c:AV}{R:d7}(l0:L b=6)(h:H1 31 6 2 b λd e=>aYH d c e R):Ct 77 [.a b,c] R:=z1 asy rf Tryz.func77 l0 h
def avk:=bi 2 []
def akI e d a R:=aw 6 a e λw=>aB 0 a d λx=>aw 4 a x λy=>fV zf a [w,y] λf=>aT f 4 a d λg=>az f (aJ a g) λh=>aT f 0 a e λi=>az f (aJ a i) λj=>az f (bf h j) λk=>aD f k (bv I) λb=>aT b 5 a d λl=>az b (aJ a l) λm=>aT b 3 a e λn=>az b (aJ a n) λo=>az b (bf m o) λp=>aD b p (bv I) λc=>aT c 6 a d λq=>az c (aJ a q) λr=>aT c 4 a e λs=>az c (aJ a s) λt=>az c (bf r t) λu=>aD c u (bv I) λv=>aE R a [v]
def aMP{b:List AV}{c:List AV}{R:d7}(l0:L b=6)(l1:L c=7)(h:H2 31 6 2 b 40 7 3 c λd e f=>akI d e f R):Ct 36 [.a b, .a c] R:=z2 avk rf Tryz.func36 l0 l1 h
def avf:=bi 2 []
def akt e d a R:=aw 6 a e λw=>aB 0 a d λx=>aw 4 a x λy=>fV zf a [w,y] λf=>aT f 4 a d λg=>az f (aJ a g) λh=>aT f 0 a e λi=>az f (aJ a i) λj=>az f (bf h j) λk=>aD f k (bv I) λb=>aT b 5 a d λl=>az b (aJ a l) λm=>aT b 3 a e λn=>az b (aJ a n) λo=>az b (bf m o) λp=>aD b p (bv I) λc=>aT c 6 a d λq=>az c (aJ a q) λr=>aT c 4 a e λs=>az c (aJ a s) λt=>az c (bf r t) λu=>aD c u (bv I) λv=>aE R a [v]
def aMK{b:List AV}{c:List AV}{R:d7}(l0:L b=6)(l1:L c=7)(h:H2 31 6 2 b 40 7 3 c λd e f=>akt d e f R):Ct 130 [.a b, .a c] R:=z2 avf rf Tryz.func130 l0 l1 h
def atH:=bi 35 [(9,([60],[2,4,5,6,11])),(22,([109],[2,4,5,6,11]))]
def abH a d P e h R f g:=∀_:Rg,ah (gt g 0) (ab 0 a d λi=>ab 2 a P λj=>ao 2 a j e λk=>ab 1 a k λl=>ao 2 a i l λm=>ab 0 a m λn=>bf n h λo=>aE R a [o]) (bf f (iv 20) λp=>ah p (aO .neq e h λb=>aT b 3 a d λq=>fm b e λr=>az b (ao 3 a q r) λs=>aT b 0 a s λt=>az b (bf t (iv 0)) λu=>aD b u (bv I) λv=>aE R a [v]) (bf f (iv 21) λw=>ah w (aO .neq e h λc=>aT c 3 a d λx=>fm c e λy=>az c (ao 3 a x y) λz=>aT c 0 a z λA=>az c (bf A (iv 5)) λB=>aD c B (bv I) λC=>aE R a [C]) (bf f (iv 22) λD=>ah D (ab 2 a d λE=>ao 1 a E e λF=>aM a F λG=>cf G λH=>aE R a [H]) (bf f (iv 23) λK=>ah K (ab 2 a d λM=>ao 1 a M e λN=>aM a N λO=>aE R a [O]) (aE R a [(bv U)])))))
def abJ d(a:cG):=bf d (iv 16) λb=>ah b (a [b]) (bf d (iv 18) λc=>ah c (a [c]) (bf d (iv 19) λe=>a [e]))
def abI a b e d R c E n:=∀_:Rg,ah (gt n 0) (ab 0 a b λo=>ao 2 a o e λp=>ab 0 a p λq=>bf q d λr=>aE R a [r]) (bf c (iv 9) λs=>ah s (ab 0 a b λt=>ao 2 a t e λu=>ab 1 a u λv=>fV zl a [v,d] λw=>aE R a [w]) (bf c (iv 12) λx=>ah x (ab 1 a b λy=>bf y (iv (-1)) λz=>aE R a [z]) (bf c (iv 13) λA=>ah A (ab 1 a b λB=>bf B d λC=>aE R a [C]) (bf c (iv 14) λD=>ah D (ab 3 a b λf=>ao 3 a f d λg=>ab 2 a g λh=>cf h λi=>aE R a [i]) (bf c (iv 15) λj=>ah j (ab 3 a b λk=>ao 3 a k d λl=>ab 2 a l λm=>aE R a [m]) (jR 22 (abH a b E e d R c) (abJ c)))))))
def abK d(b:cG):=bf d (iv 7) λa=>ah a (b [a]) (bf d (iv 11) λc=>b [c])
def abG G d g f e a R:=bf f (iv 6) λH=>ah H (ab 0 a d λK=>ao 2 a K e λM=>ab 0 a M λh=>bf h (iv (-1)) λi=>aE R a [i]) (bf f (iv 10) λj=>ah j (ab 0 a d λk=>ao 2 a k e λl=>ab 0 a l λm=>bf m (iv (-1)) λc=>aT c 0 a d λn=>fm c e λo=>az c (ao 2 a n o) λp=>aT c 1 a p λq=>az c (aJ a q) λr=>az c (bf r (iv 0)) λs=>aD c s (bv I) λt=>aE R a [t]) (bf f (iv 8) λu=>ah u (ab 0 a d λv=>ao 2 a v e λw=>ab 0 a w λx=>bf x (iv (-1)) λb=>aT b 0 a d λy=>fm b e λz=>az b (ao 2 a y z) λA=>aT b 1 a A λB=>fm b g λC=>az b (fV zl a [B,C]) λD=>az b (cf D) λE=>aD b E (bv I) λF=>aE R a [F]) (jR 9 (abI a d e g R f G) (abK f))))
def aK9{b:List AV}{c:List AV}{d:AV}{e:AV}{f:AV}{R:d7}(l0:L b=6)(l1:L c=4)(h:H2 31 6 5 b 36 4 6 c λg i j=>abG g i d e f j R):Ct 182 [.a b, .a c,d,e,f] R:=z2 atH rf Tryz.func182 l0 l1 h
def avn:=bi 38 [(4,([17],[1,3,15,16])),(17,([6,54],[1,3,15,16,17,52,53])),(30,([89],[3,87,88]))]
def Ka p o y R j(z:aG)(m:bu) A(k:aG)(i:bu) b a:=∀_:Rg,aU (gt b 1) p λq=>ah q (ao 1 a o (gt b 1) λr=>aM a r λd=>aO .leq d (gt b 0) λc=>ic c (.f 81 [] [y]) λs=>ic c d λt=>gE (gP I c) (λl=>cF s [t] a 64 λu n=>l u n) a λv e=>aC c (cf v) λw=>aD c (bv U) w λx=>ah x (aE R e [(bv I)]) (aV (gt b 1) (iv 1) λg=>k [d,g] e/\i [d,g] e<i b a)) (aV (gt j 0) (iv 1) λh=>z [h] a/\m [h] a<m j A)
def akV c h R j G H K e:=ab 0 e c λm=>aO .neq m (iv (-1)) λd=>fm d (.f 81 [] [h]) λn=>aT d 0 e c λo=>gE (gP U d) (λk=>cF n [o] e 29 λp l=>k p l) e λq a=>az d (cf q) λr=>aD d r (bv I) λs=>ah s (aE R a [(bv I)]) (ab 1 a c λt=>aJ a t λu=>aO .gtr u (iv 0) λb=>az b (aB 0 a h) λv=>aT b 1 a v λw=>fm b (gt j 0) λx=>az b (ao 2 a w x) λy=>aT b 1 a y λz=>az b (cf z) λA=>fm b A λg=>bn g 0 a c λB=>aC g (aO .neq B (iv (-1))) λC=>az b (aD g (bv U) C) λD=>aD b D (bv I) λE=>ah E (aE R a [(bv I)]) (ab 1 a c λi=>aJ a i λF=>lV [(iv (-1)),(iv 0)] a (Ka F i h R j G H K)))
def akW h s b R(i:aG)(e:bu) k c:=ab 2 c h λa=>fm a (.f 81 [] [s]) λm=>fm a (gt b 0) λn=>gE (gP U a) (λj=>cF m [n] c 99 λo l=>j o l) c λp d=>az a (cf p) λq=>aD a q (bv I) λr=>ah r (aE R d [(bv I)]) (aV (gt b 0) (iv 1) λg=>i [g] d/\e [g] d<e b k)
def Kb h g l R d e b a:=∀_:Rg,aU (gt b 0) h λi=>ah i (ao 3 a g (gt b 0) λj=>aw 3 a j λk=>eV (bs 105 aNB a 10) λc f=>sV (aK 3 f c k) (akW c l b R d e a)) (aE R a [(bv U)])
def akX F E d R C D g c:=∀_:Rg,aU (gt g 0) F λz=>ah z (ao 2 c E (gt g 0) λA=>aw 2 c A λB=>eV (bs 131 aO9 c 5) λh y=>sV (aK 2 y h B) (akV h d R g C D c)) (aB 7 c d λk=>aB 0 c k λl=>ab 1 c l λm=>aO .neq m (iv (-1)) λa=>fm a (.f 81 [] [d]) λn=>az a (aB 7 c d) λo=>az a (aB 0 c o) λp=>aT a 1 c p λq=>gE (gP U a) (λi=>cF n [q] c 81 λr j=>i r j) c λs b=>az a (cf s) λt=>aD a t (bv I) λu=>ah u (aE R b [(bv I)]) (aB 7 b d λv=>aB 0 b v λw=>ab 3 b w λe=>aJ b e λx=>lV [(iv 0)] b (Kb x e d R)))
def akU b a R:=aB 7 a b λt3=>aB 0 a t3 λt4=>ab 0 a t4 λc=>aJ a c λd=>lV [(iv 0)] a (akX d c b R)
def aMS{b:List AV}{R:d7}(l0:L b=15)(h:H1 43 15 1 b λc d=>akU c d R):Ct 39 [.a b] R:=z1 avn rf Tryz.func39 l0 h
def aD7{t:TypeId}{Y:ae}{d:Nat}{K:be}(a:d<L Y)(c:∀Y',Fr Y Y' [d]->box Y' (d,(aZ Y d).lB+1)=V ⟨t,0,U,U,[[]]⟩->K (.g 0 (d,(aZ Y d).lB+1) 0 0) Y'):eV (oS t Y d) K:=by have b:oS t Y d=V (.g 0 (d,(aZ Y d).lB+1) 0 0,put Y d ⟨t,0,U,U,[[]]⟩):=(by simp[oS,y7,a,lA]);rw[b];exact c _ ⟨D3,λk f=>yk (λe=>f (by simp[e]))⟩ (zQ a rfl)
abbrev yG(l:List ByteArray):List (Value×Value):=l.map λn=>(.string n, .bool U)
theorem av7{a b:ByteArray}(h:a≠b):(a==b)=I:=by obtain⟨a⟩:=a;obtain⟨b⟩:=b;have:a≠b:=λe=>h (by rw[e]);show(a==b)=I;simp_all
def KU{s:ByteArray}:∀{l:List ByteArray} {i:Nat},s∉l->lg ⟨I,[], .bool I⟩ (.string s) (yG l) i=V J
 |[],_,_=>rfl
 |x::l,i,h=>by
  have a:(s==x)=I:=(by grind [av7])
  simp only[yG,ji,lg,pO,a]
  exact KU (by simp_all)
def aDr{Y:ae}{b:Id}{t:TypeId}{s:ByteArray}{l:List ByteArray}{o n:Nat}(a:box Y b=V ⟨t,0,U,U,[(yG l).map ent]⟩)(h:s∉l):oP ⟨I,[], .bool I⟩ Y (.g 0 b o n) (st s) I=V (bv I):=by simp only[oP,ww,a,qd,ul,vg,vm,KG,qR,KU h,eE,aNV]
def aEb{Y:ae}{b:Id}{t:TypeId}{s:ByteArray}{l:List ByteArray}{o n:Nat}{K:ae->Prop}(a:box Y b=V ⟨t,0,U,U,[(yG l).map ent]⟩)(h:s∉l)(c:∀Y',Fr Y Y' [b.1]->box Y' b=V ⟨t,0,U,U,[(yG (l++[s])).map ent]⟩->K Y'):sV (muA ⟨I,[], .bool I⟩ Y (.g 0 b o n) (st s) (bv U)) K:=by simp only[muA,ww,a,ul,vg,vm,KG,qR,KU h];refine c _ ⟨uC,λk d=>wy (λe=>d (by simp[e]))⟩ ?_;rw[lO a];simp
def aBJ{Y:ae}{ds:List Nat}{e:TypeId}{a:AV}{l:List ByteArray}{k:Nat}{K:d7}(b:Gr Y ds e 1 a (l.map cs))(g:k<L l):(rV (cz 1 Y a (iv k)) λt=>rV (kb J Y t) K)=K (st (gd l k)):=by rcases b with⟨c,_⟩|⟨d,v,rfl,_,f⟩;simp_all;simp_all [cz,rV,kb,iE,aN,bT]
def avR{l:List ByteArray}{s:ByteArray}(h:¬0<=tX l s):s∉l:=by grind [decide,RM,tL,zz,tX]
def wB(w:br)(vs:List ByteArray):List ByteArray:=vs++w.ak.map (·.name)++w.bC.map (·.name)++w.bU++w.ay
def NJ(w:br)(vs:List ByteArray)(hp:(∀j,j<L (wB w vs)->yn (wB w vs) j=I)/\L (wB w vs)<=100):Ct 77 [.a w.c,sl cs vs] (·=bv U):=by refine aJZ rfl λs2 hl R h0=>?_;obtain⟨Z,al⟩:=hp;have ad:L vs+L w.ak+L w.bC+L w.bU+L w.ay<=100:=(by grind [wB,P8,bJ]);simp only[aYH,↓uL];refine fP (aa:=[]) (ds:=[15,27,40,45,49]) (new:=vs.map cs) Gr.nil rfl (by decide) (by decide) (by omega) (by simp) oX (by simp;omega) λa0 O g0 z=>?_;have F:box O (2,1)=_:=z.bt R;simp only[SQ,u0,u1,F,rk,aj,dc,cT,↓uL];refine iu (λa i=>[a,iv i]) 1 [15,27,40,45,49] [15,27,40,45,49,7] 9 1 (L w.ak) (λk=>(vs++(w.ak.take k).map (·.name)).map cs) (λ_=>True) trivial (by grind) λk a1 C af _ g1 m=>?_;have G:box C (2,1)=_:=m.bt F;have l1:L C=4096:=(by rw[m.1,z.1,hl]);simp only[SU,aI,u0,u1,G,rk,aj,dc,ix,bh,au,ck,cT,↓uL];refine⟨λt=>⟨bA t,?_⟩,λt=>?_⟩;refine eF rfl rfl (by decide) (by omega) λo d S=>?_;simp only[aYJ,u0,u1,S,rk,aj,iz,au,↓uL];refine fP (g1.fr d (by decide)) rfl (by decide) (by decide) (by rw[d.1,l1];decide) oX (by simp) (by simp;omega) λP p K b=>?_;simp only[aYI,au,ck,cS,aY,↓uL];refine C0 (mk:=λa i=>[a,iv i]) (λ_ _=>rfl) (aL t) (by omega) trivial ?_ (m.trans ((d.mono (by decide)).trans (b.mono (by decide))));grind [Ez,aL];obtain rfl:k=L w.ak:=(by grind);rw[gV] at g1;refine iu (λa i=>[a,iv i]) 1 [15,27,40,45,49] [15,27,40,45,49,9] 9 1 (L w.bC) (λk=>(vs++w.ak.map (·.name)++(w.bC.take k).map (·.name)).map cs) (λ_=>True) trivial (by grind) λk a2 o ag _ s d=>?_;have H:box o (2,1)=_:=d.bt G;have y:L o=4096:=(by rw[d.1,l1]);simp only[SR,aI,u0,u1,H,rk,aj,dc,ix,bh,au,ck,↓uL];refine⟨λu=>⟨bA u,?_⟩,λu=>?_⟩;refine eF rfl rfl (by decide) (by omega) λp b T=>?_;simp only[aYK,u0,u1,T,rk,aj,iz,au,↓uL];refine fP (s.fr b (by decide)) rfl (by decide) (by decide) (by rw[b.1,y];decide) oX (by simp) (by simp;omega) λD q M n=>?_;simp only[SL,au,ck,cS,aY,↓uL];refine C0 (mk:=λa i=>[a,iv i]) (λ_ _=>rfl) (aL u) (by omega) trivial ?_ (d.trans ((b.mono (by decide)).trans (n.mono (by decide))));grind [Ez,aL];obtain rfl:k=L w.bC:=(by grind);rw[gV] at s;refine fP (new:=w.bU.map cs) s rfl (by decide) (by decide) (by omega) oX oX (by simp;omega) λP p K b=>?_;have W:box p (2,1)=_:=b.bt H;simp only[SP,u0,u1,W,rk,aj,↓uL];refine fP (new:=w.ay.map cs) K rfl (by decide) (by decide) (by rw[b.1,y];decide) (by grind) oX (by simp;omega) λD q M n=>?_;have l4:L q=4096:=(by rw[n.1,b.1,y]);refine aD7 (by omega) λr A b5=>?_;have f:=M.fr A (by decide);rw[<-dg,<-dg] at f;change Gr r _ 9 1 D ((wB w vs).map cs) at f;have ah:L r=4096:=(by rw[A.1,l4]);generalize wB w vs=g at*;generalize(aZ q 50).lB+1=v at*;simp only[SO,aDk f,aY,bJ,↓uL];refine yV (L g) (λk _ Y'=>box Y' (50,v)=V ⟨223,0,U,U,[(yG (g.take k)).map ent]⟩/\Fr r Y' [50]) (by grind [Fr.refl]) ?_;rintro k _ Y6 hk ⟨E,B⟩;have X:=f.fr B (by decide);simp only[SS,aI,au,u0,u1,↓uL];refine⟨λh=>?_,λh=>trivial⟩;have e:=aL h;have x:=Z k e;simp only[yn,cP,fK,nl] at x;have l:=avR x.2;rw[aBJ X e];simp+contextual only[u0,u1,ar,rW,x.1,aDr E l,lS,↓uL];refine⟨λh=>(nomatch h),?_⟩;intro _;refine aEb E l λY7 N b7=>?_;simp only[SN,au,u0,u1,↓uL];refine yU e ⟨?_,B.trans N⟩;grind [iJ,bT]
def EX:FT:=gz NJ
def axX{w vs Lw K}:=gX EX NJ w vs Lw K (j:=by simp+contextual only[ij,j9])
def PY(w:br)(s:bW)(d:fN w s=U/\L w.bC<=2):Ct 36 [.a w.c, .a s.c] (·=bv U):=by refine aMP rfl rfl λs0 l e f k=>?_;have b:=d.1;simp only[fN,bN,mn] at b;obtain⟨g,h,i,j⟩:=b;simp+contextual only[akI,u0,u1,e,f,rk,ix,cT,aj,dc,ar,rW,g,h,i,j,d.2,vg,lS,↓uL];simp
def Gp:FT:=gz PY
def azK{w s Lw K}:=gX Gp PY w s Lw K (j:=by simp+contextual only[ij,j9])
def PT(w:br)(s:bW)(d:fN w s=U/\L w.bC<=2):Ct 130 [.a w.c, .a s.c] (·=bv U):=by refine aMK rfl rfl λs0 l e f k=>?_;have b:=d.1;simp only[fN,bN,mn] at b;obtain⟨g,h,i,j⟩:=b;simp+contextual only[akt,u0,u1,e,f,rk,ix,cT,aj,dc,ar,rW,g,h,i,j,d.2,vg,lS,↓uL];simp
def Gk:FT:=gz PT
def azF{w s Lw K}:=gX Gk PT w s Lw K (j:=by simp+contextual only[ij,j9])
def QO(w:br)(s:aW)(t a bb:Int):Bool:=
 bif Q (a=6) then Q ((gd s.ak bb.toNat).pw= -1)
 else bif Q (a=10) then Q ((gd s.ak bb.toNat).pw= -1)&&Q (L (gd s.ak bb.toNat).bk=0)
 else bif Q (a=8) then Q ((gd s.ak bb.toNat).pw= -1)&&!Q (t∈(gd s.ak bb.toNat).bk)
 else bif Q (a=7)||Q (a=11) then Q ((gd s.ak bb.toNat).pw=t)
 else bif Q (a=9) then Q (t∈(gd s.ak bb.toNat).bk)
 else bif Q (a=12) then Q (s.tx= -1)
 else bif Q (a=13) then Q (s.tx=t)
 else bif Q (a=14) then !(gd s.ay t.toNat).atomic
 else bif Q (a=15) then(gd s.ay t.toNat).atomic
 else bif Q (a=16)||(Q (a=18)||Q (a=19)) then Q ((gd s.ak (gd w.bC bb.toNat).eg.toNat).pw=t)
 else bif Q (a=20) then Q (bb≠t)&&Q ((gd s.ay bb.toNat).cQ=0)
 else bif Q (a=21) then Q (bb≠t)&&Q ((gd s.ay bb.toNat).cQ=5)
 else bif Q (a=22) then !(gd s.done bb.toNat)
 else bif Q (a=23) then gd s.done bb.toNat
 else U
def axG{w:br}{s:aW}{t a bb:Int}:lc w s t a bb=bif Q (a=1) then Q ((gd s.ay t.toNat).cQ=1)
 else bif Q (a=17) then Q ((gd s.ay t.toNat).cQ=4)&&(Q ((gd s.ay t.toNat).cond=bb)&&Q ((gd s.ak (gd w.bC bb.toNat).eg.toNat).pw= -1))
 else bif Q ((gd s.ay t.toNat).cQ≠2) then I else QO w s t a bb:=rfl
structure KF(w:br)(s:aW)(kind bb:Int):Prop where
 mI:aF (L w.bC) bb->aF (L s.ak) (gd w.bC bb.toNat).eg
 lk:6<=kind->kind<=11->aF (L s.ak) bb
 cd:16<=kind->kind<=19->aF (L w.bC) bb
 th:20<=kind->kind<=21->aF (L s.ay) bb
 dn:22<=kind->kind<=23->aF (L s.done) bb
def D0{w:br}{s:aW}{a bb:Int}(d:lh w s=U)(g:named w a bb=U):KF w s a bb:=by obtain⟨b,c,e,f⟩:=iY d;exact⟨λh=>by rw[c];exact b _ (ii h),(by grind [mJ]),(by grind [oT]),(by grind [Eb]),(by grind [oU])⟩
def Oy(w:br)(s:aW)(t b bb:Int)(q:lh w s=U/\named w b bb=U/\aF (L s.ay) t/\(∀l∈s.ak,L l.bk<100000)):Ct 182 [.a w.c, .a s.c,iv t,iv b,iv bb] (·=bv (QO w s t b bb)):=by refine aK9 rfl rfl λG E k m D=>?_;obtain⟨o,p,g,A⟩:=q;obtain⟨y,F,B,H,C⟩:=D0 o p;have r:Q (b=6)=U->aF (L s.ak) bb:=(by simp_all);have h:Q (b=10)=U->aF (L s.ak) bb:=(by simp_all);have v:Q (b=8)=U->aF (L s.ak) bb:=(by simp_all);have x:Q (b=9)=U->aF (L s.ak) bb:=(by simp_all);have u:(Q (b=7)||Q (b=11))=U->aF (L s.ak) bb:=(by grind);have d:(Q (b=16)||(Q (b=18)||Q (b=19)))=U->aF (L w.bC) bb:=(by grind);have i:Q (b=20)=U->aF (L s.ay) bb:=(by simp_all);have j:Q (b=21)=U->aF (L s.ay) bb:=(by simp_all);have e:Q (b=22)=U->aF (L s.done) bb:=(by simp_all);have f:Q (b=23)=U->aF (L s.done) bb:=(by simp_all);have z:aF (L s.ak) bb->L (gd s.ak bb.toNat).bk<4611686018427387904:=(by grind [ii]);have n:(L (gd s.ak bb.toNat).bk:Int)=0↔L (gd s.ak bb.toNat).bk=0:=(by omega);simp only[abG,↓uL];simp+contextual (maxSteps:=3000000) only[f8,abJ,abH,abK,abI,sw,aI,au,↓iC,↓iB,↓iS,u0,u1,rW,ar,k,m,rk,ix,cT,aj,↓uL];simp+contextual (maxSteps:=3000000) only[QO,asq,aOl,y,r,u,v,x,h,d,i,j,e,f,z,n,g,lS,o8,oe,vg,Bool.true_or,lG,wY,kz,sr,eE,vp];done
def Fu:FT:=zb Oy
def ayv{w s t kind bb Lw K}:=KQ Fu Oy w s t kind bb Lw K (j:=by simp+contextual only[ij,j9])
structure nK(x:jY):Prop where
 wo:kB x.w
 ss:x.ss=(aH (L x.w.ac)).map λk=>(cY x.w k).bm
def nK.at{x:jY}(h:nK x){k:Nat}(a:k<L x.w.ac):gd x.ss k=(cY x.w k).bm/\k<L x.ss:=by grind [nK.ss,bT]
def qI{n:Nat}{i:Int}(h:aF n i):i.toNat<n:=by have:=h.1;have:=h.2;omega
def nK.ix{x:jY}(h:nK x){i:Int}(a:aF (L x.w.ac) i):aF (L x.ss) i/\gd x.ss i.toNat=(cY x.w i.toNat).bm:=by have b:=h.at (qI a);refine⟨⟨a.1,?_⟩,b.1⟩;omega
def nK.kf{x:jY}(h:nK x){i j:Int}(b:aF (L x.w.ac) i)(c:aF (L x.w.ac) j):KF x.w.aQ (cY x.w j.toNat).bm (gd x.w.ac i.toNat).kind (gd x.w.ac i.toNat).bb:=by have a:=(h.wo.st _ (qI c)).2;simp only[fN,bN] at a;exact D0 a.1 (h.wo.named (qI b)).1
def slE{l:List aP}{i j:Int}{Y:ae}{K:d7}:rV (fo 7 Y (sl aP.c l) (V (iv i)) (V (iv j)) J) K=((0<=i/\i<=j/\j<=L l)/\K (sl aP.c ((l.take j.toNat).drop i.toNat))):=by simp only[fo,lM,sl];by_cases a:0<=i;by_cases d:0<=j;simp only[a,d,vm,qY,Option.getD_none,mi,bJ,lS];by_cases e:i<=j/\j<=L l;have b:i.toNat<=j.toNat/\j.toNat<=L l:=(by omega);rw[bX ⟨b.1,b.2,by simp[aP.c]⟩];simp only[vm,rV,e,vg,lS,kM];grind [aP.c,List.map_drop,List.map_take,List.drop_take];grind [rV];grind [rV];simp[a,rV]
def Dq{b:Bool}{A:(be)->Prop}{Y:ae}{K:be}(a:b=U->A K)(c:b=I->K (.t []) Y):gF b A Y K:=by(cases b);exact c rfl;exact a rfl
def Bc{a:AV}{b:Bool}:mL (bv I) a (bv b)=V (bv b):=rfl
def Dc{Y:ae}{d:Nat}{K:be}{b:Id}{w:am}{t:Int}(g:box Y b=V ⟨43,15,U,U,[w.c]⟩)(i:L Y=4096)(e:K (bv (nO w t)) Y):cF (.f 81 [] [.p b 0 0]) [iv t] Y d K:=by simp only[cF,rn];rw[cj (show¬GG.nw 81=U by decide),bX (show GG.imp 81=U by decide)];refine(aS2 rfl (aMT i ?_) e:cB 81 [iv t, .p b 0 0] Y d K);simp+contextual only[aV0,u0,u1,g,rk,ix,cT,aj,dc,fe,aoz,↓uL];refine⟨λh=>?_,?_,Fx.refl _ _⟩;intro a;exact⟨by simpa using h,by simpa using a⟩;simp[nO,dh,Bool.and_assoc]
def Qa(w:am)(hp:ny w=U/\L w.init.bm.ak=L w.aQ.ak/\L w.aQ.ak<=4/\L w.init.bm.ay<=4/\(∀l∈w.init.bm.ak,L l.bk<=100)):Ct 39 [.a w.c] (·=bv U):=by refine aMS rfl λs2 Z O h0=>?_;obtain⟨C,ac,ad,ae,E⟩:=hp;simp only[ny,bN,mn,eH] at C;obtain⟨T,r,W⟩:=C;simp+contextual only[akU,u0,u1,O,rk,aj,dc,cT,↓uL];refine pQ (L w.init.bm.ak) [5] (λk=>True) trivial λk Y hk hc S=>?_;have o:box Y (1,1)=V ⟨43,15,U,U,[w.c]⟩:=(by grind [Fr.box]);have f:L Y=4096:=(by rw[S.1,Z]);simp+contextual only[akX,u0,u1,o,ix,rk,bh,au,aI,aj,dc,cT,↓uL];refine⟨λh=>⟨bA h,?_⟩,λh=>?_⟩;refine eF rfl rfl (by decide) (by omega) λn H u=>?_;have q:box n (1,1)=V ⟨43,15,U,U,[w.c]⟩:=(by grind [Fr.box]);have g:L n=4096:=(by rw[H.1,f]);have D:=T k (aL h);obtain⟨e,F⟩:=D;simp only[AM,cP] at e;simp+contextual only[akV,u0,u1,u,rk,aj,au,↓uL];have af:L (gd w.init.bm.ak k).bk<=100:=E _ (dB (aL h));have oO:lV [iv (-1),iv 0] n (Ka (iv (L (gd w.init.bm.ak k).bk:Int)) (sl ci (gd w.init.bm.ak k).bk) (.p (1,1) 0 0) (λx=>x=bv U) [iv k] (fI s2 [5] (L w.init.bm.ak) λk=>True) (fM (L w.init.bm.ak)) Y):=(by refine jD (α:=Int) (λa i=>[iv a,iv i]) 1 (L (gd w.init.bm.ak k).bk) (λi a Y'=>(a=if i=0 then-1 else gd (gd w.init.bm.ak k).bk (i-1))/\Y'=n) (s0:= -1) ⟨by simp,rfl⟩ ?_;rintro i _ _ X ⟨rfl,rfl⟩;simp+contextual only[Ka,aI,u0,u1,ix,rk,bh,au,ck,↓uL];refine⟨λd=>⟨bA d,?_⟩,λd=>?_⟩;obtain⟨z,r2⟩:=F i (aL d);have y:Q (gd (gd w.init.bm.ak k).bk i<=if i=0 then-1 else gd (gd w.init.bm.ak k).bk (i-1))=I:=(by simp only[nO,bN] at z;have:=(dX.1 z.1).1;grind);refine Dq (λb=>Dc q g ?_) (by grind);simp+contextual only[u0,u1,au,ck,y,z,fh,kN,jA,qE,kz,eE,vp,Ca,lS,↓uL];refine dR (mk:=λa i=>[iv a,iv i]) (p:=1) (s:=if i=0 then-1 else gd (gd w.init.bm.ak k).bk (i-1)) (s':=gd (gd w.init.bm.ak k).bk i) (λ_ _=>rfl) (aL d) (by omega) ?_;simp;grind [oL,aL,Fr.trans]);have t:Q (0<(L (gd w.init.bm.ak k).bk:Int))=U->aF (L w.aQ.ak) (k:Int):=(by grind [dJ,aL]);have v:=e.2;refine Dq (λb=>Dc q g ?_) (λb=>?_);simp+contextual only[u0,u1,u,q,rk,ix,aj,au,cT,b,↓uL];rw[b] at e v;refine⟨λB=>?_,λ_=>⟨t,λB=>?_,λ_=>oO⟩⟩;simp_all;simp_all;simp+contextual only[u0,u1,u,q,rk,ix,aj,au,cT,b,jN,Bc,↓uL];rw[b] at e v;simp only[kz] at v;refine⟨λh=>(nomatch h),λ_=>⟨t,λB=>?_,λ_=>oO⟩⟩;simp_all;have m:lV [iv 0] Y (Kb (iv (L w.init.bm.ay:Int)) (sl bF.c w.init.bm.ay) (.p (1,1) 0 0) λx=>x=bv U):=(by refine pQ (L w.init.bm.ay) [10] (λk=>True) trivial λi M X _ A=>?_;have e1:box M (1,1)=V ⟨43,15,U,U,[w.c]⟩:=(by grind [Fr.box]);simp+contextual only[Kb,aI,u0,u1,ix,rk,bh,au,↓uL];refine⟨λd=>⟨bA d,?_⟩,λ_=>trivial⟩;refine eF rfl rfl (by decide) (by rw[A.1,f];decide) λN K P=>?_;have R:box N (1,1)=V ⟨43,15,U,U,[w.c]⟩:=(by grind [Fr.box]);have G:=W i (aL d);simp only[pX,bN,eH] at G;have j:=G.1;simp+contextual only[akW,u0,u1,P,rk,aj,au,↓uL];refine Dq (λb=>Dc R (by rw[K.1,A.1,f]) ?_) (λb=>?_);rw[b] at j;simp only[iw,fK] at j;simp+contextual only[u0,u1,b,j,fh,eE,vp,Ca,lS,↓uL];grind [oL,aL,Fr.trans];simp+contextual only[u0,u1,b,jN,Bc,eE,vp,Ca,lS,↓uL];grind [oL,aL,Fr.trans]);simp only[yS] at r;refine Dq (λb=>Dc o f ?_) (λb=>?_);rw[b] at r;simp only[iw,fK] at r;simp+contextual only[u0,u1,o,rk,aj,dc,cT,b,r,fh,eE,vp,Ca,lS,↓uL];exact m;simp+contextual only[u0,u1,o,rk,aj,dc,cT,b,jN,Bc,eE,vp,Ca,lS,↓uL];exact m
def Gt:FT:=mT Qa
def azN{w Lw K}:=oK Gt Qa w Lw K (j:=by simp+contextual only[ij,j9])
def apk:dO:=(77,EX)::(36,Gp)::(130,Gk)::(182,Fu)::(39,Gt)::apj
def Rd:eJ apk:=it (aCb NJ) (it (aCb PY) (it (aCb PT) (it (Rt Oy) (it (pg Qa) (rf)))))
def aBm:=ai @axX<|ai @azK<|ai @azF<|ai @ayv<|ai @azN<|@rW
def asu:=bi 2 []
def Sv a s0 R:=aO .neq a a λt1=>aE R s0 [t1]
def aJV{a:AV}{R:d7}(h:H0 λs0=>Sv a s0 R):Ct 259 [a] R:=z0 asu Rd Tryz.func259 h
def atx:=bi 11 [(1,([0,2],[])),(4,([0,2],[])),(7,([0,2],[]))]
def aaC R s0 a:=∀_:Rg,rV (sO (V .u8) (gt a 0)) λt4=>rV (sxA (sv [0,1,2,2,3,3,3,3,4,4,4,4,4,4,4,4,5,5,5,5,5,5,5,5,5,5,5,5,5,5,5,5,6,6,6,6,6,6,6,6,6,6,6,6,6,6,6,6,6,6,6,6,6,6,6,6,6,6,6,6,6,6,6,6,7,7,7,7,7,7,7,7,7,7,7,7,7,7,7,7,7,7,7,7,7,7,7,7,7,7,7,7,7,7,7,7,7,7,7,7,7,7,7,7,7,7,7,7,7,7,7,7,7,7,7,7,7,7,7,7,7,7,7,7,7,7,7,7,8,8,8,8,8,8,8,8,8,8,8,8,8,8,8,8,8,8,8,8,8,8,8,8,8,8,8,8,8,8,8,8,8,8,8,8,8,8,8,8,8,8,8,8,8,8,8,8,8,8,8,8,8,8,8,8,8,8,8,8,8,8,8,8,8,8,8,8,8,8,8,8,8,8,8,8,8,8,8,8,8,8,8,8,8,8,8,8,8,8,8,8,8,8,8,8,8,8,8,8,8,8,8,8,8,8,8,8,8,8,8,8,8,8,8,8,8,8,8,8,8,8,8,8,8,8,8,8]) t4) λb=>rV (sO (V .i64) b) λc=>aV (gt a 1) c λd=>aE R s0 [d]
def aaF a(b:cG):=aO .geq (gt a 0) (.s (.int .u64 256)) λd=>ah d (aO .shr (gt a 0) (.s (.int .u64 8)) λe=>aV (gt a 1) (iv 8) λc=>b [e,c]) (b [(gt a 0),(gt a 1)])
def aaB R s0 a:=∀_:Rg,jR 7 (aaC R s0) (aaF a)
def aaE a(b:cG):=aO .geq (gt a 0) (.s (.int .u64 65536)) λc=>ah c (aO .shr (gt a 0) (.s (.int .u64 16)) λd=>aV (gt a 1) (iv 16) λe=>b [d,e]) (b [(gt a 0),(gt a 1)])
def aaA R s0 a:=∀_:Rg,jR 4 (aaB R s0) (aaE a)
def aaD a(b:cG):=aO .geq a (.s (.int .u64 4294967296)) λc=>ah c (aO .shr a (.s (.int .u64 32)) λd=>b [d,(iv 32)]) (b [a,(iv 0)])
def aaz a s0 R:=jR 1 (aaA R s0) (aaD a)
def aKY{a:AV}{R:d7}(h:H0 λs0=>aaz a s0 R):Ct 247 [a] R:=z0 atx Rd Tryz.func247 h
def NF(x:Int):Ct 259 [iv x] (·=bv I):=by refine aJV λs0 b a=>?_;simp only[Sv,u0,u1,aN2,be7,aB9,↓uL]
def BO:FT:=lH NF
def axT{x Lw K}:=np BO NF x Lw K
def avZ{a b:Int}:wl .geq 0 [] (.s (.int .u64 a)) (.s (.int .u64 b))=V (bv (Q (b<=a))):=rfl
def Oo(n:Int)(g:0<=n/\n<=12):Ct 247 [.s (.int .u64 n)] (λr=>∃k:Int,r=iv k):=by refine aKY λs0 f e=>?_;obtain⟨m,rfl⟩:∃m:Nat,n=m:=⟨n.toNat,by omega⟩;have d:m<=12:=(by omega);have a:Q (4294967296<=(m:Int))=I:=(by simp;omega);have b:Q (65536<=(m:Int))=I:=(by simp;omega);have c:Q (256<=(m:Int))=I:=(by simp;omega);simp+contextual only[aaC,aaF,aaB,aaE,aaA,aaD,aaz,f8,u0,avZ,au,ck,a,b,c,aI,↓iB,eE,vp,Ca,lS,↓uL];match m,d with|0,_=>exact⟨rfl,_,rfl⟩|1,_=>exact⟨rfl,_,rfl⟩|2,_=>exact⟨rfl,_,rfl⟩|3,_=>exact⟨rfl,_,rfl⟩|4,_=>exact⟨rfl,_,rfl⟩|5,_=>exact⟨rfl,_,rfl⟩|6,_=>exact⟨rfl,_,rfl⟩|7,_=>exact⟨rfl,_,rfl⟩|8,_=>exact⟨rfl,_,rfl⟩|9,_=>exact⟨rfl,_,rfl⟩|10,_=>exact⟨rfl,_,rfl⟩|11,_=>exact⟨rfl,_,rfl⟩|12,_=>exact⟨rfl,_,rfl⟩
def Fo:FT:=om Oo
def ayo{n Lw K}:=qz Fo Oo n Lw K
def apm:dO:=(259,BO)::(247,Fo)::apk
def Re:eJ apm:=it (nH NF) (it (rj Oo) (Rd))
def La:=ai @axT<|ai @ayo<|@aBm
def ast:=bi 2 []
def Su b c s0 R:=fV BO s0 [b] λt1=>fm t1 c λt3=>az t1 (fV BO s0 [t3]) λh=>az t1 (cf h) λi=>aD t1 i (bv I) λa=>ic a b λd=>ic a c λe=>aC a (aU d e) λf=>aD a (bv U) f λg=>aE R s0 [g]
def aJU{a:AV}{b:AV}{R:d7}(h:H0 λs0=>Su a b s0 R):Ct 243 [a,b] R:=z0 ast Re Tryz.func243 h
def atw:=bi 4 []
def aay a s0 R:=ah (bv I) (rV (sO (V .u32) a) λt1=>fV (cX 246) s0 [t1] λb=>aE R s0 [b]) (fV Fo s0 [a] λt3=>aE R s0 [t3])
def aKX{a:AV}{R:d7}(h:H0 λs0=>aay a s0 R):Ct 221 [a] R:=z0 atw Re Tryz.func221 h
def NE(x y:Int):Ct 243 [iv x,iv y] (·=bv (Q (x<y))):=by refine aJU λs0 b a=>?_;simp+contextual only[Su,u0,u1,ar,La,kN,kM,lG,jN,jA,qE,Bc,↓uL]
def BN:FT:=lI NE
def axS{x y Lw K}:=nq BN NE x y Lw K
def Om(n:Int)(a:0<=n/\n<=12):Ct 221 [.s (.int .u64 n)] (λr=>∃k:Int,r=iv k):=by refine aKX λs0 c b=>?_;simp+contextual only[aay,u0,u1,ar,La,eE,vp,Ca,lS,↓uL];refine⟨a,?_⟩;rintro r ⟨k,rfl⟩;exact⟨.inl rfl,rfl,k,rfl⟩
def Fm:FT:=om Om
def ayn{n Lw K}:=qz Fm Om n Lw K
def apn:dO:=(243,BN)::(221,Fm)::apm
def wR:eJ apn:=it (nI NE) (it (rj Om) (Re))
def ut:=ai @axS<|ai @ayn<|@La
def au5:=bi 23 [(6,([3],[0])),(14,([3,5],[0,4])),(17,([3],[0,4,5]))]
def arT a(f:aG)(c:bu) g b d:=∀_:Rg,aV (gt a 1) (iv 1) λe=>f [(gt b 0),e] d/\c [(gt b 0),e] d<c a g
def arU a c b p(d:aG):=ao 1 a c (gt b 1) λf=>aM a f λg=>aO .sub (gt b 1) (iv 1) λh=>ao 1 a c h λi=>aM a i λj=>aO .neq g j λk=>ah k (ao 1 a c (gt b 1) λl=>aM a l λm=>ao 1 a p (gt b 0) λn=>sV (aK 1 a n m) λe=>aV (gt b 0) (iv 1) λo=>d [o] e) (d [(gt b 0)] a)
def arS d b R a:=rV (fo 1 a d J (V (gt b 0)) J) λc=>fe R a [c]
def arV c d R e f a b:=∀_:Rg,aJ b c λg=>aU (gt a 1) g λh=>ah h (jV 17 (arT a e f b) (arU b c a d)) (rV (fo 1 b d (V (gt a 0)) J J) λi=>sV (pA (.int .i64 0) b i) (arS d a R))
def aj0 c R(j:aG)(e:bu) b a:=∀_:Rg,aJ a c λk=>aU (gt b 0) k λl=>ah l (ao 1 a c (gt b 0) λm=>aM a m λn=>aO .sub (gt b 0) (iv 1) λo=>ao 1 a c o λf=>aM a f λg=>bf n g λh=>ah h (rV (fo 1 a c (V (gt b 0)) J J) λi=>lV [(gt b 0),(iv 1)] a (arV i c R)) (aV (gt b 0) (iv 1) λd=>j [d] a/\e [d] a<e b a)) (fe R a [c])
def JN a s0 R:=aJ s0 a λt1=>aU t1 (iv 2) λb=>ah b (fe R s0 [a]) (lV [(iv 1)] s0 (aj0 a R))
def aJN{a:AV}{s0:ae}{R:be}(h:JN a s0 R):EB 185 [a] s0 R:=zB au5 wR Tryz.func185 h
def aMy{a:AV}{s0:ae}{R:be}(b:L s0=4096)(h:JN a s0 R):EB 185 [a] s0 R:=by refine aJN ?_;exact h
def avb:=bi 10 [(1,([6],[0,1,2])),(6,([7],[0,1,2,6]))]
def aj8 a b g h j l i f m k(n:aG)(e:bu) o c:=dH [km,km,km,km,(lb U [(gt a 0),(iv 1)] []),km,km,(lb U [(gt a 0),(iv 1)] []),(lb U [b,g] []),(bo h),km,km,(lb U [b,(gt a 0)] []),(bo j),(lb U [b,(gt a 0)] []),(lb I [l,i] []),(lb U [b,f] []),(lb I [m,k] [])] [(2,15),(3,15),(4,15)] (aO .sub (gt a 0) (iv 1) λd=>n [d] c/\e [d] c<e a o)
def aj9 e b c k f g i j h l m n a:=ao 1 a e b λd=>sV (aK 1 a d c) (aj8 k e f g i j h b d c l m n)
def CS A d k(y:aG)(l:bu) C z B b a:=∀_:Rg,aO .gtr (gt b 0) A λc=>fm c d λD=>fm c (gt b 0) λm=>az c (ao 1 a D m) λn=>az c (aM a n) λo=>fm c d λp=>fm c (gt b 0) λq=>az c (aO .sub q (iv 1)) λr=>az c (ao 1 a p r) λs=>az c (aM a s) λt=>az c (fV BN a [o,t]) λu=>aD c u (bv I) λv=>ah v (aO .sub (gt b 0) (iv 1) λw=>aO .sub (gt b 0) (iv 1) λe=>ao 1 a d e λf=>aM a f λg=>ao 1 a d (gt b 0) λh=>aM a h λx=>ao 1 a d (gt b 0) λi=>sV (aK 1 a i g) (aj9 d w x b e f h i g z B a)) (aV (gt k 0) (iv 1) λj=>y [j] a/\l [j] a<l k C)
def aka f e d R c g a b:=∀_:Rg,aU (gt a 0) f λt4=>ah t4 (lV [(gt a 0)] b (CS e d a c g b)) (fe R b [])
def JT b a c s0 R:=aV a (iv 1) λt1=>lV [t1] s0 (aka c a b R)
def aJR{a b c:AV}{s0:ae}{R:be}(h:JT a b c s0 R):EB 237 [a,b,c] s0 R:=zB avb wR Tryz.func237 h
def aME{a:AV}{b:AV}{c:AV}{s0:ae}{R:be}(d:L s0=4096)(h:JT a b c s0 R):EB 237 [a,b,c] s0 R:=by refine aJR ?_;exact h
def au8:=bi 11 [(3,([8],[0,1,7]))]
def aj6 t1 g h R(f:aG)(d:bu) a b:=∀_:Rg,aU (gt a 0) t1 λt4=>ah t4 (ao 1 b g (gt a 0) λi=>aM b i λj=>cF h [j] b 16 λk c=>ah k (fe R c [(gt a 0)]) (aV (gt a 0) (iv 1) λe=>f [e] c/\d [e] c<d a b)) (fe R b [(iv (-1))])
def JQ a b s0 R:=aJ s0 a λt1=>lV [(iv 0)] s0 (aj6 t1 a b R)
def aJP{a b:AV}{s0:ae}{R:be}(h:JQ a b s0 R):EB 222 [a,b] s0 R:=zB au8 wR Tryz.func222 h
def aMB{a:AV}{b:AV}{s0:ae}{R:be}(c:L s0=4096)(h:JQ a b s0 R):EB 222 [a,b] s0 R:=by refine aJP ?_;exact h
def atA:=bi 2 []
def Ij a b s0 R:=aM s0 b λt1=>bf a t1 λc=>fe R s0 [c]
def aJo{a b:AV}{s0:ae}{R:be}(h:Ij a b s0 R):EB 187 [a,b] s0 R:=zB atA wR Tryz.func187 h
def aK2{a:AV}{b:AV}{s0:ae}{R:be}(c:L s0=4096)(h:Ij a b s0 R):EB 187 [a,b] s0 R:=by refine aJo ?_;exact h
def atF:=bi 13 [(4,([7,13],[1,2,3,11,12])),(7,([7],[1,2,3,11,12,13])),(10,([],[7]))]
def Iv c(f:aG)(e:bu) g d a:=∀_:Rg,aV (gt c 1) (iv 1) λb=>f [(gt d 0),b] a/\e [(gt d 0),b] a<e c g
def abC e o d p(f:aG) b:=aw 3 b e λg=>fV BV b [g,o] λa=>fm a (gt d 0) λh=>az a (aU h (iv 0)) λi=>fm a i λc=>ic c (gt d 1) λj=>ic c p λk=>aC c (bf j k) λl=>az a (aD c (bv U) l) λm=>aD a m (bv I) λn=>ah n (f [(gt d 1)] b) (f [(gt d 0)] b)
def abE c t4 b h i g:=ao 3 c t4 (gt b 1) λe=>aw 3 c e λf=>eV (bs 105 aNB c 9) λa d=>sV (aK 3 d a f) (abC a h b i g)
def Iu R b(c:eQ) a:=∀_:Rg,fe R a [(gt b 0)]
def abD c a e(b:aG):=aO .geq (gt c 0) (iv 0) λf=>ah f (ab 3 a e λg=>ao 3 a g (gt c 0) λh=>aB 0 a h λi=>sV (aK 1 a i (iv 4)) λd=>b [] d) (b [] a)
def abF h t4 e f R c d g a b:=∀_:Rg,aU (gt a 1) h λi=>ah i (jV 7 (Iv a d g b) (abE b t4 a e f)) (jV 10 (Iu R a) (abD a b c))
def Ir a c d b R:=ab 3 b a λt4=>aJ b t4 λe=>lV [(iv (-1)),(iv 0)] b (abF e t4 c d R a)
def aJq{a b c:AV}{s0:ae}{R:be}(h:eV (qm 36 4 s0 3 a) λd e=>Ir d b c e R):EB 188 [a,b,c] s0 R:=zB atF wR Tryz.func188 h
def aK7{d:List AV}{e:AV}{f:AV}{s0:ae}{R:be}(j:L s0=4096)(l0:L d=4)(h:∀(b:ae) (c:Nat),Kp s0 b->(∀k,k≠3->aZ b k=aZ s0 k)->(∀x,box s0 (3,c)≠V x)->box b (3,c)=V ⟨36,4,U,U,[d]⟩->Ir (.p (3,c) 0 0) e f b R):EB 188 [.a d,e,f] s0 R:=by refine aJq ?_;refine iN rfl l0 (by decide) (by decide) j λb c m g0 n g=>?_;exact h b c m (λk i=>g0 k i) (λx l=>n x ((Kp.refl _).keep _ _ l)) g
def atG:=bi 12 [(4,([5,11],[1,2,9,10])),(7,([5],[1,2,9,10,11]))]
def It c(f:aG)(e:bu) g d a:=∀_:Rg,aV (gt c 1) (iv 1) λb=>f [(gt d 0),b] a/\e [(gt d 0),b] a<e c g
def abz c m f b(d:aG) a:=aw 3 a c λg=>fV BV a [g,m] λh=>ah h (ab 3 a f λi=>ao 3 a i (gt b 1) λj=>aB 0 a j λk=>sV (aK 1 a k (iv 4)) λe=>aV (gt b 0) (iv 1) λl=>d [l] e) (d [(gt b 0)] a)
def abA c t4 b i e h:=ao 3 c t4 (gt b 1) λf=>aw 3 c f λg=>eV (bs 105 aNB c 7) λa d=>sV (aK 3 d a g) (abz a i e b h)
def abB g t4 e c R d f a b:=∀_:Rg,aU (gt a 1) g λh=>ah h (jV 7 (It a d f b) (abA b t4 a e c)) (fe R b [(gt a 0)])
def Is a c b R:=ab 3 b a λt4=>aJ b t4 λd=>lV [(iv 0),(iv 0)] b (abB d t4 c a R)
def aJr{a b:AV}{s0:ae}{R:be}(h:eV (qm 36 4 s0 2 a) λc d=>Is c b d R):EB 189 [a,b] s0 R:=zB atG wR Tryz.func189 h
def aK8{d:List AV}{e:AV}{s0:ae}{R:be}(i:L s0=4096)(l0:L d=4)(h:∀(b:ae) (c:Nat),Kp s0 b->(∀k,k≠2->aZ b k=aZ s0 k)->(∀x,box s0 (2,c)≠V x)->box b (2,c)=V ⟨36,4,U,U,[d]⟩->Is (.p (2,c) 0 0) e b R):EB 189 [.a d,e] s0 R:=by refine aJr ?_;refine iN rfl l0 (by decide) (by decide) i λb c l g0 m f=>?_;exact h b c l (λk g=>g0 k g) (λx j=>m x ((Kp.refl _).keep _ _ j)) f
theorem axp(n c:Nat)(w:World)(R:Ending->World->Prop)(a:R (.returned (.slice J 0 0)) w):Calls aS 98 #[.slice J n c] w R:=by have b:=λ(W:World)=>run_eql_slice_nil (P:=aS) W 38 3 J n c (by kernel_rfl);go_enter So,arJ;go_wp2;exact a
theorem axt(A:Addr)(n c:Nat)(w:World)(R:Ending->World->Prop)(b:(nU CI).wp aS (bodyPost aS CI R) {tmps:=#[.slice (V A) n c,undef, .slice J 0 0, .slice (V A) n c, .bool I,undef,undef,undef],defers:=[]} w):Calls aS 98 #[.slice (V A) n c] w R:=by have d:=λ(W:World)=>run_eql_slice_nil (P:=aS) W 38 3 (V A) n c (by kernel_rfl);go_enter So,arJ;generalize a:(BM 3 _ I).seq ET=T;go_wp2;subst a;exact b
def aCM{aa:List (List AV)}(g:∀r∈aa,L r=1)(q:L aa<1000000):∃r a,bc a 3 1 r aa/\cZ aS GG 98 [.l aa I I] eK r a/\(aa=[]->r= .l [] U U):=by have h:=DX (fn:=98) (f:=CI) (an:=[J,J]) So rfl rfl (by grind [axp]) (by grind [axt]) (by kernel_rfl) (by kernel_rfl) (aa:=aa) (R:=λr a=>bc a 3 1 r aa/\(aa=[]->r= .l [] U U/\a=eK)) (aND (show iV aS GG [] [J,J] (nU CI) 0 (tO aS CI λr a=>bc a 3 1 r aa/\(aa=[]->r= .l [] U U/\a=eK)) (gt (xE (.l aa I I))) eK=(eV (aX bH 0 eK []) λk i=>eV (j5 3 fB 8 i 7 k (.l aa I I)) λt4 j=>fe (λr a=>bc a 3 1 r aa/\(aa=[]->r= .l [] U U/\a=eK)) j [t4]) by kernel_rfl) ?_) (λr a h=>h.2);obtain⟨r,a,b,d⟩:=h;exact⟨r,a,b.1,d,λe=>(b.2 e).1⟩;simp only[nS,bQ];by_cases c:aa=[];subst c;simp only[j5,gL,vw,vm,eV,fe,aoz];grind [bc.nil];refine gD (e:=3) (new:=aa) bc.nil rfl (by decide) (by rw[show L eK=4096 from oA ..];decide) (by simp) g (by grind) λn Y' o m p _=>?_;grind [fe,aoz,absurd]
def Kr{Y:ae}{d:Nat}{K:be}{aa:List (List AV)}{x:AV}(p:dG Y x= .l aa I I)(o:∀r∈aa,L r=1)(n:L aa<1000000)(q:aa.all (λr=>r.all gY)=U)(c:d<L Y)(e:∀a Y',bc Y' 3 1 a aa->Fx Y Y' []->(∀k∈aA a,bK Y k/\k.1=d)->K a Y'):cN 98 [x] Y d K:=by obtain⟨r,i,g,h,_⟩:=aCM o n;have f:[x].map (dG Y)=[.l aa I I]:=(by simp[p]);refine .inl ⟨by rw[f];rfl,by simp[y7,c],r,i,by rw[f];exact h,?_⟩;rcases g with⟨j,rfl⟩|⟨b,rfl,m⟩;exact .inl ⟨rfl,e _ _ (.inl ⟨j,rfl⟩) (Fx.refl _ _) (by simp[aA])⟩;refine .inr ⟨b,_,_,rfl,m,?_,e _ _ (.inr ⟨lA Y d,rfl,iy c⟩) (kH c) (by simp[aA,lA,bK])⟩;grind [qA]
theorem axo(n c:Nat)(w:World)(R:Ending->World->Prop)(a:R (.returned (.slice J 0 0)) w):Calls aS 218 #[.slice J n c] w R:=by have b:=λ(W:World)=>run_eql_slice_nil (P:=aS) W 33 4 J n c (by kernel_rfl);go_enter Tryz.func218,Tryz.ntmps218;go_wp2;exact a
theorem axs(A:Addr)(n c:Nat)(w:World)(R:Ending->World->Prop)(b:(nU Tryz.f218).wp aS (bodyPost aS Tryz.f218 R) {tmps:=#[.slice (V A) n c,undef, .slice J 0 0, .slice (V A) n c, .bool I,undef,undef,undef],defers:=[]} w):Calls aS 218 #[.slice (V A) n c] w R:=by have d:=λ(W:World)=>run_eql_slice_nil (P:=aS) W 33 4 (V A) n c (by kernel_rfl);go_enter Tryz.func218,Tryz.ntmps218;generalize a:(BM 3 _ I).seq ET=T;go_wp2;subst a;exact b
def aCL{aa:List (List AV)}(g:∀r∈aa,L r=1)(q:L aa<1000000):∃r a,bc a 4 1 r aa/\cZ aS GG 218 [.l aa I I] eK r a/\(aa=[]->r= .l [] U U):=by have h:=DX (fn:=218) (f:=Tryz.f218) (an:=[J,J]) Tryz.func218 rfl rfl (by grind [axo]) (by grind [axs]) (by kernel_rfl) (by kernel_rfl) (aa:=aa) (R:=λr a=>bc a 4 1 r aa/\(aa=[]->r= .l [] U U/\a=eK)) (aND (show iV aS GG [] [J,J] (nU Tryz.f218) 0 (tO aS Tryz.f218 λr a=>bc a 4 1 r aa/\(aa=[]->r= .l [] U U/\a=eK)) (gt (xE (.l aa I I))) eK=(eV (aX BD 0 eK []) λk i=>eV (j5 4 BE 1 i 7 k (.l aa I I)) λt4 j=>fe (λr a=>bc a 4 1 r aa/\(aa=[]->r= .l [] U U/\a=eK)) j [t4]) by kernel_rfl) ?_) (λr a h=>h.2);obtain⟨r,a,b,d⟩:=h;exact⟨r,a,b.1,d,λe=>(b.2 e).1⟩;simp only[nS,bQ];by_cases c:aa=[];subst c;simp only[j5,gL,vw,vm,eV,fe,aoz];grind [bc.nil];refine gD (e:=4) (new:=aa) bc.nil rfl (by decide) (by rw[show L eK=4096 from oA ..];decide) (by simp) g (by grind) λn Y' o m p _=>?_;grind [fe,aoz,absurd]
def aw2{Y:ae}{d:Nat}{K:be}{aa:List (List AV)}{x:AV}(p:dG Y x= .l aa I I)(o:∀r∈aa,L r=1)(n:L aa<1000000)(q:aa.all (λr=>r.all gY)=U)(c:d<L Y)(e:∀a Y',bc Y' 4 1 a aa->Fx Y Y' []->(∀k∈aA a,bK Y k/\k.1=d)->K a Y'):cN 218 [x] Y d K:=by obtain⟨r,i,g,h,_⟩:=aCL o n;have f:[x].map (dG Y)=[.l aa I I]:=(by simp[p]);refine .inl ⟨by rw[f];rfl,by simp[y7,c],r,i,by rw[f];exact h,?_⟩;rcases g with⟨j,rfl⟩|⟨b,rfl,m⟩;exact .inl ⟨rfl,e _ _ (.inl ⟨j,rfl⟩) (Fx.refl _ _) (by simp[aA])⟩;refine .inr ⟨b,_,_,rfl,m,?_,e _ _ (.inr ⟨lA Y d,rfl,iy c⟩) (kH c) (by simp[aA,lA,bK])⟩;grind [qA]
theorem axn(n c:Nat)(w:World)(R:Ending->World->Prop)(a:R (.returned (.slice J 0 0)) w):Calls aS 219 #[.slice J n c] w R:=by have b:=λ(W:World)=>run_eql_slice_nil (P:=aS) W 34 105 J n c (by kernel_rfl);go_enter Tryz.func219,Tryz.ntmps219;go_wp2;exact a
theorem axr(A:Addr)(n c:Nat)(w:World)(R:Ending->World->Prop)(b:(nU Tryz.f219).wp aS (bodyPost aS Tryz.f219 R) {tmps:=#[.slice (V A) n c,undef, .slice J 0 0, .slice (V A) n c, .bool I,undef,undef,undef],defers:=[]} w):Calls aS 219 #[.slice (V A) n c] w R:=by have d:=λ(W:World)=>run_eql_slice_nil (P:=aS) W 34 105 (V A) n c (by kernel_rfl);go_enter Tryz.func219,Tryz.ntmps219;generalize a:(BM 3 _ I).seq ET=T;go_wp2;subst a;exact b
def aCK{aa:List (List AV)}(g:∀r∈aa,L r=3)(q:L aa<1000000):∃r a,bc a 105 3 r aa/\cZ aS GG 219 [.l aa I I] eK r a/\(aa=[]->r= .l [] U U):=by have h:=DX (fn:=219) (f:=Tryz.f219) (an:=[J,J]) Tryz.func219 rfl rfl (by grind [axn]) (by grind [axr]) (by kernel_rfl) (by kernel_rfl) (aa:=aa) (R:=λr a=>bc a 105 3 r aa/\(aa=[]->r= .l [] U U/\a=eK)) (aND (show iV aS GG [] [J,J] (nU Tryz.f219) 0 (tO aS Tryz.f219 λr a=>bc a 105 3 r aa/\(aa=[]->r= .l [] U U/\a=eK)) (gt (xE (.l aa I I))) eK=(eV (aX aTI 0 eK []) λk i=>eV (j5 105 aNB 24 i 7 k (.l aa I I)) λt4 j=>fe (λr a=>bc a 105 3 r aa/\(aa=[]->r= .l [] U U/\a=eK)) j [t4]) by kernel_rfl) ?_) (λr a h=>h.2);obtain⟨r,a,b,d⟩:=h;exact⟨r,a,b.1,d,λe=>(b.2 e).1⟩;simp only[nS,bQ];by_cases c:aa=[];subst c;simp only[j5,gL,vw,vm,eV,fe,aoz];grind [bc.nil];refine gD (e:=105) (new:=aa) bc.nil rfl (by decide) (by rw[show L eK=4096 from oA ..];decide) (by simp) g (by grind) λn Y' o m p _=>?_;grind [fe,aoz,absurd]
def aw1{Y:ae}{d:Nat}{K:be}{aa:List (List AV)}{x:AV}(p:dG Y x= .l aa I I)(o:∀r∈aa,L r=3)(n:L aa<1000000)(q:aa.all (λr=>r.all gY)=U)(c:d<L Y)(e:∀a Y',bc Y' 105 3 a aa->Fx Y Y' []->(∀k∈aA a,bK Y k/\k.1=d)->K a Y'):cN 219 [x] Y d K:=by obtain⟨r,i,g,h,_⟩:=aCK o n;have f:[x].map (dG Y)=[.l aa I I]:=(by simp[p]);refine .inl ⟨by rw[f];rfl,by simp[y7,c],r,i,by rw[f];exact h,?_⟩;rcases g with⟨j,rfl⟩|⟨b,rfl,m⟩;exact .inl ⟨rfl,e _ _ (.inl ⟨j,rfl⟩) (Fx.refl _ _) (by simp[aA])⟩;refine .inr ⟨b,_,_,rfl,m,?_,e _ _ (.inr ⟨lA Y d,rfl,iy c⟩) (kH c) (by simp[aA,lA,bK])⟩;grind [qA]
theorem axq(n c:Nat)(w:World)(R:Ending->World->Prop)(a:R (.returned (.slice J 0 0)) w):Calls aS 136 #[.slice J n c] w R:=by have b:=λ(W:World)=>run_eql_slice_nil (P:=aS) W 37 2 J n c (by kernel_rfl);go_enter Tryz.func136,Tryz.ntmps136;go_wp2;exact a
theorem axu(A:Addr)(n c:Nat)(w:World)(R:Ending->World->Prop)(b:(nU Tryz.f136).wp aS (bodyPost aS Tryz.f136 R) {tmps:=#[.slice (V A) n c,undef, .slice J 0 0, .slice (V A) n c, .bool I,undef,undef,undef],defers:=[]} w):Calls aS 136 #[.slice (V A) n c] w R:=by have d:=λ(W:World)=>run_eql_slice_nil (P:=aS) W 37 2 (V A) n c (by kernel_rfl);go_enter Tryz.func136,Tryz.ntmps136;generalize a:(BM 3 _ I).seq ET=T;go_wp2;subst a;exact b
def aCN{aa:List (List AV)}(g:∀r∈aa,L r=1)(q:L aa<1000000):∃r a,bc a 2 1 r aa/\cZ aS GG 136 [.l aa I I] eK r a/\(aa=[]->r= .l [] U U):=by have h:=DX (fn:=136) (f:=Tryz.f136) (an:=[J,J]) Tryz.func136 rfl rfl (by grind [axq]) (by grind [axu]) (by kernel_rfl) (by kernel_rfl) (aa:=aa) (R:=λr a=>bc a 2 1 r aa/\(aa=[]->r= .l [] U U/\a=eK)) (aND (show iV aS GG [] [J,J] (nU Tryz.f136) 0 (tO aS Tryz.f136 λr a=>bc a 2 1 r aa/\(aa=[]->r= .l [] U U/\a=eK)) (gt (xE (.l aa I I))) eK=(eV (aX yW 0 eK []) λk i=>eV (j5 2 EN 8 i 7 k (.l aa I I)) λt4 j=>fe (λr a=>bc a 2 1 r aa/\(aa=[]->r= .l [] U U/\a=eK)) j [t4]) by kernel_rfl) ?_) (λr a h=>h.2);obtain⟨r,a,b,d⟩:=h;exact⟨r,a,b.1,d,λe=>(b.2 e).1⟩;simp only[nS,bQ];by_cases c:aa=[];subst c;simp only[j5,gL,vw,vm,eV,fe,aoz];grind [bc.nil];refine gD (e:=2) (new:=aa) bc.nil rfl (by decide) (by rw[show L eK=4096 from oA ..];decide) (by simp) g (by grind) λn Y' o m p _=>?_;grind [fe,aoz,absurd]
def alG{Y:ae}{d:Nat}{K:be}{aa:List (List AV)}{x:AV}(p:dG Y x= .l aa I I)(o:∀r∈aa,L r=1)(n:L aa<1000000)(q:aa.all (λr=>r.all gY)=U)(c:d<L Y)(e:∀a Y',bc Y' 2 1 a aa->Fx Y Y' []->(∀k∈aA a,bK Y k/\k.1=d)->K a Y'):cN 136 [x] Y d K:=by obtain⟨r,i,g,h,_⟩:=aCN o n;have f:[x].map (dG Y)=[.l aa I I]:=(by simp[p]);refine .inl ⟨by rw[f];rfl,by simp[y7,c],r,i,by rw[f];exact h,?_⟩;rcases g with⟨j,rfl⟩|⟨b,rfl,m⟩;exact .inl ⟨rfl,e _ _ (.inl ⟨j,rfl⟩) (Fx.refl _ _) (by simp[aA])⟩;refine .inr ⟨b,_,_,rfl,m,?_,e _ _ (.inr ⟨lA Y d,rfl,iy c⟩) (kH c) (by simp[aA,lA,bK])⟩;grind [qA]
def jC(l:List Int):Prop:=∀i,i+1<L l->gd l i<gd l (i+1)
def AD{l:List Int}(h:jC l):∀{i j:Nat},i<j->j<L l->gd l i<gd l j:=by intro i j c a;induction j with|zero=>omega|succ j e=>have d:=h j a;grind
section
variable{Y:ae}{b:Id}{l:List Int}{n:Nat}{K:d7}
def mx{e:TypeId}{i:Int}{o v:Bool}{aa:List (List AV)}(d:box Y b=V ⟨e,1,o,v,aa⟩)(h:aF n i):rV (cz 1 Y (.m b n) (iv i)) K=K (.p b i.toNat 0):=by have a:0<=i:=h.1;have c:i.toNat<n:=(by have:=h.1;have:=h.2;omega);grind [cz,rV]
def ml{e:TypeId}{o v:Bool}{k:Nat}(a:box Y b=V ⟨e,1,o,v,l.map ci⟩)(c:k<L l):kb J Y (.p b k 0)=V (iv (gd l k)):=by grind [kb,iE,aN,bT]
end
theorem aIh{l:List Int}{k:Nat}{x:Int}:(l.map ci).set k ((ci (gd l k)).set 0 (iv x))=(l.set k x).map ci:=by simp
def Qo{Y:ae}{b:Id}{l:List Int}{k:Nat}{x:Int}{K:ae->Prop}(c:box Y b=V ⟨3,1,U,I,l.map ci⟩)(d:k<L l)(a:∀Y',Fx Y Y' [b]->box Y' b=V ⟨3,1,U,I,(l.set k x).map ci⟩->K Y'):sV (aK 1 Y (.p b k 0) (iv x)) K:=by have e:(l.map ci)[k]?=V (ci (gd l k)):=(by grind [eC,bT]);grind [wL,aIh]
def Dt{a b:List Int}{k:Nat}(h:k<L a):gd (a++b) k=gd a k:=by grind [bT,List.getElem_append_left]
def aBD{a:List Int}{j k:Nat}(h:k<j)(c:k<L a):gd (a.take j) k=gd a k:=by grind [bT]
def aBB{a d:List Int}{t:Int}:gd (a++t::d) (L a)=t:=by grind [bT]
def aIA{r:List Int}{t:Int}{j:Nat}(c:0<j)(g:j<=L r):((r.take j++t::r.drop j).set j (gd r (j-1))).set (j-1) t=r.take (j-1)++t::r.drop (j-1):=by obtain⟨i,rfl⟩:∃i,j=i+1:=⟨j-1,by omega⟩;have a:i<L r:=(by omega);have d:r.take (i+1)=r.take i++[gd r i]:=(by rw[iJ a,bT a]);have e:r.drop i=gd r i::r.drop (i+1):=(by rw[List.drop_eq_getElem_cons a,bT a]);have f:L (r.take i)=i:=(by simp;omega);simp_all
def aCw{Y:ae}{b:Id}{r:List Int}{t:Int}(q:jC r)(ht:t∉r)(hn:L r<12)(M:box Y b=V ⟨3,1,U,I,(r++[t]).map ci⟩)(hl:L Y=4096):∃y f,(y= .t []/\box f b=V ⟨3,1,U,I,(fk r t).map ci⟩/\Fx Y f [b])/\cZ aS GG 237 [.m b (L r+1),iv 0,iv ((L r+1:Nat):Int)] Y y f:=by refine aME hl ?_;simp only[JT,cS,aY,↓uL];rw[show dq.wrap (0+1)=((1:Nat):Int) from rfl];refine AI (α:=Unit) (λ_ i=>[iv i]) 0 (L r+1) 1 (by omega) (λi _ Y'=>1<=i/\box Y' b=V ⟨3,1,U,I,(if i<L r+1 then r++[t] else fk r t).map ci⟩/\Fx Y Y' [b]) (s0:=()) ⟨by omega,?_,Fx.refl _ _⟩ ?_;split;exact M;have:r=[]:=(by simp_all);subst this;exact M;rintro i _ f hi ⟨ad,p,F1⟩;simp only[aka,aI,au,u0,u1,↓uL];refine⟨λh=>?_,λh=>?_⟩;have x:=aL h;rw[bX x] at p;have e:∀{k:Nat},k<L r+1->k<L (r++[t]):=λh=>(by simp;omega);have nx:∀g,box g b=V ⟨3,1,U,I,(if i+1<L r+1 then r++[t] else fk r t).map ci⟩->Fx Y g [b]->yI (λ(_:Unit) i=>[iv i]) (L r+1) (λi _ Y'=>1<=i/\box Y' b=V ⟨3,1,U,I,(if i<L r+1 then r++[t] else fk r t).map ci⟩/\Fx Y Y' [b]) [iv (dq.wrap ((i:Int)+1))] g/\gM 0 (L r+1) [iv (dq.wrap ((i:Int)+1))] g<gM 0 (L r+1) [iv i] f:=λg N z=>yU x ⟨by omega,N,z⟩;have R:Q ((0:Int)<(i:Int))=U:=(by simp;omega);have C:∀j:Nat,0<j->j<100->dq.wrap ((j:Int)-1)=((j-1:Nat):Int):=(by grind [eM]);rcases jj i (L r) with u|u;refine⟨λvs Y'=>vs=[iv i]/\Y'=f,λ_ _=>0,⟨rfl,rfl⟩,?_⟩;rintro vs Y' ⟨rfl,rfl⟩;have T:Q (gd (r++[t]) i<gd (r++[t]) (i-1))=I:=(by rw[Dt u,Dt (by omega)];have:=AD q (show i-1<i by omega) u;simp;omega);simp only[CS,aI,au,u0,u1,R,jA,qE,C i (by omega) (by omega),mx p (dJ (show i<L r+1 by omega)),mx p (dJ (show i-1<L r+1 by omega)),bh,ml p (e (show i<L r+1 by omega)),ml p (e (show i-1<L r+1 by omega)),ar,ut,T,uO,asq,eE,vp,Ca,lS,AL,↓uL];simp_all;obtain rfl:i=L r:=(by omega);refine⟨λvs Y'=>∃j:Nat,j<=L r/\vs=[iv j]/\box Y' b=V ⟨3,1,U,I,(r.take j++t::r.drop j).map ci⟩/\(∀k,j<=k->k<L r->t<gd r k)/\Fx Y Y' [b],λvs _=>match gt vs 0 with| .s (.int _ i)=>i.toNat|_=>0,(by grind),?_⟩;rintro vs Y' ⟨j,S,rfl,o,Z,D⟩;have w:L (r.take j++t::r.drop j)=L r+1:=(by simp;omega);have G:(∀k,k<j->gd r k<t)->box Y' b=V ⟨3,1,U,I,(if L r+1<L r+1 then r++[t] else fk r t).map ci⟩:=λA=>(by rw[cj (by omega),o];congr 3;rw[QJ r t j S A (by grind),cj];grind);rcases oD j with rfl|v;simp only[CS,aI,au,u0,u1,Int.lt_irrefl,Int.ofNat_eq_natCast,Int.natCast_zero,aB9,jN,Bc,eE,vp,Ca,lS,↓uL];simp_all;have B:Q ((0:Int)<(j:Int))=U:=(by simp;omega);have O:gd (r.take j++t::r.drop j) j=t:=(by have:=aBB (a:=r.take j) (d:=r.drop j) (t:=t);simp_all);have P:gd (r.take j++t::r.drop j) (j-1)=gd r (j-1):=(by rw[Dt (by simp;omega),aBD (by omega) (by omega)]);simp only[CS,aI,au,u0,u1,B,jA,qE,C j v (by omega),mx o (dJ (show j<L r+1 by omega)),mx o (dJ (show j-1<L r+1 by omega)),bh,ml o (show j<_ by rw[w];omega),ml o (show j-1<_ by rw[w];omega),ar,ut,O,P,uO,asq,Ca,lS,AL,↓uL];refine⟨λc=>?_,λc=>?_⟩;have ab:=nt c;refine Qo o (by omega) λg z E=>?_;simp only[aj9,mx E (dJ (show j-1<L r+1 by omega)),bh,↓uL];refine Qo E (by simp;omega) λY3 W F=>?_;simp only[aj8,↓uL];refine dT rfl ?_;simp only[au,u0,u1,C j v (by omega),↓uL];rw[aIA v S] at F;refine⟨⟨j-1,by omega,rfl,F,λk X h2=>?_,(D.trans (z.trans W)).mono (by simp)⟩,by omega⟩;grind;have af:=aPy c;refine nx _ (G λk hk=>?_) D;have X:gd r (j-1)<t:=(by grind [gd,dB]);rcases jj k (j-1) with H|H;have:=AD q H (by omega);omega;grind;grind [bP,bw,fe,aoz]
def aCq{Y:ae}{b:Id}{l:List Int}(f:jC l)(c:box Y b=V ⟨3,1,U,I,l.map ci⟩)(o:L Y=4096)(s:L l<1000):∃e g,(e= .m b (L l)/\g=Y)/\cZ aS GG 185 [.m b (L l)] Y e g:=by refine aMy o ?_;have d:fS Y (.m b (L l))=V (iv (L l)):=(by simp[fS,c]);simp only[JN,d,u0,u1,↓uL];refine⟨λh=>by simp[fe,aoz],λh=>?_⟩;rw[show(1:Int)=((1:Nat):Int) from rfl];refine AI (α:=Unit) (λ_ i=>[iv i]) 0 (L l) 1 (by grind) (λi _ Y'=>1<=i/\Y'=Y) (s0:=()) ⟨by omega,rfl⟩ ?_;rintro i _ Y' r ⟨q,rfl⟩;simp only[aj0,aI,au,d,u0,u1,↓uL];refine⟨λj=>?_,λj=>by simp[fe,aoz]⟩;have a:=aL j;have p:dq.wrap ((i:Int)-1)=((i-1:Nat):Int):=(by grind [eM]);have k:Q (gd l i=gd l (i-1))=I:=(by have:=AD f (show i-1<i by omega) a;simp;omega);simp only[mx c (dJ a),bh,ml c a,u0,u1,p,mx c (dJ (show i-1<L l by omega)),ml c (show i-1<L l by omega),k,eE,vp,Ca,lS,↓uL];exact yU a ⟨by omega,rfl⟩
def alB{Y:ae}{d:Nat}{K:be}{b:Id}{t x:Int}{e:TypeId}(c:box Y b=V ⟨e,1,U,U,[[iv t]]⟩)(g:L Y=4096)(a:K (bv (Q (x=t))) Y):cF (.f 187 [] [.p b 0 0]) [iv x] Y d K:=by simp only[cF,rn];rw[cj (show¬GG.nw 187=U by decide),bX (show GG.imp 187=U by decide)];refine(aS2 rfl (aK2 g ?_) a:cB 187 [iv x, .p b 0 0] Y d K);simp only[Ij,u0,u1,c,iF,fe,aoz,ip,↓uL];grind [Fx.refl]
def aCv{Y:ae}{b c:Id}{l:List Int}{t:Int}{e:TypeId}(g:box Y b=V ⟨3,1,U,I,l.map ci⟩)(r:box Y c=V ⟨e,1,U,U,[[iv t]]⟩)(o:L Y=4096)(w:L l<1000):∃d i,(d=iv (oW l t)/\Fx Y i [])/\cZ aS GG 222 [.m b (L l), .f 187 [] [.p c 0 0]] Y d i:=by refine aMB o ?_;have q:fS Y (.m b (L l))=V (iv (L l)):=(by simp[fS,g]);simp only[JQ,q,u0,u1,↓uL];refine yV (L l) (λk _ Y'=>Y'=Y/\∀j,j<k->gd l j≠t) ⟨rfl,by simp⟩ ?_;rintro k _ Y' v ⟨rfl,u⟩;simp only[aj6,aI,au,u0,u1,↓uL];refine⟨λh=>?_,λh=>?_⟩;have a:=aL h;simp only[mx g (dJ a),bh,ml g a,aY,↓uL];refine alB r o ?_;simp only[u0,u1,↓uL];refine⟨λs=>?_,λs=>yU a (by grind)⟩;grind [fe,aoz,anR,Fx.refl];grind [fe,aoz,anS,C3,bw,Fx.refl]
def gH(s:aW)(bb lD:Int)(k:Nat):Int:=if eh s bb k=[] then-1 else if lD∈eh s bb k then lD else gd (eh s bb k) 0
theorem AN{s:aW}{bb x:Int}{k:Nat}:x∈eh s bb k↔∃i:Nat,i<k/\pe s bb i=U/\x=i:=by grind [eh]
theorem Li{s:aW}{bb:Int}{k:Nat}(h:eh s bb k≠[]):0<=gd (eh s bb k) 0/\gd (eh s bb k) 0<k:=by grind [dB,eh,aqS,AN]
def axd{s:aW}{bb lD:Int}{k:Nat}(h:0<=gH s bb lD k):gH s bb lD k<k/\eh s bb k≠[]:=by grind [gH,AN,Li]
def axe{s:aW}{bb lD:Int}{k:Nat}:gH s bb lD (k+1)=if(pe s bb k&&(Q (gH s bb lD k<0)||Q ((k:Int)=lD)))=U then(k:Int) else gH s bb lD k:=by have d:=vc s bb k;cases j:pe s bb k with|false=>grind [eE,gH]|true=>rw[j,bX rfl] at d;simp only[iw];by_cases c:eh s bb k=[];have f:gH s bb lD k= -1:=(by grind [gH]);rw[f,bX (by simp),gH,d,c];simp only[dW,List.cons_ne_nil,aNV,cE];split;omega;rfl;have m:¬gH s bb lD k<0:=(by rw[gH,cj c];split;grind [AN];simp_all [Li]);rw[show Q (gH s bb lD k<0)=I by grind,lG];rw[gH,d,cj (by simp)];by_cases i:(k:Int)=lD;simp_all;rw[cj (show¬Q ((k:Int)=lD)=U by simpa using i),gH,cj c];have e:lD∈eh s bb k++[(k:Int)]↔lD∈eh s bb k:=(by grind);have g:gd (eh s bb k++[(k:Int)]) 0=gd (eh s bb k) 0:=Dt (aqS.2 c);by_cases a:lD∈eh s bb k;rw[bX (e.2 a),bX a];rw[cj (λh=>a (e.1 h)),cj a,g]
def giT{Y:ae}{a:AV}{l:List bF}{k:Nat}{K:d7}(d:bc Y 105 3 a (l.map bF.c))(g:k<L l):(rV (cz 3 Y a (iv k)) λt=>rV (kb (V 3) Y t) K)=K (.a (gd l k).c):=by rcases d with⟨e,_⟩|⟨b,rfl,f⟩;simp_all;simp_all [cz,rV,kb,iE,aN,bT,bF.c]
def DB{Y:ae}{a:AV}{l:List bF}{i:Int}{j:Nat}{x:Value}{K:AV->be}(r:bc Y 105 3 a (l.map bF.c))(e:aF (L l) i)(y:j<3)(g:bF)(v:(gd l i.toNat).c.set j (.s x)=g.c)(t:∀b Y',aA a=[b]->Fx Y Y' (aA a)->bc Y' 105 3 a ((l.set i.toNat g).map bF.c)->K (.p b i.toNat 0) (.p b i.toNat j) Y'):rV (cz 3 Y a (iv i)) λp=>rV (iQ j Y p) λq=>sV (aK 1 Y q (.s x)) (K p q):=by have o:i.toNat<L l:=(by have:=e.1;have:=e.2;omega);rcases r with⟨w,_⟩|⟨b,rfl,d⟩;simp_all;have f:cz 3 Y (.m b (L (l.map bF.c))) (iv i)=V (.p b i.toNat 0):=(by simp[cz,e.1,d,o]);rw[f];simp only[rV,rR,d,df,aj];have u:(l.map bF.c)[i.toNat]?=V (gd l i.toNat).c:=(by grind [eC,bT]);refine wL d u (by grind [bF.c]) λY' h k=>t b Y' rfl h ?_;rw[v] at k;refine .inr ⟨b,by simp,?_⟩;simp_all
def aCD(s:aW)(bb lD:Int){T x2 f:AV}{Y:ae}(B:L Y=4096)(hn:L s.ay<1000)(P:bc Y 105 3 f (s.ay.map bF.c)):∃r d,(r=iv (gH s bb lD (L s.ay))/\bc d 105 3 f ((if 0<=gH s bb lD (L s.ay) then s.ay.set (gH s bb lD (L s.ay)).toNat {gd s.ay (gH s bb lD (L s.ay)).toNat with cQ:=4} else s.ay).map bF.c)/\Fx Y d (aA f))/\cZ aS GG 188 [.a [T,iv s.tx,x2,f],iv bb,iv lD] Y r d:=by refine aK7 B rfl λq v3 K2 aa nf v=>?_;have u:=K2.fx [];have x:=P.fx u (by simp);have C:L q=4096:=K2.len.trans B;simp only[Ir,u0,u1,v,aj,iF,nM,ip,lnI x,bJ,↓uL];refine jD (α:=Int) (λa i=>[iv a,iv i]) 1 (L s.ay) (λk a Y'=>a=gH s bb lD k/\Fx q Y' []) (s0:= -1) ⟨by simp[gH,eh],Fx.refl _ _⟩ ?_;rintro k _ d hk ⟨rfl,e⟩;have y:=x.fx e (by simp);have Z:L d=4096:=e.len.trans C;have N:=e.kq v;simp only[abF,aI,au,ck,u0,u1,di,↓uL];refine⟨λh=>?_,λh=>?_⟩;have j:=aL h;simp only[abE,au,ck,giT y j,↓uL];refine alI rfl (by decide) (by omega) λS Y2 G N2 O=>?_;refine cy (cs:=bF.c (gd s.ay k)) O rfl rfl (by decide) λm H w=>?_;have o:box m (9,S)=V ⟨105,3,U,U,[bF.c (gd s.ay k)]⟩:=w;have t:Fx d m []:=(G.trans H).mono (by grind [bK.no]);have E:∀a:Int,a=gH s bb lD (k+1)->Iv [iv (gH s bb lD k),iv k] (yI (λa i=>[iv a,iv i]) (L s.ay) λk a Y'=>a=gH s bb lD k/\Fx q Y' []) (gM 1 (L s.ay)) d [iv a] m:=(by rintro a rfl;simp only[Iv,aI,au,ck,u0,u1,↓uL];exact dR (mk:=λa i=>[iv a,iv i]) (p:=1) (s:=gH s bb lD k) (s':=gH s bb lD (k+1)) (λ_ _=>rfl) j (by omega) ⟨rfl,e.trans t⟩);have W:=axe (s:=s) (bb:=bb) (lD:=lD) (k:=k);have D:(Q ((gd s.ay k).cQ=3)&&Q ((gd s.ay k).cond=bb))=pe s bb k:=rfl;simp+contextual only[abC,u0,u1,o,rk,ar,ut,aj,au,ck,D,↓uL];refine⟨λR=>E _ ?_,λR=>E _ ?_⟩;simp_all;simp_all;obtain rfl:k=L s.ay:=(by grind);have M:Fx Y d []:=(u.trans e).mono (by simp);simp only[abD,au,ck,u0,u1,↓uL];refine⟨λA=>?_,λA=>?_⟩;have g:=nt A;have z:=(axd g).1;simp only[N,u0,u1,aj,iF,nM,ip,↓uL];refine DB y ⟨g,z⟩ (by decide) {gd s.ay (gH s bb lD (L s.ay)).toNat with cQ:=4} rfl λb Y' X F g'=>?_;simp only[Iu,aI,au,fe,aoz,↓uL];refine⟨trivial,?_,(M.trans F).mono (by simp_all)⟩;simp_all;simp only[Iu,aI,au,fe,aoz,↓uL];grind [Fx.mono]
abbrev mH(s:aW)(l:List Int):aW:=l.foldl (λs u=>ni s u {fA s u with cQ:=4}) s
def anr:∀(l:List Int) (s:aW),L (mH s l).ay=L s.ay
 |[],s=>rfl
 |u::l,s=>by
  show L (mH (ni s u _) l).ay=_
  rw[anr l];simp[ni]
theorem anq:∀(l:List Int) (s:aW) (k:Nat),(∀u∈l,u.toNat≠k)->gd (mH s l).ay k=gd s.ay k
 |[],s,k,_=>rfl
 |u::l,s,k,h=>by
  show gd (mH (ni s u _) l).ay k=_
  rw[anq l _ k (by simp_all)]
  grind [ni,gd]
def aD2(s:aW)(l:List Int)(u:Int):mH s (l++[u])=ni (mH s l) u {fA (mH s l) u with cQ:=4}:=by simp[mH]
def aCE(s:aW)(bb:Int){x1 x2 d:AV}{Y:ae}(F:L Y=4096)(hn:L s.ay<1000)(v:bc Y 105 3 d (s.ay.map bF.c)):∃r f,(r=iv (L (fO s bb))/\bc f 105 3 d ((mH s (fO s bb)).ay.map bF.c)/\Fx Y f (aA d))/\cZ aS GG 189 [.a [x1,iv s.tx,x2,d],iv bb] Y r f:=by refine aK8 F rfl λO v3 K2 ah nf q=>?_;have z:=K2.fx [];have C:=v.fx z (by simp);have H:L O=4096:=K2.len.trans F;have y:∀{P:ae} {l:List bF} {w:Id} {x:bY},bc P 105 3 d (l.map bF.c)->box P w=V x->x.var=U->w∉aA d:=λv hw hx hm=>(by rcases v with⟨_,rfl⟩|⟨b,rfl,o⟩;simp[aA] at hm;grind [aA,cE]);simp only[Is,u0,u1,q,aj,iF,nM,ip,lnI C,bJ,↓uL];refine jD (α:=Int) (λa i=>[iv a,iv i]) 1 (L s.ay) (λk a Y'=>a=(L (eh s bb k):Int)/\bc Y' 105 3 d ((mH s (eh s bb k)).ay.map bF.c)/\Fx O Y' (aA d)) (s0:=0) (by grind [eh,Fx.refl]) ?_;rintro k _ f hk ⟨rfl,u,g⟩;have G:L f=4096:=g.len.trans H;have W:=g.keep _ _ (y C q rfl) q;have M:=anr (eh s bb k) s;have ag:=wU s bb k;simp only[abB,aI,au,ck,u0,u1,di,↓uL];refine⟨λh=>?_,λh=>?_⟩;have j:=aL h;have E:gd (mH s (eh s bb k)).ay k=gd s.ay k:=(by grind [anq,AN]);simp only[abA,au,ck,giT u (by rw[M];exact j),E,↓uL];refine so G λv9 Y2 S N2 Z=>?_;refine cy (cs:=bF.c (gd s.ay k)) Z rfl rfl (by decide) λA T B=>?_;have t:box A (7,v9)=V ⟨105,3,U,U,[bF.c (gd s.ay k)]⟩:=B;have e:Fx f A []:=(S.trans T).mono (by grind [bK.no]);have D:=u.fx e (by simp);have X:=e.kq W;have m:=vc s bb k;have N:(Q ((gd s.ay k).cQ=3)&&Q ((gd s.ay k).cond=bb))=pe s bb k:=rfl;simp+contextual only[abz,u0,u1,t,rk,ar,ut,aj,au,ck,N,↓uL];refine⟨λo=>?_,λo=>?_⟩;rw[o,bX rfl] at m;simp only[X,u0,u1,aj,iF,nM,ip,↓uL];refine DB D (by grind [dJ]) (by decide) {fA (mH s (eh s bb k)) k with cQ:=4} rfl λb Y' af R g'=>?_;simp only[It,aI,au,ck,u0,u1,↓uL];refine dR (mk:=λa i=>[iv a,iv i]) (p:=1) (s:=(L (eh s bb k):Int)) (s':=dq.wrap ((L (eh s bb k):Int)+1)) (λ_ _=>rfl) j (by omega) ?_;refine⟨?_,?_,(g.trans (e.trans R)).mono (by simp_all)⟩;grind [fX];rw[m,aD2];exact g';rw[o] at m;simp only[eE,aNV,cL] at m;simp only[It,aI,au,ck,u0,u1,↓uL];refine dR (mk:=λa i=>[iv a,iv i]) (p:=1) (s:=(L (eh s bb k):Int)) (s':=(L (eh s bb k):Int)) (λ_ _=>rfl) j (by omega) ?_;rw[m];exact⟨rfl,D,(g.trans e).mono (by simp_all)⟩;obtain rfl:k=L s.ay:=(by grind);simp only[fe,aoz];exact⟨rfl,u,(z.trans g).mono (by simp_all)⟩
def apl:dO:=apn
def yR:eJ apl:=wR
def aBn:=@ut
def atE:=bi 13 [(4,([13],[1,2,3,11,12]))]
def abo b i k l j m p a o n(g:aG)(c:bu) h d:=dH [km,km,(bo b),(bo i),(bo b),(bo k),(lb I [(.f 98 [] []),l] [24]),(lb U [j,m] []),(lb U [p,(gt a 0)] []),(lb I [o,n] [])] [(0,6),(1,6),(2,6),(3,6)] (aV (gt a 0) (iv 1) λe=>g [e] d/\c [e] d<c a h)
def abq c n a g k l m h i j d b:=rV (bM aO9 O7 [(0,c),(1,d)]) λe=>ao 2 b n (gt a 0) λf=>sV (aK 2 b f e) (abo g k l m c d n a f e h i j)
def abr b k f g h i a:=aB 0 a b λc=>aM a c λj=>aB 1 a b λd=>aM a d λe=>cN 98 [e] a 24 (abq j k f b c d e g h i)
def abs c t3 R a:=aw 4 a c λd=>sV (aK 4 a t3 d) λb=>aw 4 b t3 λe=>fe R b [e]
def abt b t3 R c a:=aB 3 a b λd=>sV (aK 1 a d c) (abs b t3 R)
def abu b t3 R a:=ab 3 a b λc=>cN 219 [c] a 36 (abt b t3 R)
def abv b t3 R c a:=aB 2 a b λd=>sV (aK 1 a d c) (abu b t3 R)
def abw b t3 R a:=ab 2 a b λc=>cN 218 [c] a 32 (abv b t3 R)
def aby i h n d t3 R e f b a:=∀_:Rg,aU (gt b 0) i λj=>ah j (ao 2 a h (gt b 0) λk=>aw 2 a k λl=>eV (bs 131 aO9 a 5) λc g=>sV (aK 2 g c l) (abr c n b e f a)) (aB 0 a d λm=>sV (aK 1 a m n) (abw d t3 R))
def abx a t3 R e c:=ab 0 c a λb=>aJ c b λd=>lV [(iv 0)] c (aby d b e a t3 R)
def abp a R t3 b:=ab 0 b a λd=>aJ b d λc=>eV (qO 131 aTL 32 b 9 c c) (abx a t3 R)
def Iq a b R:=eV (bs 36 aNC b 2) (abp a R)
def aJp{a:AV}{s0:ae}{R:be}(h:eV (qm 36 4 s0 1 a) λb c=>Iq b c R):EB 183 [a] s0 R:=zB atE yR Tryz.func183 h
def aK6{d:List AV}{s0:ae}{R:be}(g:L s0=4096)(l0:L d=4)(h:∀(b:ae) (c:Nat),Kp s0 b->(∀k,k≠1->aZ b k=aZ s0 k)->(∀x,box s0 (1,c)≠V x)->box b (1,c)=V ⟨36,4,U,U,[d]⟩->Iq (.p (1,c) 0 0) b R):EB 183 [.a d] s0 R:=by refine aJp ?_;refine iN rfl l0 (by decide) (by decide) g λb c j g0 l e=>?_;exact h b c j (λk f=>g0 k f) (λx i=>l x ((Kp.refl _).keep _ _ i)) e
def avc:=bi 34 [(2,([1,2,3,8,9],[0])),(10,([3],[0,1,2,8,9,10])),(14,([11,12],[0,1,2,3,8,9,10])),(18,([],[0,1,2,3,8,9,10,11]))]
def arW g(h:aG) a f d c(m1:bu) i(j:AV) b:=aV g (iv 1) λe=>h [e,(gt a 1),(gt f 0),d,c] b/\m1 [e,(gt a 1),(gt f 0),d,c] b<m1 a i
def arX(g:aG) a c f e d(m1:bu) h(i:AV) b:=g [(gt a 0),c,(gt f 0),e,d] b/\m1 [(gt a 0),c,(gt f 0),e,d] b<m1 a h
def ar0 a g c f(n:aG) e(m1:bu) t3(E:eQ):=∀_:Rg,aO .gtr (gt a 0) (iv 0) λb=>fm b g λo=>fm b (gt a 0) λp=>az b (aO .sub p (iv 1)) λq=>az b (ao 1 c o q) λr=>az b (aM c r) λs=>fm b g λt=>fm b (gt f 0) λu=>az b (ao 1 c t u) λv=>az b (aM c v) λw=>az b (fV BN c [s,w]) λx=>az b (cf x) λy=>aD b y (bv I) λz=>ah z (fV (cX 244) c [g,(gt a 0),(gt a 1),(gt f 0)] λh=>n [h,(gt a 1),(gt e 0),(gt a 3),(gt a 4)] c/\m1 [h,(gt a 1),(gt e 0),(gt a 3),(gt a 4)] c<m1 a c) (fV (cX 245) c [g,(gt a 0),(gt a 1),(gt f 0)] λi=>rV (eO 0 i) λd=>rV (eO 1 i) λj=>aO .sub d (gt a 0) λk=>aO .sub (gt a 1) d λl=>aO .quo t3 (iv 8) λm=>aU k l λA=>ah A (aO .geq k m λB=>cB 220 [g,(gt a 0),d,(gt e 0)] c 121 (arW d n a e B j m1 c)) (aO .geq l m λC=>aV d (iv 1) λD=>cB 220 [g,D,(gt a 1),(gt e 0)] c 132 (arX n a d e C j m1 c)))
def ar3 a d e k R(c:cG):=fm (gt a 3) (gt a 4) λf=>aD (gt a 3) f (bv I) λb=>fm b (gt d 1) λg=>az b (bf g (iv 1)) λh=>aD b h (bv I) λi=>ah i (fV (cX 242) e [k,(gt a 0),(gt a 1)] λj=>ah j (fe R e []) (c [])) (c [])
def arZ b c d f e m1 t3 R a:=∀_:Rg,jR 18 (ar0 b c d a f e m1 t3) (ar3 b a d c R)
def ar2 d j i a c(b:cG):=bf d (iv 2) λe=>ah e (fV (cX 241) j [i,(gt a 0),(gt a 1)] λk=>aO .sub (gt a 1) (iv 1) λf=>aO .sub c (gt a 0) λg=>aO .sub f g λh=>b [h,(iv 1)]) (b [c,d])
def arY d c a h m1 t3 R g:=∀_:Rg,fV (cX 240) d [c,(gt a 0),(gt a 1)] λb=>rV (eO 0 b) λe=>rV (eO 1 b) λf=>jR 14 (arZ a c d h g m1 t3 R) (ar2 f d c a e)
def a8D a f e(b:cG):=cf (gt a 3) λc=>ah c (fV (cX 239) f [e,(gt a 0),(gt a 1)] λg=>aO .sub (gt a 2) (iv 1) λd=>b [d]) (b [(gt a 2)])
def akb c R d m1 a b:=∀_:Rg,aO .sub (gt a 1) (gt a 0) λt3=>aO .leq t3 (iv 12) λt4=>ah t4 (cB 237 [c,(gt a 0),(gt a 1)] b 27 λg e=>fe R e []) (bf (gt a 2) (iv 0) λf=>ah f (fV (cX 238) b [c,(gt a 0),(gt a 1)] λh=>fe R b []) (jR 10 (arY b c a d m1 t3 R) (a8D a b c)))
def JU a b c d s0 R:=lV [b,c,d,(bv U),(bv U)] s0 (akb a R)
def aJS{a b c d:AV}{s0:ae}{R:be}(h:JU a b c d s0 R):EB 220 [a,b,c,d] s0 R:=zB avc yR Tryz.func220 h
def aMF{a:AV}{b:AV}{c:AV}{d:AV}{s0:ae}{R:be}(e:L s0=4096)(h:JU a b c d s0 R):EB 220 [a,b,c,d] s0 R:=by refine aJS ?_;exact h
def ava:=bi 1 []
def JS a s0 R:=aJ s0 a λt1=>rV (sO (V .u64) t1) λc=>fV Fm s0 [c] λt3=>cB 220 [a,(iv 0),t1,t3] s0 10 λt4 b=>fe R b []
def aJQ{a:AV}{s0:ae}{R:be}(h:JS a s0 R):EB 184 [a] s0 R:=zB ava yR Tryz.func184 h
def aMD{a:AV}{s0:ae}{R:be}(b:L s0=4096)(h:JS a s0 R):EB 184 [a] s0 R:=by refine aJQ ?_;exact h
def au7:=bi 16 [(7,([5,6],[0,1])),(10,([5],[0,1,6]))]
def JP c(f:aG)(e:bu) g d a:=∀_:Rg,aV (gt c 1) (iv 1) λb=>f [(gt d 0),b] a/\e [(gt d 0),b] a<e c g
def aj4 d f a m(e:aG):=ao 1 d f (gt a 1) λh=>aM d h λc=>cF m [c] d 28 λi b=>cf i λj=>ah j (ao 1 b f (gt a 0) λk=>sV (aK 1 b k c) λg=>aV (gt a 0) (iv 1) λl=>e [l] g) (e [(gt a 0)] b)
def aj2 d c R a:=rV (fo 1 a d J (V (gt c 0)) J) λb=>fe R a [b]
def aj5 c f R e g a b:=∀_:Rg,aJ b c λh=>aU (gt a 1) h λi=>ah i (jV 10 (JP a e g b) (aj4 b c a f)) (rV (fo 1 b c (V (gt a 0)) J J) λd=>sV (pA (.int .i64 0) b d) (aj2 c a R))
def aj3 R a c t1 b:=bf t1 (iv (-1)) λt3=>ah t3 (fe R b [a]) (aV t1 (iv 1) λt4=>lV [t1,t4] b (aj5 a c R))
def JO a b s0 R:=cB 222 [a,b] s0 10 (aj3 R a b)
def aJO{a b:AV}{s0:ae}{R:be}(h:JO a b s0 R):EB 186 [a,b] s0 R:=zB au7 yR Tryz.func186 h
def aMA{a:AV}{b:AV}{s0:ae}{R:be}(c:L s0=4096)(h:JO a b s0 R):EB 186 [a,b] s0 R:=by refine aJO ?_;exact h
def atB:=bi 12 []
def aa7 h d R i f g K a:=bf h (iv 1) λt=>ah t (ab 0 a d λu=>bf u (iv 1) λv=>aE R a [v]) (bf h (iv 17) λw=>ah w (ab 0 a d λx=>bf x (iv 4) λe=>aT e 1 a d λy=>fm e i λz=>az e (bf y z) λA=>aD e A (bv I) λc=>aT c 0 a f λB=>aT c 2 a g λC=>fm c i λD=>az c (ao 2 a C D) λE=>aT c 1 a E λF=>az c (ao 2 a B F) λG=>aT c 0 a G λH=>az c (bf H (iv (-1))) λj=>aD c j (bv I) λk=>aE R a [k]) (ab 0 a d λl=>bf l (iv 2) λb=>az b (aw 6 a g) λm=>az b (aw 4 a f) λn=>fm b K λo=>fm b h λp=>fm b i λq=>az b (fV Fu a [m,n,o,p,q]) λr=>aD b r (bv I) λs=>aE R a [s]))
def In c e g h i a R:=aw 6 a c λy=>aw 4 a e λz=>fV zf a [y,z] λA=>cf A λd=>ic d g λk=>bn d 4 a c λl=>aC d (aJ a l) λm=>aC d (fV ry a [k,m]) λn=>aC d (cf n) λo=>aD d (bv U) o λb=>aC b (aw 6 a c) λp=>ic b h λq=>ic b i λr=>aC b (fV Ft a [p,q,r]) λs=>aC b (cf s) λt=>aD b (bv U) t λu=>ah u (aE R a [(bv I)]) (ab 3 a e λv=>ao 3 a v g λw=>aw 3 a w λx=>eV (bs 105 aNB a 11) λf j=>sV (aK 3 j f x) (aa7 h f R i e c g))
def aK3{b:List AV}{c:List AV}{d:AV}{e:AV}{f:AV}{R:d7}(l0:L b=6)(l1:L c=4)(h:H2 31 6 5 b 36 4 6 c λg i j=>In g i d e f j R):Ct 131 [.a b, .a c,d,e,f] R:=z2 atB yR Tryz.func131 l0 l1 h
def aCG{Y:ae}{b:Id}{r:List Int}{t:Int}{d:Int}(e:jC r)(k:t∉r)(j:L r<12)(i:box Y b=V ⟨3,1,U,I,(r++[t]).map ci⟩)(f:L Y=4096):∃a c,(a= .t []/\box c b=V ⟨3,1,U,I,(fk r t).map ci⟩/\Fx Y c [b])/\cZ aS GG 220 [.m b (L r+1),iv 0,iv ((L r+1:Nat):Int),iv d] Y a c:=by refine aMF f ?_;simp only[JU,↓uL];refine⟨λvs Y'=>vs=[iv 0,iv ((L r+1:Nat):Int),iv d,bv U,bv U]/\Y'=Y,λ_ _=>0,⟨rfl,rfl⟩,?_⟩;rintro vs Y' ⟨rfl,rfl⟩;have g:Q (((L r+1:Nat):Int)<=12)=U:=(by simp;omega);simp only[akb,aI,au,ck,u0,u1,Int.sub_zero,eM (x:=((L r+1:Nat):Int)) (by omega) (by omega),g,↓iC,↓uL];refine jH rfl (aCw e k j i f) ?_;rintro a c ⟨rfl,l,h⟩;exact⟨h.len,by grind [fe,aoz]⟩
def aCO{Y:ae}{b:Id}{r:List Int}{t:Int}(d:jC r)(l:t∉r)(j:L r<12)(e:box Y b=V ⟨3,1,U,I,(r++[t]).map ci⟩)(g:L Y=4096):∃a c,(a= .t []/\box c b=V ⟨3,1,U,I,(fk r t).map ci⟩/\Fx Y c [b])/\cZ aS GG 184 [.m b (L r+1)] Y a c:=by refine aMD g ?_;have h:fS Y (.m b (L r+1))=V (iv ((L r+1:Nat):Int)):=(by simp[fS,e]);have f:sO (V .u64) (iv ((L r+1:Nat):Int))=V (.s (.int .u64 ((L r+1:Nat):Int))):=(by show V (AV.s (.int .u64 (IntKind.u64.wrap _)))=_;grind [IntKind.wrap_u64]);simp only[JS,h,aY,f,ar,ut,jM,↓uL];refine⟨by omega,?_⟩;rintro k ⟨n,rfl⟩;refine⟨.inl rfl,?_⟩;refine jH rfl (aCG d l j e g) ?_;rintro a c ⟨rfl,o,i⟩;exact⟨i.len,by grind [fe,aoz]⟩
def apJ{l:List Int}{t:Int}{j:Nat}(h:j<L l):fJ (l.take (j+1)) t=fJ (l.take j) t++if gd l j≠t then[gd l j] else[]:=by grind [fJ,iJ,bT]
def aE6{l:List Int}{t:Int}(h:t∈l):∃i:Nat,oW l t=i/\i<L l/\gd l i=t/\∀j,j<i->gd l j≠t:=by have a:(l.findIdx? λx=>Q (x=t)).isSome=U:=(by simp_all);grind [zz,List.findIdx?_eq_some_iff_getElem,oW,bT]
def aCs{Y:ae}{b c:Id}{l:List Int}{t:Int}{e:TypeId}(hm:t∈l)(B:box Y b=V ⟨3,1,U,I,l.map ci⟩)(D:box Y c=V ⟨e,1,U,U,[[iv t]]⟩)(z:L Y=4096)(hn:L l<1000):∃x n,(x= .m b (L (fJ l t))/\box n b=V ⟨3,1,U,I,(fJ l t++er (L l-L (fJ l t)) 0).map ci⟩/\Fx Y n [b])/\cZ aS GG 186 [.m b (L l), .f 187 [] [.p c 0 0]] Y x n:=by refine aMA z ?_;have C:c≠b:=(by grind);simp only[JO,↓uL];refine aS2 rfl (aCv B D z hn) ?_;obtain⟨v,hp,N,M,ac⟩:=aE6 hm;rw[hp];have R:Q ((v:Int)= -1)=I:=(by simp);simp only[aj3,u0,u1,R,eE,vp,Ca,lS,↓uL];rw[fX (by omega)];have X:fJ (l.take (v+1)) t=l.take v:=(by rw[apJ N,cj (by simp[M]),cL,fJ,List.filter_eq_self];grind [ou,bT]);refine AI (α:=Nat) (λa i=>[iv (a:Int),iv i]) 1 (L l) (v+1) (by omega) (λj a Y'=>∃d:List Int,a=L (fJ (l.take j) t)/\a<j/\L d=L l/\d.take a=fJ (l.take j) t/\d.drop j=l.drop j/\box Y' b=V ⟨3,1,U,I,d.map ci⟩/\Fx Y Y' [b]) (s0:=v) ⟨l,?_,by omega,rfl,?_,rfl,B,Fx.refl _ _⟩ ?_;grind;rw[X];rintro j a n hj ⟨d,A,ak,F,W,K,o,r⟩;have O:L n=4096:=r.len.trans z;have c1:=r.keep _ _ (by simpa using C) D;have P:fS n (.m b (L l))=V (iv (L l)):=(by simp[fS,o]);simp only[aj5,aI,au,ck,P,u0,u1,↓uL];refine⟨λh=>?_,λh=>?_⟩;have q:=aL h;have H:gd d j=gd l j:=(by have h1:(d.drop j)[0]?=(l.drop j)[0]?:=(by rw[K]);grind [eC,bT]);have w:=apJ (t:=t) q;simp only[di,aj4,au,ck,mx o (dJ q),bh,ml o (show j<L d by omega),aY,H,↓uL];refine alB c1 O ?_;simp only[u0,u1,↓uL];refine⟨λhv=>?_,λhv=>?_⟩;have u:gd l j≠t:=(by grind);rw[bX u] at w;simp only[mx o (dJ (show a<L l by omega)),bh];refine Qo o (by omega) λY2 Z b2=>?_;simp only[JP,aI,au,ck,u0,u1,↓uL];rw[fX (k:=a) (by omega)];refine dR (mk:=λ(a:Nat) i=>[iv (a:Int),iv i]) (p:=1) (s:=a) (s':=a+1) (λ_ _=>rfl) q (by omega) ?_;refine⟨d.set a (gd l j),by simp_all,by omega,by simp[F],?_,?_,b2,(r.trans Z).mono (by simp)⟩;grind [iJ,List.take_set_of_le];rw[List.drop_set_of_lt (by omega)];have:d.drop (j+1)=(d.drop j).drop 1:=(by simp);simp_all;have u:gd l j=t:=(by grind);rw[cj (by simp[u]),cL] at w;simp only[JP,aI,au,ck,u0,u1,↓uL];refine dR (mk:=λ(a:Nat) i=>[iv (a:Int),iv i]) (p:=1) (s:=a) (s':=a) (λ_ _=>rfl) q (by omega) ?_;refine⟨d,by simp_all,by omega,F,by simp_all,?_,o,r⟩;have:d.drop (j+1)=(d.drop j).drop 1:=(by simp);simp_all;obtain rfl:j=L l:=(by grind);rw[gV] at A W;have T:fo 1 n (.m b (L l)) (V (iv (a:Int))) J J=V (.g 2 b a (L l-a)):=(by simp only[fo,lM];grind [qY,bh]);simp only[T,aY,↓uL];have E:pA (.int .i64 0) n (.g 2 b a (L l-a))=V (wr n b ⟨3,1,U,I,(d.take a++er (L l-a) 0++d.drop (L l)).map ci⟩):=(by simp only[pA,o];rw[bX ⟨trivial,by omega⟩];congr 3;rw[show a+(L l-a)=L l by omega];simp);simp only[E,aoq,aj2,au,↓uL];have y:=lO (x':=⟨3,1,U,I,(d.take a++er (L l-a) 0++d.drop (L l)).map ci⟩) o;have S:fo 1 (wr n b ⟨3,1,U,I,(d.take a++er (L l-a) 0++d.drop (L l)).map ci⟩) (.m b (L l)) J (V (iv (a:Int))) J=V (.m b a):=(by simp only[fo,lM];rw[bX (by omega)];simp only[qY,y,qd,bh,mi];rw[bX ⟨trivial,trivial,by omega⟩]);simp only[S,aY,fe,aoz,↓uL];have G:d.drop (L l)=[]:=(by grind);rw[G,cL,W] at y;subst A;rw[show d.take (L (fJ l t))++er (L l-L (fJ l t)) 0++d.drop (L l)=fJ l t++er (L l-L (fJ l t)) 0 by simp_all];exact⟨rfl,y,(r.trans (wc o)).mono (by simp)⟩
def anf{Y a:ae}{b:Id}{x:bY}(c:Fx Y a [b])(h:box a b=V x):LoC b x Y a:=⟨c.len,c.lB,(by grind [Fx.keep]),h⟩
def awP{Y:ae}{d:Nat}{K:be}{b:Id}{l:List Int}(e:jC l)(c:box Y b=V ⟨3,1,U,I,l.map ci⟩)(j:L Y=4096)(k:L l<1000)(i:∀Y',Fx Y Y' [b]->box Y' b=V ⟨3,1,U,I,l.map ci⟩->K (.m b (L l)) Y'):cN 185 [.m b (L l)] Y d K:=by refine .inr (.inl ⟨.m b (L l),b,_,⟨3,1,U,I,l.map ci⟩,L l,rfl,c,(by grind [qA,gY]), .inr ⟨_,rfl⟩,λg f n=>?_,i _ (wc c) (lO c)⟩);have a:box g b=V ⟨3,1,U,I,l.map ci⟩:=(by grind [nQ,pP,dC,dK]);obtain⟨r,o,⟨rfl,rfl⟩,h⟩:=aCq e a (f.trans j) k;exact⟨_,h,anf (Fx.refl _ _) a⟩
def awR{Y:ae}{d:Nat}{K:be}{b c:Id}{l:List Int}{t:Int}{e:TypeId}(u:t∈l)(a:box Y b=V ⟨3,1,U,I,l.map ci⟩)(z:box Y c=V ⟨e,1,U,U,[[iv t]]⟩)(s:L Y=4096)(v:L l<1000)(q:∀Y',Fx Y Y' [b]->box Y' b=V ⟨3,1,U,I,(fJ l t++er (L l-L (fJ l t)) 0).map ci⟩->K (.m b (L (fJ l t))) Y'):cN 186 [.m b (L l), .f 187 [] [.p c 0 0]] Y d K:=by have x:L (fJ l t)<=L l:=fZ _ _;refine .inr (.inl ⟨.m b (L (fJ l t)),b,_,⟨3,1,U,I,(fJ l t++er (L l-L (fJ l t)) 0).map ci⟩,L l,rfl,a,(by grind [qA,gY]), .inr ⟨_,rfl⟩,λg k w=>?_,q _ (wc a) (lO a)⟩);have i:box g b=V ⟨3,1,U,I,l.map ci⟩:=(by grind [nQ,pP,dC,dK]);have j:box g c=V ⟨e,1,U,U,[[iv t]]⟩:=(by grind [nQ,pP,dC,dK]);obtain⟨r,y,⟨rfl,n,o⟩,h⟩:=aCs u i j (k.trans s) v;exact⟨_,h,anf o n⟩
theorem Ny{x:Int}{l:List Int}:jC (x::l)↔(∀y∈l.head?,x<y)/\jC l:=by constructor;intro h;refine⟨λy a=>?_,λi b=>by have:=h (i+1) (by simp;omega);grind [gd]⟩;(cases l with|nil=>simp at a|cons z l=>simp only[List.head?_cons,Option.mem_def,bE] at a;subst a;have:=h 0 (by simp);grind [gd]);rintro⟨d,c⟩ i b;cases i with|zero=>(cases l with|nil=>simp at b|cons z l=>simp_all [gd])|succ i=>have:=c i (by simp_all);grind [gd]
def aE9{l:List Int}{t:Int}:∀y∈(fk l t).head?,y=t\/y∈l.head?:=by cases l with|nil=>simp[fk]|cons x l=>grind [fk]
def Nz:∀{l:List Int} {t:Int},jC l->jC (fk l t)
 |[],t,_=>by intro i c;simp[fk] at c
 |x::l,t,h=>by
  have b:=Ny.1 h
  simp only[fk]
  split
  ·rename_i d
   refine Ny.2 ⟨λy a=>?_,Nz b.2⟩
   rcases aE9 y a with rfl|a
   ·exact d
   simp_all
  grind [Ny]
def an0:∀{l:List Int} {t:Int},(∀x∈l,x<t)->fk l t=l++[t]
 |[],t,_=>rfl
 |x::l,t,h=>by
  simp only[fk,bX (h x (by simp)),zn]
  rw[an0 (by simp_all)]
def an3{l:List Int}(h:jC l):∀k,k<=L l->jh [] l k=l.take k
 |0,_=>rfl
 |k+1,f=>by
  have a:k<L l:=by omega
  have c:jh [] l (k+1)=fk (jh [] l k) (gd l k):=by
   grind [jh,iJ,bT]
  rw[c,an3 h k (by omega),iJ a,<-bT a]
  refine an0 λx d=>?_
  obtain⟨j,e,rfl⟩:=ou d
  have b:j<k:=by grind
  have:=AD h b a
  grind [bT]
def Ro{l:List Int}{t:Int}(h:jC l):mP l [t]=fk l t:=by show jh (jh [] l (L l)) [t] 1=_;rw[an3 h _ (dA _),gV];rfl
def io(n:Nat)(f:Nat->List AV):List (List AV):=(aH n).map f
def aH0{n:Nat}{f:Nat->List AV}:L (io n f)=n:=by simp[io]
def uU{n:Nat}{f:Nat->List AV}{k:Nat}(h:k<n):(io n f)[k]?=V (f k):=by simp[io,h]
def yC{n:Nat}{f g:Nat->List AV}(h:∀i,i<n->f i=g i):io n f=io n g:=ja λi a=>h i (fq.1 a)
def Bl{n:Nat}{f:Nat->List AV}{k:Nat}{x:List AV}:(io n f).set k x=io n λi=>if i=k then x else f i:=by refine zp (by simp[io]) λj a b=>?_;grind [io]
def Q0{n:Nat}{x:List AV}:er n x=io n λ_=>x:=by refine zp (by simp[io]) λj a b=>?_;simp[io]
def aH1{α:Type}[Inhabited α]{l:List α}{g:α->List AV}:(l.map g)=io (L l) λi=>g (gd l i):=by refine zp (by simp[io]) λj a b=>?_;grind [io,bT]
def qg(Y:ae)(e:TypeId)(z:Nat)(a:AV)(aa:List (List AV)):Prop:=(aa=[]/\a= .l [] U U)\/∃b c,a= .m b (L aa)/\box Y b=V ⟨e,z,U,I,c⟩/\c.take (L aa)=aa
theorem qg.fx{Y Y':ae}{ks:List Id}{e:TypeId}{z:Nat}{a:AV}{aa:List (List AV)}(i:qg Y e z a aa)(g:Fx Y Y' ks)(j:∀b∈aA a,b∉ks):qg Y' e z a aa:=by rcases i with h|⟨b,c,rfl,d,f⟩;exact .inl h;exact .inr ⟨b,c,rfl,g.keep b _ (j b (by simp[aA])) d,f⟩
def bc.x{Y:ae}{e:TypeId}{z:Nat}{a:AV}{aa:List (List AV)}(d:bc Y e z a aa):qg Y e z a aa:=by rcases d with h|⟨b,rfl,c⟩;exact .inl h;exact .inr ⟨b,aa,rfl,c,gV⟩
def qg.ids{Y:ae}{e:TypeId}{z:Nat}{a:AV}{aa:List (List AV)}(d:qg Y e z a aa):∀k∈aA a,∃c,box Y k=V ⟨e,z,U,I,c⟩:=by rcases d with⟨_,rfl⟩|⟨b,c,rfl,f,g⟩;simp[aA];grind [aA,cE]
def qg.ce{Y:ae}{e:TypeId}{z:Nat}{a:AV}{aa:List (List AV)}(c:qg Y e z a aa):eY a=V [a]:=by rcases c with⟨_,rfl⟩|⟨b,_,rfl,_⟩<;>rfl
theorem qg.fr{Y:ae}{e:TypeId}{a:AV}{l:List Int}(f:qg Y e 1 a (l.map ci)):rS Y a=sl ci l:=by rcases f with⟨h,rfl⟩|⟨b,g,rfl,c,d⟩;simp at h;subst h;rfl;simp only[rS,aOn,c,vm,gK];rw[d];rfl
def vC(Y:ae)(a:AV)(ls:List cg):Prop:=∃(b:Id) (f:Nat->AV),a= .m b (L ls)/\box Y b=V ⟨131,2,U,U,io (L ls) λi=>[iv (gd ls i).pw,f i]⟩/\(∀i,i<L ls->bc Y 3 1 (f i) ((gd ls i).bk.map ci))/\(∀i j,i<L ls->j<L ls->i≠j->∀k∈aA (f i),k∉aA (f j))/\∀i,i<L ls->∀k∈aA (f i),k.1=24
def sC(Y:ae)(a:AV)(ls:List cg):Prop:=∃(b:Id) (f:Nat->AV),a= .m b (L ls)/\box Y b=V ⟨131,2,U,U,io (L ls) λi=>[iv (gd ls i).pw,f i]⟩/\(∀i,i<L ls->qg Y 3 1 (f i) ((gd ls i).bk.map ci))/\∀i j,i<L ls->j<L ls->i≠j->∀k∈aA (f i),k∉aA (f j)
def Bp{Y:ae}{b:Id}{i j z y:Nat}{e:TypeId}{o:Bool}{aa:List (List AV)}{r cs:List AV}{x:AV}{K:ae->Prop}(a:box Y b=V ⟨e,z,o,U,aa⟩)(g:aa[i]?=V r)(h:eY x=V cs)(k:L cs=y)(f:j+y<=L r)(d:∀Y',Fx Y Y' [b]->box Y' b=V ⟨e,z,o,U,aa.set i (r.take j++cs++r.drop (j+y))⟩->K Y'):sV (aK y Y (.p b i j) x) K:=by have c:aK y Y (.p b i j) x=V (wr Y b ⟨e,z,o,U,aa.set i (r.take j++cs++r.drop (j+y))⟩):=(by grind [aK,aBG,pW]);rw[c];exact d _ (wc a) (lO a)
def AP{e:TypeId}{zs:List AV}{by' d n:Nat}{Y:ae}{K:be}(i:0<L zs)(h:zs.all eN=U)(a:d<L Y)(j:n*(by'+1)<=1099511627776)(g:∀b Y',b.1=d->bK Y b->Fx Y Y' []->box Y' b=V ⟨e,L zs,U,uj zs,er n (mz zs)⟩->K (.m b n) Y'):eV (qO e zs by' Y d (iv n) (iv n)) K:=by have c:qO e zs by' Y d (iv n) (iv n)=V (.m (lA Y d) n,put Y d ⟨e,L zs,U,uj zs,er n (mz zs)⟩):=(by have f:(n:Int)*((by':Int)+1)<=((1099511627776:Nat):Int):=(by grind);simp only[qO];rw[bX ⟨by omega,Int.le_refl _,i,h,by simp[y7,a],f⟩];simp);rw[c];exact g _ _ rfl (qQ Y d) (kH a) (iy a)
def aqw(s:aW)(r:AV)(f Y:ae):Prop:=∃d e b,r= .a [d,iv s.tx,e,b]/\vC Y d s.ak/\bc Y 4 1 e (s.done.map cb)/\bc Y 105 3 b (s.ay.map bF.c)/\(∀k∈aA d++aA e++aA b,bK f k)/\∀k∈aA b,k.1≠7/\k.1≠8
def aCp(s:aW){Y:ae}(hl:L Y=4096)(hp:L s.ak<1000/\L s.done<1000/\L s.ay<1000/\∀l∈s.ak,L l.bk<1000):∃r Y1,(aqw s r Y Y1/\Fx Y Y1 [])/\cZ aS GG 183 [.a s.c] Y r Y1:=by refine aK6 hl rfl λs2 n K2 bw bz b1=>?_;have D:Fx Y s2 []:=K2.fx [];have aZ:L s2=4096:=K2.len.trans hl;simp only[Iq,↓uL];refine alI rfl (by decide) (by omega) λK Y2 N N2 b2=>?_;have d1:=N.kq b1;have a0:L Y2=4096:=N.len.trans aZ;simp only[abp,u0,u1,d1,rk,aj,cT,↓uL];refine AP (by decide) (by decide) (by omega) (by omega) λd Y3 bt NL F3 aP=>?_;have hL:box Y3 d=V ⟨131,2,U,U,io (L s.ak) λ_=>[iv 0, .l [] U U]⟩:=(by rw[aP,Q0];rfl);have e1:=F3.kq d1;simp only[abx,u0,u1,e1,rk,aj,cT,↓uL];refine yV (L s.ak) (λk _ Y'=>Fx Y2 Y' []/\∃f:Nat->AV,box Y' d=V ⟨131,2,U,U,io (L s.ak) λi=>if i<k then[iv (gd s.ak i).pw,f i] else[iv 0, .l [] U U]⟩/\(∀i,i<k->bc Y' 3 1 (f i) ((gd s.ak i).bk.map ci))/\(∀i j,i<k->j<k->i≠j->∀q∈aA (f i),q∉aA (f j))/\(∀i,i<k->∀q∈aA (f i),q≠d)/\∀i,i<k->∀q∈aA (f i),q.1=24) (by simp_all) ?_;rintro k _ A hk ⟨E,f,aR,T,aO,bs,aQ⟩;have an:L A=4096:=E.len.trans a0;have g1:=E.kq d1;have g2:=E.kq b2;simp only[aby,aI,au,u0,u1,ix,rk,bh,g1,aj,↓uL];refine⟨λh=>⟨bA h,?_⟩,λh=>?_⟩;have W:=aL h;refine alI rfl (by decide) (by omega) λv5 Y5 o N5 b5=>?_;refine cy (cs:=cg.c (gd s.ak k)) b5 rfl rfl (by decide) λX t P=>?_;have aM:box X (5,v5)=V ⟨131,2,U,U,[cg.c (gd s.ak k)]⟩:=P;have C:Fx A X []:=(o.trans t).mono (by grind [bK.no]);have bu:L X=4096:=C.len.trans an;simp only[abr,u0,u1,aM,rk,aj,↓uL];refine Kr (aa:=(gd s.ak k).bk.map ci) rfl fF (by grind [dB]) (by simp[gY]) (by omega) λG Z g7 u N7=>?_;have aT:bM aO9 O7 [(0,iv (gd s.ak k).pw),(1,G)]=V (.a [iv (gd s.ak k).pw,G]):=(by simp[bM,gp,ms g7,zU]);have am:=u.kq (C.kq aR);have aU:cz 2 Z (.m d (L s.ak)) (iv k)=V (.p d k 0):=(by simp[cz,am,W]);simp only[abq,aT,aY,aU,au,↓uL];refine Bp am (uU W) (x:= .a [iv (gd s.ak k).pw,G]) rfl rfl (by simp) λY8 F R=>?_;simp only[abo,↓uL];refine dT rfl ?_;simp only[au,u0,u1,↓uL];have bm:∀q∈aA G,q≠d:=(by grind);have bn:∀i,i<k->∀q∈aA (f i),q∉aA G:=λi y q g a4=>(by obtain⟨v,b⟩:=(T i y).x.ids q g;exact(N7 q a4).1.no _ (C.kq b));have aC:Fx A Y8 [d]:=(C.trans (u.trans F)).mono (by simp);refine yU W ⟨(E.trans aC).mono (by grind [bK.no]),λi=>if i=k then G else f i,?_,?_,?_,?_,?_⟩;rw[R,Bl];congr 2;refine yC λi y=>?_;grind;intro i y;by_cases h1:i=k;grind [bc.fx];grind [bc.fx];grind;grind;grind;obtain rfl:k=L s.ak:=(by grind);have aB:box A d=V ⟨131,2,U,U,io (L s.ak) λi=>[iv (gd s.ak i).pw,f i]⟩:=(by simp_all [yC,bX]);have n1:d≠(1,n):=(NL.ne d1).symm;refine cy (cs:=[.m d (L s.ak)]) g1 rfl rfl (by simp[aW.c]) λY5 o b5=>?_;have ah:box Y5 (1,n)=V ⟨36,4,U,U,[[.m d (L s.ak),iv s.tx,sl cb s.done,sl bF.c s.ay]]⟩:=b5;have a1:L Y5=4096:=o.len.trans an;simp only[abw,u0,u1,ah,aj,iF,nM,ip,↓uL];refine aw2 (aa:=s.done.map cb) rfl (by grind) (by simp;omega) (by simp[gY]) (by omega) λB X g6 t N6=>?_;have P:=t.kq ah;simp only[abv,u0,u1,P,aj,↓uL];refine cy (cs:=[B]) P (ms g6) rfl (by simp) λZ u b7=>?_;have al:box Z (1,n)=V ⟨36,4,U,U,[[.m d (L s.ak),iv s.tx,B,sl bF.c s.ay]]⟩:=b7;have bv:L Z=4096:=u.len.trans (t.len.trans a1);simp only[abu,u0,u1,al,aj,iF,nM,ip,↓uL];refine aw1 (aa:=s.ay.map bF.c) rfl (qW (f:=bF.c) λ_=>rfl) (by simp;omega) (by simp[gY,bF.c]) (by omega) λH Y8 g8 F N8=>?_;have R:=F.kq al;simp only[abt,u0,u1,R,aj,↓uL];refine cy (cs:=[H]) R (ms g8) rfl (by simp) λY9 F9 b9=>?_;have aN:box Y9 (1,n)=V ⟨36,4,U,U,[[.m d (L s.ak),iv s.tx,B,H]]⟩:=b9;have ad:Fx A Y9 [(1,n)]:=(o.trans (t.trans (u.trans (F.trans F9)))).mono (by simp);have bx:(2,K)≠(1,n):=(by simp);have g9:=ad.kq g2;simp only[abs,u0,u1,aN,aj,uS,↓uL];refine cy (cs:=[.m d (L s.ak),iv s.tx,B,H]) g9 rfl rfl (by decide) λag M aK=>?_;have ar:box ag (2,K)=V ⟨36,4,U,U,[[.m d (L s.ak),iv s.tx,B,H]]⟩:=aK;simp only[u0,u1,ar,aj,uS,fe,aoz,↓uL];have af:Fx Y A []:=(D.trans (N.trans E)).mono (by simp);have O:Fx A ag [(1,n),(2,K)]:=(ad.trans M).mono (by simp);have hv:∀{q:Id} {e:TypeId} {z:Nat} {v:List (List AV)} {τ:ae},box τ q=V ⟨e,z,U,I,v⟩->∀{w:Id} {x:bY},box τ w=V x->x.var=U->q≠w:=(by grind);have k1:∀i,i<L s.ak->∀q∈aA (f i),q∉[(1,n),(2,K)]:=λi y q g=>(by obtain⟨v,b⟩:=(T i y).x.ids q g;simp only[eW,ql,y6,not_or];grind);have i2:∀q∈aA B,q∉[(1,n)]/\q∉[(2,K)]:=λq g=>(by obtain⟨v,b⟩:=g6.x.ids q g;have S:=t.kq (o.kq g2);exact⟨by simpa using hv b P rfl,by simpa using hv b S rfl⟩);have i3:∀q∈aA H,q∉[(1,n)]/\q∉[(2,K)]:=λq g=>(by obtain⟨v,b⟩:=g8.x.ids q g;have S:=F.kq (u.kq (t.kq (o.kq g2)));exact⟨by simpa using hv b R rfl,by simpa using hv b S rfl⟩);refine⟨⟨_,B,H,rfl,⟨d,f,rfl,?_,λi y=>(T i y).fx O (k1 i y),aO,aQ⟩,?_,?_,?_,λk hk=>by have:=(N8 k hk).2;omega⟩,?_⟩;refine O.keep _ _ ?_ aB;simp only[eW,ql,y6,not_or];grind;exact((g6.fx u λq g=>(i2 q g).1).fx F (by simp)).fx (F9.trans M) (by grind);exact g8.fx (F9.trans M) (by grind);intro q g;simp only[dF,aA,cE] at g;rcases g with(rfl|g)|g;exact NL.old (D.trans N);exact rC (gl (af.lB _) (o.lB _)) (N6 q g).1;exact rC (gl (af.lB _) (gl (o.lB _) (gl (t.lB _) (u.lB _)))) (N8 q g).1;refine((D.trans N).trans (E.trans O)).mono ?_;simp only[dW,eW,ql,y6];rintro q (rfl|rfl);grind;exact .inr λx hx=>N2.no _ (D.kq hx)
def Ov(w:br)(s:aW)(t b bb:Int)(q:jm w s t b bb=U/\L w.bC<=2/\(∀l∈s.ak,L l.bk<100000)):Ct 131 [.a w.c, .a s.c,iv t,iv b,iv bb] (·=bv U):=by refine aK3 rfl rfl λG C e f B=>?_;obtain⟨h,g,r⟩:=q;simp only[jm,bN] at h;obtain⟨d,p,k,i⟩:=h;obtain⟨x,y,z,A⟩:=iY d;have j:aF (L s.ay) t:=(by grind [dX]);simp+contextual only[In,u0,u1,ut,ar,e,f,rk,ix,cT,aj,d,g,p,k,fh,kz,eE,vp,Ca,lS,vg,j,↓uL];refine eF rfl rfl (by decide) (by omega) λY F m=>?_;have n:box Y (5,1)=_:=F.bt e;have o:box Y (6,1)=_:=F.bt f;rw[axG] at i;simp+contextual only[aa7,In,↓iC,↓iB,↓iS,u0,u1,ut,ar,m,n,o,rk,ix,cT,aj,↓uL];obtain⟨E,D,u,H,v⟩:=D0 d k;grind
def BU:FT:=zb Ov
def ays{w s t kind bb Lw K}:=KQ BU Ov w s t kind bb Lw K
def Rm:dO:=(131,BU)::apl
def ape:eJ Rm:=it (Rt Ov) (yR)
def aml:=ai @ays<|@aBn
def ak9:=bi 31 [(6,([15],[7,12])),(10,([42],[4,5,6,7,8,12,15,27])),(12,([51],[4,5,6,7,8,12,15,27]))]
def arN c R a:=aw 4 a c λb=>aE R a [b,(iv 0),(bv I)]
def aaU d R b a:=aw 4 a d λc=>aE R a [c,(gt b 0),(bv U)]
def aa3 c e R b a:=∀_:Rg,aw 4 a c λd=>sV (aK 4 a e d) (aaU e R b)
def aaV c e d g k i j h(a:aG) b:=dH [(bo c),(bo e),km,km,(lb I [(.f 185 [] []),d] [76]),(lb U [g,k] []),(bo i),(lb I [j,h] [])] [(0,4),(1,4),(2,4)] (a [(iv 0)] b)
def Im b g h j i f c a:=ao 2 a b g λd=>aB 1 a d λe=>sV (aK 1 a e c) (aaV h j i b g d e c f)
def aaW b c g e(h:AV) a:=aB 0 a b λd=>aM a d λf=>cN 185 [c] a 76 (Im f g b d c e)
def aaX b g h e i j a l k m d c f:=dH [(bo b),(bo g),km,(lb U [h,e] []),(bo i),(bo j),(bo a),(lb I [l] []),(lb I [k,m] [69]),km] [(0,7),(1,7),(2,7),(3,7),(4,7),(5,7)] (cB 184 [c] f 71 (aaW b c e d))
def aaY b g i j d k l a m h o p n(c:aG) e:=dH [(bo b),(bo g),km,(bo b),(bo i),km,(lb U [j,d] []),(bo k),(bo l),(bo a),(lb I [(.f 186 [] []),m,(.f 187 [] [a])] [91]),(lb U [h,d] []),(bo o),(lb I [p,n] [])] [(0,10),(1,10),(2,10)] (c [(iv 0)] e)
def aaZ c h i j k l m n a o g d b:=ao 2 b c h λe=>aB 1 b e λf=>sV (aK 1 b f d) (aaY i j k l h m n a o c e f d g)
def aa0 b d a g e f j k h i l m o(n:aG) c:=dH [(bo b),(bo d),(bo a),(bo b),(bo g),(bo a),km,(lb U [e,f] []),(bo j),(lb I [k,(iv 3)] []),(lb U [h,i] []),(bo l),(lb I [m,o] [])] [(3,9),(4,9),(5,9),(6,9)] (n [(iv 0)] c)
def aaO c d n o g b j h i k l m a:=ao 3 a c d λe=>aB 1 a e λf=>sV (aK 1 a f n) (aa0 o g b j h i k l c d e f n m)
def Ik c b m l a:=aB 3 a c λd=>aM a d λe=>aM a b λf=>aB 3 a c λg=>aM a g λj=>aM a b λk=>ao 3 a e f λh=>aB 0 a h λi=>sV (aK 1 a i (iv 3)) (aaO j k m c d b g e f h i l)
def aaP b d a g e f j k h i l m(n:aG) c:=dH [(bo b),(bo d),(bo a),(bo b),(bo g),(bo a),(lb U [e,f] []),(bo j),(lb I [k,(iv 2)] []),(lb U [h,i] []),(bo l),(lb I [m,(iv 0)] [])] [(3,8),(4,8),(5,8)] (n [(iv 0)] c)
def aaQ c d n g b j h i k l m a:=ao 3 a c d λe=>aB 1 a e λf=>sV (aK 1 a f (iv 0)) (aaP n g b j h i k l c d e f m)
def Il c b l a:=aB 3 a c λd=>aM a d λe=>aM a b λf=>aB 3 a c λg=>aM a g λj=>aM a b λk=>ao 3 a e f λh=>aB 0 a h λi=>sV (aK 1 a i (iv 2)) (aaQ j k c d b g e f h i l)
def aa2 a c g(d:aG) e b u a5 av:=∀_:Rg,ah (gt av 0) (ab 0 a c λaD=>ao 2 a aD g λaE=>aB 0 a aE λaF=>sV (aK 1 a aF (iv (-1))) λax=>d [(iv 0)] ax) (bf e (iv 8) λaI=>ah aI (aB 0 a c λh=>aM a h λi=>ao 2 a i g λj=>aB 1 a j λk=>aM a k λl=>aM a b λm=>eV (aX bH 1 a [(0,m)]) λn ay=>eV (j5 3 fB 8 ay 69 l n) (aaX c h i g j k b m l n d)) (bf e (iv 9) λaJ=>ah aJ (aB 0 a c λo=>aM a o λaL=>aB 0 a c λp=>aM a p λq=>ao 2 a q g λr=>aB 1 a r λs=>aM a s λt=>cN 186 [t,(.f 187 [] [b])] a 91 (aaZ aL g c o p q r s b t d)) (bf e (iv 12) λaN=>ah aN (aM a b λaO=>aB 1 a c λaP=>sV (aK 1 a aP aO) λaz=>d [(iv 0)] az) (bf e (iv 13) λaQ=>ah aQ (aB 1 a c λaR=>sV (aK 1 a aR (iv (-1))) λaA=>d [(iv 0)] aA) (bf e (iv 14) λaT=>ah aT (ab 3 a c λaU=>aM a b λaV=>ao 3 a aU aV λaW=>aB 2 a aW λaY=>sV (aK 1 a aY (bv U)) λaC=>d [(iv 0)] aC) (bf e (iv 15) λA=>ah A (ab 3 a c λB=>aM a b λC=>ao 3 a B C λD=>aB 2 a D λE=>sV (aK 1 a E (bv I)) λv=>d [(iv 0)] v) (bf e (iv 16) λF=>ah F (ab 0 a c λG=>ab 2 a u λH=>ao 2 a H g λK=>ab 1 a K λM=>ao 2 a G M λN=>aB 0 a N λO=>sV (aK 1 a O (iv (-1))) (Ik c b g d)) (bf e (iv 17) λP=>ah P (ab 0 a c λR=>ab 2 a u λS=>ao 2 a S g λT=>ab 1 a T λW=>aM a b λX=>ao 2 a R W λZ=>aB 0 a Z λaa=>sV (aK 1 a aa X) (Il c b d)) (bf e (iv 18) λac=>ah ac (aw 4 a c λad=>cB 188 [ad,g,a5] a 166 λae w=>d [ae] w) (bf e (iv 19) λaf=>ah af (aw 4 a c λag=>cB 189 [ag,g] a 171 λak x=>d [ak] x) (bf e (iv 20) λal=>ah al (ab 3 a c λam=>ao 3 a am g λan=>aB 0 a an λap=>sV (aK 1 a ap (iv 1)) λy=>d [(iv 0)] y) (bf e (iv 22) λaq=>ah aq (ab 2 a c λar=>ao 1 a ar g λau=>sV (aK 1 a au (bv U)) λz=>d [(iv 0)] z) (d [(iv 0)] a)))))))))))))
def aa5 d(b:cG):=bf d (iv 7) λa=>ah a (b [a]) (bf d (iv 11) λc=>b [c])
def aa1 b d a g(c:aG) f m n e:=∀_:Rg,ah (gt e 0) (ab 0 b d λi=>aM b a λj=>ao 2 b i g λk=>aB 0 b k λl=>sV (aK 1 b l j) λh=>c [(iv 0)] h) (jR 12 (aa2 b d g c f a m n) (aa5 f))
def aa4 d(b:cG):=bf d (iv 6) λa=>ah a (b [a]) (bf d (iv 10) λc=>b [c])
def aa6 e a d b s r t(c:aG):=bf e (iv 1) λh=>ah h (ab 3 a d λi=>aM a b λj=>ao 3 a i j λk=>aB 0 a k λl=>sV (aK 1 a l (iv 2)) λf=>c [(iv 0)] f) (bf e (iv 2) λm=>ah m (ab 3 a d λn=>aM a b λo=>ao 3 a n o λp=>aB 0 a p λq=>sV (aK 1 a q (iv 5)) λg=>c [(iv 0)] g) (jR 10 (aa1 a d b s c e r t) (aa4 e)))
def aaR b h R e a f d g c:=jV 6 (aa3 b h R) (aa6 e c b a f d g)
def aaS b i R f a g e h d c:=sV (aK 4 c b d) (aaR b i R f a g e h)
def aaT d c a f g R n e b:=aw 6 b d λo=>aw 4 b c λh=>aM b a λi=>fV BU b [o,h,i,f,g] λj=>cf j λk=>ah k (rV (bM aNC alz []) λl=>sV (aK 4 b e l) (arN e R)) (aw 4 b c λm=>cB 183 [m] b 26 (aaS c e R f a g d n))
def Ii c b a d e f g R:=eV (bs 36 aNC g 12) (aaT c b a d e R f)
def aK1{e:List AV}{f:List AV}{d:AV}{g:AV}{i:AV}{j:AV}{R:d7}(l0:L e=6)(l1:L f=4)(z:eY d=V [d])(h:∀b:ae,L b=4096->box b (6,1)=V ⟨31,6,U,U,[e]⟩->box b (7,1)=V ⟨36,4,U,U,[f]⟩->box b (8,1)=V ⟨3,1,U,U,[[d]]⟩->(∀k,k≠6->k≠7->k≠8->aZ b k=mO)->Ii (.p (6,1) 0 0) (.p (7,1) 0 0) (.p (8,1) 0 0) g i j b R):Fn aS GG 135 [.a e, .a f,d,g,i,j] R:=by refine uq ready ape Tryz.func135 (an:=ak9) (by kernel_rfl) (aND (show ZF aS GG Rm ak9 Tryz.f135 [.a e, .a f,d,g,i,j] R=(eV (qm 31 6 (ly Tryz.f135) 6 (.a e)) λq m=>eV (qm 36 4 m 7 (.a f)) λo n=>eV (qm 3 1 n 8 d) λc b=>Ii q o c g i j b R) by kernel_rfl) ?_);refine mY (N:=4096) rfl l0 (by decide) (by decide) uB (by rw[i8]) λm A r D g0=>?_;refine mY (N:=4096) rfl l1 (by decide) (by decide) A (by rw[g0 _ (by decide),i8]) λn B s u g1=>?_;refine mY (N:=4096) z rfl (by decide) (by decide) B (by rw[g1 _ (by decide),g0 _ (by decide),i8]) λb C t l v=>?_;exact h b C (by rw[l _ _ (by decide),u _ _ (by decide)];exact r) (by rw[l _ _ (by decide)];exact s) t (λk w x y=>by rw[v k y,g1 k x,g0 k w];exact i8 _ k)
def aCn{B:aG}{A:(aG)->Prop}(Q:aG)(b:∀a,(∀vs Y',Q vs Y'->a vs Y')->A a)(c:∀vs Y',Q vs Y'->B vs Y'):A B:=b B c
structure Sz(Y:ae)(s:aW)(a1 a2 a3:AV):Prop where
 bx:box Y (7,1)=V ⟨36,4,U,U,[[a1,iv s.tx,a2,a3]]⟩
 g1:sC Y a1 s.ak
 g2:bc Y 4 1 a2 (s.done.map cb)
 g3:bc Y 105 3 a3 (s.ay.map bF.c)
def bc.ids{Y:ae}{e:TypeId}{z:Nat}{a:AV}{aa:List (List AV)}(f:bc Y e z a aa):∀k∈aA a,box Y k=V ⟨e,z,U,I,aa⟩:=by rcases f with⟨_,rfl⟩|⟨b,rfl,d⟩;simp[aA];intro k c;simp only[aA,cE] at c;subst c;exact d
def vC.g{Y:ae}{a:AV}{ls:List cg}(h:vC Y a ls):sC Y a ls:=by obtain⟨b,f,c,d,e,j,_⟩:=h;exact⟨b,f,c,d,λi k=>(e i k).x,j⟩
theorem vC.fx{Y Y':ae}{ks:List Id}{a:AV}{ls:List cg}(p:vC Y a ls)(j:Fx Y Y' ks)(n:∀k∈ks,(∃x,box Y k=V x/\((x.var=U/\x.elem≠131)\/(x.var=I/\x.elem≠3)))\/∀x,box Y k≠V x):vC Y' a ls:=by obtain⟨b,f,rfl,g,l,o,r⟩:=p;refine⟨b,f,rfl,j.keep _ _ (λh=>?_) g,λi m=>(l i m).fx j λq t h=>?_,o,r⟩;rcases n b h with⟨x,d,c⟩|d;rw[g] at d;cases d;rcases c with⟨_,c⟩|⟨c,_⟩;exact c rfl;(cases c);exact d _ g;have e:=(l i m).ids q t;rcases n q h with⟨x,d,c⟩|d;rw[e] at d;cases d;rcases c with⟨c,_⟩|⟨_,c⟩;(cases c);exact c rfl;exact d _ e
theorem sC.fx{Y Y':ae}{ks:List Id}{a:AV}{ls:List cg}(p:sC Y a ls)(j:Fx Y Y' ks)(n:∀k∈ks,(∃x,box Y k=V x/\((x.var=U/\x.elem≠131)\/(x.var=I/\x.elem≠3)))\/∀x,box Y k≠V x):sC Y' a ls:=by obtain⟨b,f,rfl,g,l,o⟩:=p;refine⟨b,f,rfl,j.keep _ _ (λh=>?_) g,λi m=>(l i m).fx j λq r h=>?_,o⟩;rcases n b h with⟨x,d,c⟩|d;rw[g] at d;cases d;rcases c with⟨_,c⟩|⟨c,_⟩;exact c rfl;(cases c);exact d _ g;obtain⟨t,e⟩:=(l i m).ids q r;rcases n q h with⟨x,d,c⟩|d;rw[e] at d;cases d;rcases c with⟨c,_⟩|⟨_,c⟩;(cases c);exact c rfl;exact d _ e
theorem sC.fr{Y:ae}{a:AV}{ls:List cg}(m:sC Y a ls):dQ Y a= .l (ls.map cg.c) I U:=by obtain⟨b,f,rfl,n,j,q⟩:=m;have h:∀i,i<L ls->([iv (gd ls i).pw,f i].map (rS Y))=cg.c (gd ls i):=λi d=>(by simp only[ji,mU,(j i d).fr,cg.c];rfl);have o:(io (L ls) λi=>[iv (gd ls i).pw,f i]).map (·.map (rS Y))=ls.map cg.c:=(by rw[aH1 (l:=ls) (g:=cg.c)];simp only[io,vA];exact ja λi d=>h i (fq.1 d));have e:((io (L ls) λi=>[iv (gd ls i).pw,f i]).all λr=>r.all λc=>eN (rS Y c))=U:=(by rw[dV];intro r k;simp only[io,dN,fq] at k;obtain⟨i,d,rfl⟩:=k;simp only[Cs,aqG,(j i d).fr,ru];rfl);have p:(io (L ls) λi=>[iv (gd ls i).pw,f i]).take (L ls)=io (L ls) λi=>[iv (gd ls i).pw,f i]:=oB (by rw[aH0];exact dA _);simp only[dQ,n,p];rw[cj (by simp),bX e,o]
def bc.frD{Y:ae}{e:TypeId}{z:Nat}{a:AV}{aa:List (List AV)}(d:bc Y e z a aa):∃t o,dQ Y a= .l aa t o:=by rcases d with⟨rfl,rfl⟩|⟨b,rfl,c⟩;exact⟨_,_,rfl⟩;exact⟨I,U,by simp[dQ,c]⟩
section
variable{Y:ae}{s:aW}{a1 a2 a3:AV}
theorem Sz.fx{Y':ae}(S:Sz Y s a1 a2 a3)(a:Fx Y Y' []):Sz Y' s a1 a2 a3:=⟨a.kq S.bx,S.g1.fx a (by simp),S.g2.fx a (by simp),S.g3.fx a (by simp)⟩
theorem Sz.th{i:Int}{j:Nat}{x:Value}{K:AV->be}(S:Sz Y s a1 a2 a3)(n:aF (L s.ay) i)(o:j<3)(d:bF)(r:(gd s.ay i.toNat).c.set j (.s x)=d.c)(m:∀b Y',Fx Y Y' (aA a3)->Sz Y' (ni s i d) a1 a2 a3->aA a3=[b]->K (.p b i.toNat 0) (.p b i.toNat j) Y'):rV (cz 3 Y a3 (iv i)) λp=>rV (iQ j Y p) λq=>sV (aK 1 Y q (.s x)) (K p q):=by refine DB S.g3 n o d r λb Y' h a l=>m b Y' a ⟨?_,?_,?_,l⟩ h;refine a.keep _ _ (λf=>?_) S.bx;have:=S.g3.ids _ f;rw[S.bx] at this;cases this;exact S.g1.fx a λk e=> .inl ⟨_,S.g3.ids k e, .inr ⟨rfl,by simp⟩⟩;exact S.g2.fx a λk e f=>by have g:=S.g2.ids _ e;rw[S.g3.ids _ f] at g;cases g
def Sz.lk{i:Int}{o:Int}{K:AV->be}(S:Sz Y s a1 a2 a3)(t:aF (L s.ak) i)(A:∀b Y',Fx Y Y' (aA a1)->Sz Y' (lC s i {cH s i with pw:=o}) a1 a2 a3->aA a1=[b]->K (.p b i.toNat 0) (.p b i.toNat 0) Y'):rV (cz 2 Y a1 (iv i)) λp=>rV (iQ 0 Y p) λq=>sV (aK 1 Y q (iv o)) (K p q):=by have n:i.toNat<L s.ak:=(by have:=t.1;have:=t.2;omega);obtain⟨b,f,rfl,c,u,z⟩:=S.g1;have v:cz 2 Y (.m b (L s.ak)) (iv i)=V (.p b i.toNat 0):=(by simp[cz,t.1,c,n]);rw[v];simp only[rV,rR,c,df,aj];refine Bp c (uU n) (x:=iv o) rfl rfl (by simp) λY' g y=>A b Y' g ⟨?_,?_,?_,?_⟩ rfl;refine g.keep _ _ (λa=>?_) S.bx;simp only[cE] at a;have:=S.bx;rw[a,c] at this;simp at this;refine⟨b,f,by simp[lC],?_,λk d=>?_,?_⟩;rw[y,Bl];simp only[lC,zq];congr 2;refine yC λk d=>?_;by_cases h:k=i.toNat;subst h;simp[gd,n];have:gd (s.ak.set i.toNat {cH s i with pw:=o}) k=gd s.ak k:=(by simp only[gd,eI];rw[oq (λe=>h e.symm)]);rw[cj h,this];have r:k<L s.ak:=(by simpa[lC] using d);have w:(gd (lC s i {cH s i with pw:=o}).ak k).bk=(gd s.ak k).bk:=(by by_cases h:k=i.toNat;subst h;simp[lC,cH,gd,n];simp only[lC,gd,eI];rw[oq (λe=>h e.symm)]);rw[w];refine(u k r).fx g λq B a=>?_;obtain⟨C,l⟩:=(u k r).ids q B;simp only[cE] at a;rw[a,c] at l;cases l;simpa[lC] using z;exact S.g2.fx g λk d a=>(by have j:=S.g2.ids _ d;simp only[cE] at a;rw[a,c] at j;cases j);exact S.g3.fx g λk d a=>by have j:=S.g3.ids _ d;simp only[cE] at a;rw[a,c] at j;cases j
theorem Sz.dn{i:Int}{v:Bool}{K:ae->Prop}(S:Sz Y s a1 a2 a3)(a:aF (L s.done) i)(l:∀Y',Fx Y Y' (aA a2)->Sz Y' {s with done:=s.done.set i.toNat v} a1 a2 a3->K Y'):rV (cz 1 Y a2 (iv i)) λp=>sV (aK 1 Y p (bv v)) K:=by have f:i.toNat<L s.done:=(by have:=a.1;have:=a.2;omega);refine ixI S.g2 (by simpa using a) λb g m=>?_;have n:(s.done.map cb)[i.toNat]?=V (cb (gd s.done i.toNat)):=(by rw[List.getElem?_map,eC f,bT f];rfl);refine wL m n (by simp) λY' h j=>?_;have F:Fx Y Y' (aA a2):=(by rw[g];exact h);refine l Y' F ⟨?_,?_,?_,?_⟩;refine F.keep _ _ (λd=>?_) S.bx;have:=S.g2.ids _ d;rw[S.bx] at this;cases this;exact S.g1.fx F λk c=> .inl ⟨_,S.g2.ids k c, .inr ⟨rfl,by simp⟩⟩;refine .inr ⟨b,by rw[g];simp,?_⟩;rw[j,show(cb (gd s.done i.toNat)).set 0 (.s (.bool v))=cb v from rfl,List.map_set];exact S.g3.fx F λk c d=>by have e:=S.g3.ids _ c;rw[S.g2.ids _ d] at e;cases e
def Sz.tx{x:Int}{K:ae->Prop}(S:Sz Y s a1 a2 a3)(e:∀Y',Fx Y Y' [(7,1)]->Sz Y' {s with tx:=x} a1 a2 a3->K Y'):sV (aK 1 Y (.p (7,1) 0 1) (iv x)) K:=by refine cy (cs:=[iv x]) S.bx rfl rfl (by simp) λY' F d=>e Y' F ⟨d,?_,?_,?_⟩;exact S.g1.fx F λk a=>(by simp only[cE] at a;subst a;exact .inl ⟨_,S.bx, .inl ⟨rfl,by simp⟩⟩);exact S.g2.fx F λk a c=>(by simp only[cE] at c;have b:=S.g2.ids _ a;rw[c,S.bx] at b;cases b);exact S.g3.fx F λk a c=>by simp only[cE] at c;have b:=S.g3.ids _ a;rw[c,S.bx] at b;cases b
end
def sC.ids{Y:ae}{a:AV}{ls:List cg}(d:sC Y a ls):∀k∈aA a,∃aa,box Y k=V ⟨131,2,U,U,aa⟩:=by obtain⟨b,f,rfl,e,_⟩:=d;intro k c;simp only[aA,cE] at c;subst c;exact⟨_,e⟩
theorem Sz.no{Y:ae}{s:aW}{a1 a2 a3:AV}(S:Sz Y s a1 a2 a3){c:Id}{x:bY}(b:box Y c=V x)(d:x.var=U)(e:x.elem≠131):c∉aA a1/\c∉aA a2/\c∉aA a3:=by refine⟨λh=>?_,λh=>?_,λh=>?_⟩;obtain⟨aa,a⟩:=S.g1.ids _ h;rw[b] at a;cases a;exact e rfl;have a:=S.g2.ids _ h;rw[b] at a;cases a;cases d;have a:=S.g3.ids _ h;rw[b] at a;cases a;cases d
def Bk{a b c d:AV}:aN J ([a,b,c,d].drop 3)=V d:=rfl
def aHW{a b c d:AV}:aN J ([a,b,c,d].drop 2)=V c:=rfl
def QW{a b c d:AV}:aN J ([a,b,c,d].drop 0)=V a:=rfl
def Ou(w:br)(s:aW)(t C bb lD:Int)(hp:jm w s t C bb=U/\L w.bC<=2/\(∀l∈s.ak,L l.bk<12)/\(∀l∈s.ak,jC l.bk)/\L s.ak<1000/\L s.done<1000/\L s.ay<1000):Ct 135 [.a w.c, .a s.c,iv t,iv C,iv bb,iv lD] (λr=>∃f,r= .t [.a (eD (cU w s t C bb lD).1 f),iv (cU w s t C bb lD).2,bv U]):=by refine aK1 rfl rfl rfl λs6 hl b1 b2 b3 h0=>?_;obtain⟨he,c6,a6,dd,de,dh,bS⟩:=hp;have cg:=he;simp only[jm,bN] at cg;obtain⟨hf,hi,hn,aw⟩:=cg;obtain⟨f1,f2,f3,f4⟩:=iY hf;obtain⟨mI,lk,cd,th,dn⟩:=D0 hf hn;have ab:aF (L s.ay) t:=(by rw[f4];exact dX.1 hi);simp only[Ii,↓uL];refine mo hl λs8 F8 b8=>?_;have c1:box s8 (6,1)=_:=F8.bt b1;have c2:box s8 (7,1)=V ⟨36,4,U,U,[s.c]⟩:=F8.bt b2;have c3:box s8 (8,1)=V ⟨3,1,U,U,[[iv t]]⟩:=F8.bt b3;have ck:L s8=4096:=(by rw[F8.1,hl]);generalize(aZ s6 12).lB+1=an at*;have cw:jm w s t C bb=U/\L w.bC<=2/\∀l∈s.ak,L l.bk<100000:=⟨he,c6,λl hl=>by have:=a6 l hl;omega⟩;simp+contextual only[aaT,u0,u1,c1,c2,c3,rk,iF,ip,ar,aml,aj,fh,eE,vp,Ca,lS,↓uL];refine⟨cw,?_⟩;refine jH rfl (aCp s ck ⟨de,dh,bS,λl hl=>by have:=a6 l hl;omega⟩) ?_;rintro r Y1 ⟨⟨a1,a2,a3,rfl,g1,g2,g3,hN,cn⟩,F1⟩;refine⟨F1.len,?_⟩;have d1:=F1.kq c1;have d2:=F1.kq c2;have d3:=F1.kq c3;have d8:=F1.kq b8;simp only[aaS,↓uL];refine cy (cs:=[a1,iv s.tx,a2,a3]) d2 rfl rfl (by simp[aW.c]) λO F2 e2=>?_;have ce:vC O a1 s.ak:=g1.fx F2 λk N=>(by simp only[cE] at N;subst N;exact .inl ⟨_,d2, .inl ⟨rfl,by simp⟩⟩);have S:Sz O s a1 a2 a3:=(by refine⟨e2,g1.g.fx F2 λk N=>?_,g2.fx F2 λk N D=>?_,g3.fx F2 λk N D=>?_⟩;simp only[cE] at N;subst N;exact .inl ⟨_,d2, .inl ⟨rfl,by simp⟩⟩;simp only[cE] at D;have y:=g2.ids _ N;rw[D,d2] at y;cases y;simp only[cE] at D;have y:=g3.ids _ N;rw[D,d2] at y;cases y);have e1:box O (6,1)=_:=F2.kq d1;have e3:=F2.kq d3;have e8:box O (12,an)=V ⟨36,4,U,U,[aNC]⟩:=F2.kq d8;have ax:L O=4096:=F2.len.trans (F1.len.trans ck);simp only[aaR,di,↓uL];refine aCn (λvs Y'=>vs=[iv (cU w s t C bb lD).2]/\Sz Y' (cU w s t C bb lD).1 a1 a2 a3/\∃aa,box Y' (12,an)=V ⟨36,4,U,U,[aa]⟩/\L aa=4) (λo hJ=>?_) ?_;have E:∀(sv:aW×Int) Y',cU w s t C bb lD=sv->Sz Y' sv.1 a1 a2 a3->(∃aa,box Y' (12,an)=V ⟨36,4,U,U,[aa]⟩/\L aa=4)->o [iv sv.2] Y':=(by rintro sv Y' rfl y z;exact hJ _ _ ⟨rfl,y,z⟩);have Z:∃aa,box O (12,an)=V ⟨36,4,U,U,[aa]⟩/\L aa=4:=⟨_,e8,rfl⟩;have X:∀{Y Y':ae} {s':aW} {ks:List Id},Sz Y s' a1 a2 a3->(∃aa,box Y (12,an)=V ⟨36,4,U,U,[aa]⟩/\L aa=4)->Fx Y Y' ks->(ks=aA a1\/ks=aA a2\/ks=aA a3\/ks=[(7,1)])->(∃aa,box Y' (12,an)=V ⟨36,4,U,U,[aa]⟩/\L aa=4):=(by rintro Y Y' s' ks A ⟨aa,y,z⟩ F da;obtain⟨n1,n2,n3⟩:=A.no y rfl (by simp);refine⟨aa,F.keep _ _ ?_ y,z⟩;rcases da with rfl|rfl|rfl|rfl;exact n1;exact n2;exact n3;simp);simp+contextual only[aa6,u0,u1,S.bx,e3,aj,dc,Bk,iF,ip,↓uL];refine⟨λk1=>?_,λk1=>⟨λk2=>?_,λk2=>?_⟩⟩;have dj:=nt k1;exact S.th ab (by decide) {fA s t with cQ:=2} rfl λb Y' H A _=>E (_,0) Y' (by simp[cU,dj];rfl) A (X S Z H (by simp));have dk:=nt k2;exact S.th ab (by decide) {fA s t with cQ:=5} rfl λb Y' H A _=>E (_,0) Y' (by simp[cU,dk];rfl) A (X S Z H (by simp));simp only[f8,aa4,iM,aY,sw,↓uL];simp+contextual only[aa1,aI,au,u0,u1,S.bx,e3,aj,dc,Bk,QW,iF,ip,↓uL];refine⟨λk6=>?_,λk6=>?_⟩;simp only[fH,mn] at k6;exact S.lk (lk (by omega) (by omega)) λb Y' H A _=>E (_,0) Y' (by rcases k6 with rfl|rfl<;>simp[cU]<;>rfl) A (X S Z H (by simp));simp only[f8,aa5,iM,aY,sw,↓uL];simp+contextual only[aa2,aI,au,u0,u1,S.bx,e1,e3,aj,dc,Bk,QW,aHW,iF,ip,↓uL];refine⟨λk7=>?_,λk7=>?_⟩;simp only[fH,mn] at k7;exact S.lk (lk (by omega) (by omega)) λb Y' H A _=>E (_,0) Y' (by rcases k7 with rfl|rfl<;>simp[cU]<;>rfl) A (X S Z H (by simp));refine⟨λk8=>?_,λk8=>⟨λk9=>?_,λk9=>⟨λa7=>?_,λa7=>⟨λa8=>?_,λa8=>⟨λa9=>?_,λa9=>⟨λba=>?_,λba=>⟨λbd=>?_,λbd=>⟨λbe=>?_,λbe=>⟨λbf=>?_,λbf=>⟨λbg=>?_,λbg=>⟨λbi=>?_,λbi=>⟨λbj=>?_,λbj=>?_⟩⟩⟩⟩⟩⟩⟩⟩⟩⟩⟩⟩;have k:=nt k8;have ac:=lk (by omega) (by omega);have R:bb.toNat<L s.ak:=qI ac;obtain⟨P,f,rfl,T,hX,hD,hP⟩:=ce;have hc:=hX _ R;have a0:=dd _ (ii ac);have bR:=a6 _ (ii ac);have cm:t∉(gd s.ak bb.toNat).bk:=(by rw[lc] at aw;simp[k] at aw;exact aw.2.2);have bH:cz 2 O (.m P (L s.ak)) (iv bb)=V (.p P bb.toNat 0):=(by simp[cz,ac.1,T,R]);have bI:kb J O (.p P bb.toNat 1)=V (f bb.toNat):=(by simp only[kb,iE,T,qd,uU R,df];rfl);simp only[bH,aY,rR,T,df,aj,bI,iz,bQ,↓uL];refine gD (new:=[ci t]) hc rfl (by decide) (by rw[ax];decide) fF (by simp) (by simp;omega) λa' Y3 af M c9 db=>?_;have c0:(gd s.ak bb.toNat).bk.map ci++[ci t]=((gd s.ak bb.toNat).bk++[t]).map ci:=(by simp);rw[c0] at af;obtain⟨B,rfl,av⟩:∃B,a'= .m B (L (gd s.ak bb.toNat).bk+1)/\box Y3 B=V ⟨3,1,U,I,((gd s.ak bb.toNat).bk++[t]).map ci⟩:=(by rcases af with⟨y,_⟩|⟨B,y,z⟩;simp at y;exact⟨B,by rw[y];simp,z⟩);have bG:B.1≠7:=(by rcases db B (by simp[aA]) with h|h;have:=hP _ R _ h;omega;omega);have bD:B∈aA (f bb.toNat)\/bK O B:=c9 B (by simp[aA]);simp only[aaX,↓uL];refine dT (by simp[eL,okT,tok,lb,cD,dC,dK]) ?_;refine jH rfl (aCO a0 cm bR av (M.len.trans ax)) ?_;rintro r Y4 ⟨rfl,c5,F4⟩;refine⟨F4.len,?_⟩;have nv:∀{q:Id} {x:bY},box O q=V x->x.elem≠3\/x.var=U->q∉aA (f bb.toNat)/\q≠B:=λ{q x} v G=>(by have y:q∉aA (f bb.toNat):=λD=>(by rw[hc.ids _ D] at v;cases v;rcases G with G|G;exact G rfl;cases G);refine⟨y,?_⟩;rintro rfl;rcases bD with h|h;exact y h;exact h.no _ v);have cp:∀{q:Id} {x:bY},box O q=V x->x.elem≠3\/x.var=U->box Y4 q=V x:=λ{q x} v G=>(by obtain⟨n1,n2⟩:=nv v G;exact F4.keep _ _ (by simpa using n2) (M.keep _ _ n1 v));simp only[aaW,u0,u1,cp S.bx (.inl (by simp)),aj,QW,ip,iF,↓uL];have bO:L (fk (gd s.ak bb.toNat).bk t)=L (gd s.ak bb.toNat).bk+1:=(by have:=QK (gd s.ak bb.toNat).bk t;have h0:∀{l:List Int} {t:Int},t∉l->L (fk l t)=L l+1:=(by intro l;induction l with|nil=>intro t _;rfl|cons x l ih=>intro t ht;simp only[eW,not_or] at ht;simp only[fk];split;simp[ih ht.2];split;rename_i h;exact mp h.symm ht.1;simp);exact h0 cm);have cl:=awP (d:=76) (K:=Im (.m P (L s.ak)) (iv bb) (.p (7,1) 0 0) (.p (7,1) 0 0) (.m B (L (gd s.ak bb.toNat).bk+1)) o) (Nz a0) c5 (F4.len.trans (M.len.trans ax)) (by omega);rw[bO] at cl;refine cl λY5 F5 bA=>?_;have cq:∀{q:Id} {x:bY},box O q=V x->x.elem≠3\/x.var=U->box Y5 q=V x:=λ{q x} v G=>F5.keep _ _ (by simpa using(nv v G).2) (cp v G);have aC:=cq T (.inl (by simp));have cB:cz 2 Y5 (.m P (L s.ak)) (iv bb)=V (.p P bb.toNat 0):=(by simp[cz,ac.1,aC,R]);simp only[Im,cB,aY,rR,aC,df,aj,↓uL];refine Bp aC (uU R) (x:= .m B (L (gd s.ak bb.toNat).bk+1)) rfl rfl (by simp) λY6 F6 bB=>?_;simp only[aaV,↓uL];have nL:∀{q:Id} {x:bY},box O q=V x->x.elem≠131->q≠P:=λ{q x} v G e=>(by subst e;rw[T] at v;cases v;exact G rfl);have ad:∀{q:Id} {x:bY},box O q=V x->x.elem≠3\/x.var=U->x.elem≠131->box Y6 q=V x:=λ{q x} v G hL=>F6.keep _ _ (by simpa using nL v hL) (cq v G);have aU:B≠P:=(by rintro rfl;rw[aC] at bA;cases bA);have S6:Sz Y6 (lC s bb {cH s bb with bk:=mP (cH s bb).bk [t]}) (.m P (L s.ak)) a2 a3:=(by refine⟨ad S.bx (.inr rfl) (by simp),⟨P,λi=>if i=bb.toNat then .m B (L (gd s.ak bb.toNat).bk+1) else f i,by simp[lC],?_,λi hi=>?_,λi j hi hj aO q v=>?_⟩,?_,?_⟩;rw[bB,Bl];simp only[lC,zq];congr 2;refine yC λi hi=>?_;by_cases h:i=bb.toNat;subst h;simp[gd,R,cH];have:gd (s.ak.set bb.toNat {cH s bb with bk:=mP (cH s bb).bk [t]}) i=gd s.ak i:=(by simp only[gd,eI];rw[oq (λe=>h e.symm)]);rw[cj h,cj h,this];have W:i<L s.ak:=(by simpa[lC] using hi);by_cases h:i=bb.toNat;subst h;have:(gd (lC s bb {cH s bb with bk:=mP (cH s bb).bk [t]}).ak bb.toNat).bk=fk (gd s.ak bb.toNat).bk t:=(by rw[show gd (lC s bb {cH s bb with bk:=mP (cH s bb).bk [t]}).ak bb.toNat={cH s bb with bk:=mP (cH s bb).bk [t]} from by simp[lC,gd,R]];exact Ro a0);simp only[this,↓reduceIte];refine .inr ⟨B,(fk (gd s.ak bb.toNat).bk t).map ci,by rw[bJ,bO],F6.keep _ _ (by simpa using aU) bA,gV⟩;have:gd (lC s bb {cH s bb with bk:=mP (cH s bb).bk [t]}).ak i=gd s.ak i:=(by simp only[lC,gd,eI];rw[oq (λe=>h e.symm)]);simp only[this,cj h];have q0:∀q∈aA (f i),q∉aA (f bb.toNat)/\q≠B/\q≠P:=λq v=>(by have y:=hD i bb.toNat W R h q v;have z:=(hX i W).ids q v;refine⟨y,?_,λe=>by subst e;rw[T] at z;cases z⟩;rintro rfl;rcases bD with h3|h3;exact y h3;exact h3.no _ z);exact((((hX i W).fx M λq v=>(q0 q v).1).fx F4 λq v=>by simpa using(q0 q v).2.1).fx F5 λq v=>by simpa using(q0 q v).2.1).fx F6 (λq v=>by simpa using(q0 q v).2.2)|>.x;have W:i<L s.ak:=(by simpa[lC] using hi);have aN:j<L s.ak:=(by simpa[lC] using hj);have aL:∀m,m<L s.ak->m≠bb.toNat->B∉aA (f m):=λm D bM v=>(by rcases bD with h3|h3;exact hD m bb.toNat D R bM _ v h3;exact h3.no _ ((hX m D).ids _ v));by_cases y:i=bb.toNat;have z:j≠bb.toNat:=λe=>aO (y.trans e.symm);simp only[bX y,aA,cE] at v;subst v;simp only[cj z];exact aL j aN z;simp only[cj y] at v;by_cases z:j=bb.toNat;simp only[bX z,aA,cE];rintro rfl;exact aL i W y v;simp only[cj z];exact hD i j W aN aO q v;rcases S.g2 with h|⟨q,y,z⟩;exact .inl h;exact .inr ⟨q,y,ad z (.inl (by simp)) (by simp)⟩;rcases S.g3 with h|⟨q,y,z⟩;exact .inl h;exact .inr ⟨q,y,ad z (.inl (by simp)) (by simp)⟩);obtain⟨aa,r1,r2⟩:=Z;refine dT (by simp[eL,okT,tok,lb,cD,dC,dK,bG.symm]) (E (_,0) Y6 (by simp[cU,lC,k]) S6 ⟨aa,ad r1 (.inr rfl) (by simp),r2⟩);have k:=nt k9;have ac:=lk (by omega) (by omega);have R:bb.toNat<L s.ak:=qI ac;obtain⟨P,f,rfl,T,hX,hD,hP⟩:=ce;have hc:=hX _ R;have bR:=a6 _ (ii ac);have D:t∈(gd s.ak bb.toNat).bk:=(by rw[lc] at aw;simp[k] at aw;exact aw.2);obtain⟨B,ch,av⟩:∃B,f bb.toNat= .m B (L (gd s.ak bb.toNat).bk)/\box O B=V ⟨3,1,U,I,(gd s.ak bb.toNat).bk.map ci⟩:=(by rcases hc with⟨y,_⟩|⟨B,y,z⟩;simp at y;rw[y] at D;cases D;exact⟨B,by rw[y];simp,z⟩);have aM:aA (f bb.toNat)=[B]:=(by rw[ch];rfl);have bG:B.1≠7:=(by have:=hP _ R B (by rw[aM];simp);omega);have bH:cz 2 O (.m P (L s.ak)) (iv bb)=V (.p P bb.toNat 0):=(by simp[cz,ac.1,T,R]);have bI:kb J O (.p P bb.toNat 1)=V (f bb.toNat):=(by simp only[kb,iE,T,qd,uU R,df];rfl);simp only[bH,aY,rR,T,df,aj,bI,ch,↓uL];refine awR D av e3 ax (by omega) λY3 M c4=>?_;have nv:∀{q:Id} {x:bY},box O q=V x->x.elem≠3\/x.var=U->q≠B:=λ{q x} v G e=>(by subst e;rw[av] at v;cases v;rcases G with G|G;exact G rfl;cases G);have co:∀{q:Id} {x:bY},box O q=V x->x.elem≠3\/x.var=U->box Y3 q=V x:=λ{q x} v G=>M.keep _ _ (by simpa using nv v G) v;have aV:=co T (.inl (by simp));have cA:cz 2 Y3 (.m P (L s.ak)) (iv bb)=V (.p P bb.toNat 0):=(by simp[cz,ac.1,aV,R]);simp only[aaZ,cA,aY,rR,aV,df,aj,↓uL];refine Bp aV (uU R) (x:= .m B (L (fJ (gd s.ak bb.toNat).bk t))) rfl rfl (by simp) λY6 F6 bB=>?_;simp only[aaY,↓uL];have nL:∀{q:Id} {x:bY},box O q=V x->x.elem≠131->q≠P:=λ{q x} v G e=>(by subst e;rw[T] at v;cases v;exact G rfl);have ad:∀{q:Id} {x:bY},box O q=V x->x.elem≠3\/x.var=U->x.elem≠131->box Y6 q=V x:=λ{q x} v G hL=>F6.keep _ _ (by simpa using nL v hL) (co v G);have aU:B≠P:=(by rintro rfl;rw[T] at av;cases av);have S6:Sz Y6 (lC s bb {cH s bb with bk:=fJ (cH s bb).bk t}) (.m P (L s.ak)) a2 a3:=(by refine⟨ad S.bx (.inr rfl) (by simp),⟨P,λi=>if i=bb.toNat then .m B (L (fJ (gd s.ak bb.toNat).bk t)) else f i,by simp[lC],?_,λi hi=>?_,λi j hi hj aO q v=>?_⟩,?_,?_⟩;rw[bB,Bl];simp only[lC,zq];congr 2;refine yC λi hi=>?_;by_cases h:i=bb.toNat;subst h;simp[gd,R,cH];have:gd (s.ak.set bb.toNat {cH s bb with bk:=fJ (cH s bb).bk t}) i=gd s.ak i:=(by simp only[gd,eI];rw[oq (λe=>h e.symm)]);rw[cj h,cj h,this];have W:i<L s.ak:=(by simpa[lC] using hi);by_cases h:i=bb.toNat;subst h;have:(gd (lC s bb {cH s bb with bk:=fJ (cH s bb).bk t}).ak bb.toNat).bk=fJ (gd s.ak bb.toNat).bk t:=(by simp[lC,gd,R,cH]);simp only[this,↓reduceIte];refine .inr ⟨B,_,by rw[bJ],F6.keep _ _ (by simpa using aU) c4,?_⟩;rw[dg,bJ,List.take_append_of_le_length (by simp)];exact oB (by simp);have:gd (lC s bb {cH s bb with bk:=fJ (cH s bb).bk t}).ak i=gd s.ak i:=(by simp only[lC,gd,eI];rw[oq (λe=>h e.symm)]);simp only[this,cj h];have q0:∀q∈aA (f i),q≠B/\q≠P:=λq v=>(by have y:=hD i bb.toNat W R h q v;rw[aM] at y;have z:=(hX i W).ids q v;exact⟨by simpa using y,λe=>by subst e;rw[T] at z;cases z⟩);exact(((hX i W).fx M λq v=>by simpa using(q0 q v).1).fx F6 (λq v=>by simpa using(q0 q v).2)).x;have W:i<L s.ak:=(by simpa[lC] using hi);have aN:j<L s.ak:=(by simpa[lC] using hj);have aL:∀m,m<L s.ak->m≠bb.toNat->B∉aA (f m):=λm D bM v=>hD m bb.toNat D R bM _ v (by rw[aM];simp);by_cases y:i=bb.toNat;have z:j≠bb.toNat:=λe=>aO (y.trans e.symm);simp only[bX y,aA,cE] at v;subst v;simp only[cj z];exact aL j aN z;simp only[cj y] at v;by_cases z:j=bb.toNat;simp only[bX z,aA,cE];rintro rfl;exact aL i W y v;simp only[cj z];exact hD i j W aN aO q v;rcases S.g2 with h|⟨q,y,z⟩;exact .inl h;exact .inr ⟨q,y,ad z (.inl (by simp)) (by simp)⟩;rcases S.g3 with h|⟨q,y,z⟩;exact .inl h;exact .inr ⟨q,y,ad z (.inl (by simp)) (by simp)⟩);obtain⟨aa,r1,r2⟩:=Z;refine dT (by simp[eL,okT,tok,lb,cD,dC,pP,dK,bG.symm]) (E (_,0) Y6 (by simp[cU,lC,k]) S6 ⟨aa,ad r1 (.inr rfl) (by simp),r2⟩);have k:=nt a7;exact S.tx λY' H A=>E (_,0) Y' (by simp[cU,k]) A (X S Z H (by simp));have k:=nt a8;exact S.tx λY' H A=>E (_,0) Y' (by simp[cU,k]) A (X S Z H (by simp));have k:=nt a9;exact S.th ab (by decide) {fA s t with atomic:=U} rfl λb Y' H A _=>E (_,0) Y' (by simp[cU,k];rfl) A (X S Z H (by simp));have k:=nt ba;exact S.th ab (by decide) {fA s t with atomic:=I} rfl λb Y' H A _=>E (_,0) Y' (by simp[cU,k];rfl) A (X S Z H (by simp));have k:=nt bd;have al:=cd (by omega) (by omega);simp only[rk,ix,u0,u1,↓uL];refine⟨al,?_⟩;refine S.lk (K:=λ_ _ Y=>Ik (.p (7,1) 0 0) (.p (8,1) 0 0) (iv bb) o Y) (mI al) λb Y' H A aM=>?_;have n:=S.no e3 rfl (by simp);have bz:=H.keep _ _ n.1 e3;simp only[Ik,u0,u1,A.bx,bz,aj,Bk,iF,ip,↓uL];refine A.th (by simpa[lC] using ab) (by decide) {fA s t with cQ:=3} rfl λb3 Y3 M S3 aX=>?_;simp only[aaO,↓uL];refine S3.th (by simpa[lC,ni] using ab) (by decide) {fA s t with cQ:=3,cond:=bb} (by simp only[ni,lC];rw[Af ab];rfl) λb4 Y4 F4 S4 cx=>?_;simp only[aa0,↓uL];refine dT ?_ (E (_,0) Y4 ?_ S4 (X S3 (X A (X S Z H (by simp)) M (by simp)) F4 (by simp)));have:=cn b3 (by rw[aX];simp);simp[eL,okT,tok,lb,cD,dC,dK,this.1.symm,this.2.symm];simp[cU,k,ni,lC];have k:=nt be;have al:=cd (by omega) (by omega);simp only[rk,ix,u0,u1,↓uL];refine⟨al,?_⟩;refine S.lk (K:=λ_ _ Y=>Il (.p (7,1) 0 0) (.p (8,1) 0 0) o Y) (mI al) λb Y' H A aM=>?_;have n:=S.no e3 rfl (by simp);have bz:=H.keep _ _ n.1 e3;simp only[Il,u0,u1,A.bx,bz,aj,Bk,iF,ip,↓uL];refine A.th (by simpa[lC] using ab) (by decide) {fA s t with cQ:=2} rfl λb3 Y3 M S3 aX=>?_;simp only[aaQ,↓uL];refine S3.th (by simpa[lC,ni] using ab) (by decide) {fA s t with cQ:=2,cond:=0} (by simp only[ni,lC];rw[Af ab];rfl) λb4 Y4 F4 S4 cx=>?_;simp only[aaP,↓uL];refine dT ?_ (E (_,0) Y4 ?_ S4 (X S3 (X A (X S Z H (by simp)) M (by simp)) F4 (by simp)));have:=cn b3 (by rw[aX];simp);simp[eL,okT,tok,lb,cD,dC,dK,this.1.symm,this.2.symm];simp[cU,k,ni,lC];have k:=nt bf;simp only[uS,aY,↓uL];refine jH rfl (aCD s bb lD ax bS S.g3) ?_;rintro r Y3 ⟨rfl,af,M⟩;have cf:∀x:aW,x.ak=s.ak->x.tx=s.tx->x.done=s.done->bc Y3 105 3 a3 (x.ay.map bF.c)->Sz Y3 x a1 a2 a3:=λx q1 q2 q3 q4=>(by have n:=S.no S.bx rfl (by simp);refine⟨by rw[q2];exact M.keep _ _ n.2.2 S.bx,by rw[q1];exact S.g1.fx M λk N=> .inl ⟨_,S.g3.ids k N, .inr ⟨rfl,by simp⟩⟩,?_,q4⟩;rw[q3];exact S.g2.fx M λk N D=>by have y:=S.g2.ids _ N;rw[S.g3.ids _ D] at y;cases y);refine⟨M.len,?_⟩;by_cases hw:fO s bb=[];have hc:gH s bb lD (L s.ay)= -1:=(by rw[gH];exact bX hw);rw[hc] at af⊢;exact E (s,-1) Y3 (by simp[cU,k,hw]) (cf s rfl rfl rfl (by simpa using af)) (X S Z M (by simp));have hc:gH s bb lD (L s.ay)=tD s bb lD:=(by rw[gH];exact cj hw);have h0:0<=tD s bb lD:=(by rw[<-hc,gH,cj (show¬eh s bb (L s.ay)=[] from hw)];split;rename_i z;obtain⟨i,_,_,R⟩:=AN.1 z;omega;exact(Li hw).1);rw[hc,bX h0] at af;rw[hc];exact E (_,_) Y3 (by simp[cU,k,hw];exact⟨rfl,rfl⟩) (cf (ni s (tD s bb lD) {fA s (tD s bb lD) with cQ:=4}) rfl rfl rfl af) (X S Z M (by simp));have k:=nt bg;simp only[uS,aY,↓uL];refine jH rfl (aCE s bb ax bS S.g3) ?_;rintro r Y3 ⟨rfl,af,M⟩;have n:=S.no S.bx rfl (by simp);have D:∀(l:List Int) (s:aW),(mH s l).ak=s.ak/\(mH s l).tx=s.tx/\(mH s l).done=s.done:=(by intro l;induction l with|nil=>intro s;exact⟨rfl,rfl,rfl⟩|cons u l ih=>intro s;exact ih (ni s u _));obtain⟨q1,q2,q3⟩:=D (fO s bb) s;refine⟨M.len,?_⟩;refine E (mH s (fO s bb),L (fO s bb)) Y3 (by simp[cU,k]) ⟨?_,?_,?_,af⟩ (X S Z M (by simp));rw[q2];exact M.keep _ _ n.2.2 S.bx;rw[q1];exact S.g1.fx M λk N=> .inl ⟨_,S.g3.ids k N, .inr ⟨rfl,by simp⟩⟩;rw[q3];exact S.g2.fx M λk N D=>(by have y:=S.g2.ids _ N;rw[S.g3.ids _ D] at y;cases y);have k:=nt bi;exact S.th (th (by omega) (by omega)) (by decide) {fA s bb with cQ:=1} rfl λb Y' H A _=>E (_,0) Y' (by simp[cU,k];rfl) A (X S Z H (by simp));have k:=nt bj;exact S.dn (dn (by omega) (by omega)) λY' H A=>E (_,0) Y' (by simp[cU,k]) A (X S Z H (by simp));refine E (s,0) O ?_ S Z;simp only[cP,nl] at k1 k2 k6 k7 k8 k9 a7 a8 a9 ba bd be bf bg bi bj;simp[cU,k1,k2,k6,k7,k8,k9,a7,a8,a9,ba,bd,be,bf,bg,bi,bj];rintro vs Y' ⟨rfl,A,aa,r1,r2⟩;have dP:(7:Nat)≠12:=(by decide);simp only[aa3,aI,u0,u1,A.bx,aj,uS,↓uL];refine cy (cs:=[a1,iv (cU w s t C bb lD).1.tx,a2,a3]) r1 rfl rfl (by rw[r2];decide) λaq bp cS=>?_;have cT:box aq (12,an)=V ⟨36,4,U,U,[[a1,iv (cU w s t C bb lD).1.tx,a2,a3]]⟩:=(by rw[cS];simp[r2]);have n:=A.no r1 rfl (by simp);have y:=A.g1.fx bp λk N=>(by simp only[cE] at N;subst N;exact .inl ⟨_,r1, .inl ⟨rfl,by simp⟩⟩);have z:=A.g2.fx bp λk N D=>(by simp only[cE] at D;subst D;exact n.2.1 N);have h3:=A.g3.fx bp λk N D=>(by simp only[cE] at D;subst D;exact n.2.2 N);simp only[aaU,u0,u1,cT,aj,uS,au,↓uL];obtain⟨t2,o2,q2⟩:=z.frD;obtain⟨t3,o3,q3⟩:=h3.frD;have hr:jS aq [.a [a1,iv (cU w s t C bb lD).1.tx,a2,a3],iv (cU w s t C bb lD).2,bv U]= .t [.a (eD (cU w s t C bb lD).1 (I,U,t2,o2,t3,o3)),iv (cU w s t C bb lD).2,bv U]:=(by show AV.t [.a [dQ aq a1,dQ aq (iv (cU w s t C bb lD).1.tx),dQ aq a2,dQ aq a3],_,_]=_;rw[y.fr,q2,q3];rfl);unfold aE;rw[hr];exact⟨rfl,_,rfl⟩
def BT:FT:=BL Ou
def ayr{w s t kind bb lD Lw K}:=al4 BT Ou w s t kind bb lD Lw K
def aYa:dO:=(135,BT)::Rm
def Bv:eJ aYa:=it (apO Ou) (ape)
def rX:=ai @ayr<|@aml
def alc:=bi 21 [(8,([8],[3,4,5,6])),(15,([],[5,6,12]))]
def akg c f R a:=aw 7 a c λd=>sV (aK 7 a f d) λb=>aw 7 b f λe=>aE R b [e,(bv U)]
def akn b i k R(j:eQ) a:=∀_:Rg,ab 6 a b λc=>ab 0 a i λd=>ao 1 a c d λe=>aM a e λf=>aV f (iv 1) λg=>ao 1 a c d λh=>sV (aK 1 a h g) (akg b k R)
def ako a b d(c:aG):=ab 1 a b λe=>bf e (iv 4) λh=>ah h (ab 4 a d λi=>ab 2 a b λj=>ab 3 a b λk=>ao 1 a i j λl=>sV (aK 1 a l k) λf=>c [] f) (bf e (iv 22) λm=>ah m (ab 5 a d λn=>ab 2 a b λo=>ab 3 a b λp=>ao 1 a n o λq=>sV (aK 1 a q p) λg=>c [] g) (c [] a))
def akh b c h i k l n o g j m p a q d r R e:=dH [(bo b),(bo c),(bo h),(lb I [(.f 136 [] []),i] [98]),(bo c),(bo k),(lb I [(.f 136 [] []),l] [101]),(bo c),(bo n),(lb I [(.f 98 [] []),o] [104]),(lb U [g,j,m,p] []),(lb I [] [12]),(lb I [a,q] [])] [(0,3),(3,4),(3,5),(0,6),(3,7),(6,7),(3,8),(6,8),(0,9),(0,11),(1,11),(2,11),(3,11),(4,11),(5,11),(6,11),(7,11),(8,11),(9,11),(10,11)] (jV 15 (akn a d r R) (ako e d a))
def aki c d e a q j k l m n o p r R f h:=rV (bM BF anY [(0,c),(1,d),(2,e),(3,f)]) λg=>eV (bs 40 BF h 12) λb i=>sV (aK 7 i b g) (akh a q j k l m n o c d e f b g p r R)
def akj e f i b g h j k m n R l a:=aB 6 a e λc=>aM a c λd=>cN 98 [d] a 104 (aki f i l b e g h j k c d m n R)
def akk e f b g h j k R i a:=aB 5 a e λc=>aM a c λd=>cN 136 [d] a 101 (akj e f i b g h c d j k R)
def akl g l R b f m a:=cf g λh=>ah h (rV (bM BF anY []) λi=>sV (aK 7 a l i) λc=>aw 7 c l λj=>aE R c [j,(bv I)]) (aw 4 a b λk=>aB 4 a f λd=>aM a d λe=>cN 136 [e] a 98 (akk f k b d e m l R))
def JX b p f d r R e:=∀_:Rg,aw 6 b p λh=>aB 0 b f λi=>aw 4 b i λj=>ab 0 b d λk=>ab 1 b d λl=>ab 2 b d λm=>fV BT b [h,j,k,l,m,(gt e 0)] λc=>rV (eO 0 c) λn=>rV (eO 1 c) λq=>rV (eO 2 c) λo=>eV (bs 36 aNC b 9) λa g=>sV (aK 4 g a n) (akl o r R a f d)
def akp f b(a:cG):=ab 1 f b λc=>bf c (iv 18) λd=>ah d (ab 3 f b λe=>a [e]) (a [(iv (-1))])
def akm e f b R m a:=aw 6 a e λt9=>aw 7 a f λx=>fV Gk a [t9,x] λy=>cf y λj=>bn j 0 a b λz=>aC j (aU z (iv 0)) λA=>aD j (bv U) A λg=>bn g 0 a b λB=>bn g 4 a e λC=>aC g (aJ a C) λD=>aC g (aO .geq B D) λE=>aD g (bv U) E λk=>bn k 1 a b λF=>aC k (aU F (iv 1)) λG=>aD k (bv U) G λl=>bn l 1 a b λH=>aC l (aO .gtr H (iv 23)) λK=>aD l (bv U) K λM=>ah M (rV (bM BF anY []) λN=>sV (aK 7 a m N) λn=>aw 7 n m λO=>aE R n [O,(bv I)]) (aw 6 a e λP=>aB 0 a f λS=>aw 4 a S λT=>ab 0 a b λW=>ab 1 a b λX=>ab 2 a b λZ=>fV BU a [P,T,W,X,Z] λaa=>cf aa λh=>aC h (aw 6 a e) λac=>aC h (aw 7 a b) λad=>aC h (fV Gl a [ac,ad]) λae=>aC h (cf ae) λaf=>aD h (bv U) af λd=>aC d (aw 6 a e) λag=>aC d (aw 7 a f) λak=>aC d (aw 7 a b) λal=>aC d (fV Gj a [ag,ak,al]) λo=>aC d (cf o) λp=>aD d (bv U) p λc=>aC c (aw 7 a f) λq=>aC c (aw 7 a b) λr=>aC c (fV Gm a [q,r]) λs=>aC c (cf s) λt=>aD c (bv U) t λu=>ah u (rV (bM BF anY []) λv=>sV (aK 7 a m v) λi=>aw 7 i m λw=>aE R i [w,(bv I)]) (jR 8 (JX a e f b m R) (akp a b)))
def JW c b a d R:=eV (bs 40 BF d 6) (akm c b a R)
def aMI{c:List AV}{d:List AV}{e:List AV}{R:d7}(l0:L c=6)(l1:L d=7)(w:L e=7)(h:∀b:ae,L b=4096->box b (3,1)=V ⟨31,6,U,U,[c]⟩->box b (4,1)=V ⟨40,7,U,U,[d]⟩->box b (5,1)=V ⟨64,7,U,U,[e]⟩->(∀k,k≠3->k≠4->k≠5->aZ b k=mO)->JW (.p (3,1) 0 0) (.p (4,1) 0 0) (.p (5,1) 0 0) b R):Fn aS GG 82 [.a c, .a d, .a e] R:=by refine uq ready Bv Tryz.func82 (an:=alc) (by kernel_rfl) (aND (show ZF aS GG aYa alc Tryz.f82 [.a c, .a d, .a e] R=(eV (qm 31 6 (ly Tryz.f82) 3 (.a c)) λm i=>eV (qm 40 7 i 4 (.a d)) λl j=>eV (qm 64 7 j 5 (.a e)) λf b=>JW m l f b R) by kernel_rfl) ?_);refine mY (N:=4096) rfl l0 (by decide) (by decide) uB (by rw[i8]) λi x n A g0=>?_;refine mY (N:=4096) rfl l1 (by decide) (by decide) x (by rw[g0 _ (by decide),i8]) λj y o r g1=>?_;refine mY (N:=4096) rfl w (by decide) (by decide) y (by rw[g1 _ (by decide),g0 _ (by decide),i8]) λb z q g s=>?_;exact h b z (by rw[g _ _ (by decide),r _ _ (by decide)];exact n) (by rw[g _ _ (by decide)];exact o) q (λk t u v=>by rw[s k v,g1 k u,g0 k t];exact i8 _ k)
def asv:=bi 21 [(13,([62],[1,60,61]))]
def Sx l d R c(j:aG)(e:bu) k a:=aw 6 a l λf=>ab 1 a d λg=>fV EV a [f,g,(bv I)] λh=>cf h λi=>ah i (aE R a [(bv I)]) (aV (gt c 0) (iv 1) λb=>j [b] a/\e [b] a<e c k)
def SA m l d R j k b a:=∀_:Rg,aU (gt b 0) m λn=>ah n (ao 2 a l (gt b 0) λf=>aw 2 a f λg=>eV (bs 126 aPp a 6) λc e=>sV (aK 2 e c g) (Sx d c R b j k a)) (aw 6 a d λh=>fV EY a [h] λi=>aE R a [i])
def Sw b a R:=ab 0 a b λt4=>aJ a t4 λP=>aO .gtr P (iv 12) λh=>bn h 1 a b λk=>aC h (aJ a k) λl=>aC h (aO .gtr l (iv 4)) λm=>aD h (bv U) m λd=>bn d 2 a b λn=>aC d (aJ a n) λo=>aC d (aO .gtr o (iv 2)) λp=>aD d (bv U) p λe=>bn e 3 a b λq=>aC e (aJ a q) λr=>aC e (aO .gtr r (iv 2)) λs=>aD e (bv U) s λf=>bn f 5 a b λt=>aC f (aJ a t) λu=>aC f (aO .gtr u (iv 60)) λv=>aD f (bv U) v λw=>ah w (aE R a [(bv I)]) (ab 4 a b λx=>aJ a x λy=>aU y (iv 1) λg=>bn g 4 a b λz=>aC g (aJ a z) λA=>aC g (aO .gtr A (iv 4)) λB=>aD g (bv U) B λC=>ah C (aE R a [(bv I)]) (ab 0 a b λD=>fV EW a [D] λi=>rV (eO 0 i) λE=>rV (eO 1 i) λF=>cf F λc=>aC c (aw 6 a b) λG=>ic c E λH=>aC c (fV EX a [G,H]) λK=>aC c (cf K) λM=>aD c (bv U) M λN=>ah N (aE R a [(bv I)]) (ab 2 a b λj=>aJ a j λO=>lV [(iv 0)] a (SA O j b R))))
def aJW{b:List AV}{R:d7}(l0:L b=6)(h:H1 31 6 1 b λc d=>Sw c d R):Ct 35 [.a b] R:=z1 asv Bv Tryz.func35 l0 h
def NG(w:br)(C:mQ w=U):Ct 35 [.a w.c] (·=bv U):=by refine aJW rfl λP B e N=>?_;have u:=C;simp only[mQ,bN,eH] at u;obtain⟨d,h⟩:=u;obtain⟨l,b⟩:∃l,lY w=V l:=(by grind);rw[b] at h;simp only[bN,mn] at h;obtain⟨q,s,M⟩:=h;have K:=anD b;have p:(jv w.cells (L w.cells) 0 []).isSome=U/\l=wB w (zV w.cells):=(by unfold lY at b;unfold zV;cases A:jv w.cells (L w.cells) 0 [] with|none=>simp_all|some r=>rw[A] at b;simp only[df,bE] at b;exact⟨rfl,b.symm⟩);obtain⟨n,rfl⟩:=p;simp only[wJ,cP,nl] at d;obtain⟨⟨⟨⟨⟨⟨z1,z2⟩,D⟩,E⟩,F⟩,G⟩,H⟩:=d;simp+contextual only[Sw,u0,u1,e,rk,aj,z1,z2,D,E,F,G,H,aB9,kz,lG,eE,vp,Ca,lS,ar,rX,n,↓uL];refine⟨by omega,?_⟩;rintro r ⟨t,o,rfl⟩;refine⟨.inl rfl,?_⟩;simp+contextual only[oJ,pG,u0,u1,e,rk,aj,ar,rX,AL,fh,kz,lG,eE,vp,Ca,lS,↓uL];refine⟨⟨q,by omega⟩,?_⟩;refine pQ (L w.bC) [6] (λk=>True) trivial λk Y O _ i=>?_;have f:box Y (1,1)=_:=i.bt e;simp+contextual only[SA,u0,u1,f,rk,ix,aj,bh,↓uL];refine⟨λg=>⟨bA g,?_⟩,λg=>?_⟩;refine eF rfl rfl (by decide) (by rw[i.1,B];decide) λx v y=>?_;have z:box x (1,1)=_:=v.bt f;have j:=s k (aL g);simp only[uh,cP,nl] at j;have m:dh (gd w.bC k).eg (L w.ak)=U:=(by rw[dX];exact⟨by omega,by omega⟩);simp+contextual only[Sx,↓iC,↓iB,↓iS,u0,u1,y,z,rk,ix,aj,bh,ar,rX,m,j.2,iw,beq_self_eq_true,fh,eE,vp,Ca,lS,↓uL];grind [oL,aL,Fr.trans];simp+contextual only[u0,u1,f,rk,aj,ar,rX,lS,↓uL];grind
def EU:FT:=mT NG
def axU{w Lw K}:=oK EU NG w Lw K (j:=by simp+contextual only[ij,j9])
structure kQ(n:Nat)(s:aW):Prop where
 lo:L s.ak<=4
 dn:L s.done<=2
 th:L s.ay<=4
 rd:∀l∈s.ak,jC l.bk/\∀x∈l.bk,aF n x
def aB2{l:List Int}{n:Nat}(h:jC l)(b:∀x∈l,aF n x):∀i:Nat,i<L l->(i:Int)<=gd l i:=by intro i;induction i with|zero=>intro a;exact(b _ (dB a)).1|succ i c=>intro a;have:=h i a;omega
def AC{l:List Int}{n:Nat}(h:jC l)(a:∀x∈l,aF n x):L l<=n:=by rcases oD (L l) with b|b;omega;have c:=aB2 h a (L l-1) (by omega);have d:=(a _ (dB (show L l-1<L l by omega))).2;omega
structure vL(w:am):Prop where
 wo:kB w
 th:L w.aQ.ay<=4
 sy:∀k:Nat,k<L w.ac->kQ (L w.aQ.ay) (cY w k).bm
def Dw{Y:ae}{e:TypeId}{a:AV}{l:List Int}{i:Int}{K:d7}(f:bc Y e 1 a (l.map ci))(c:aF (L l) i):(rV (cz 1 Y a (iv i)) λt=>rV (kb J Y t) K)=K (iv (gd l i.toNat)):=by have d:i.toNat<L l:=(by have:=c.1;have:=c.2;omega);rcases f with⟨h,_⟩|⟨b,rfl,g⟩;simp_all;simp[cz,c.1,g,d,rV,kb,iE,aN,bT d]
def DA{Y:ae}{e:TypeId}{a:AV}{l:List Int}{i v:Int}{K:be}(j:bc Y e 1 a (l.map ci))(c:aF (L l) i)(k:∀p Y',Fx Y Y' (aA a)->bc Y' e 1 a ((l.set i.toNat v).map ci)->K p Y'):rV (cz 1 Y a (iv i)) λp=>sV (aK 1 Y p (iv v)) (K p):=by have h:i.toNat<L l:=(by have:=c.1;have:=c.2;omega);rcases j with⟨q,_⟩|⟨b,rfl,d⟩;simp_all;have f:cz 1 Y (.m b (L (l.map ci))) (iv i)=V (.p b i.toNat 0):=(by simp[cz,c.1,d,h]);rw[f];simp only[rV];have n:(l.map ci)[i.toNat]?=V [iv (gd l i.toNat)]:=(by grind [eC,bT]);refine wL d n (by simp) λY' g o=>k _ Y' g ?_;refine .inr ⟨b,by simp,?_⟩;simp_all
def PR(w:br)(s:bW)(e:aP)(hp:C1 w s e=U/\L w.bC<=2/\L w.ay<=4/\kQ (L w.ay) s.bm/\L s.cells<1000/\L s.bU<1000/\L s.count<1000/\vo e):Ct 82 [.a w.c, .a s.c, .a e.c] (λr=>∃cs,r= .t [.a cs,bv U]/\Lk cs (oc w s e).c):=by refine aMI rfl rfl rfl λs6 O b1 b2 b3 h0=>?_;obtain⟨a0,p1,p2,p3,p4,p5,p6,p7⟩:=hp;have B:=a0;simp only[C1,eH,cP] at B;obtain⟨q1,q2,q3,q4,q5⟩:=B;have af:=q1;simp only[aOL,cP,fK,nl] at af;obtain⟨⟨⟨⟨hf,hi⟩,aW⟩,aX⟩,cw⟩:=af;obtain⟨cx,hn⟩:lh w s.bm=U/\named w e.kind e.bb=U:=(by grind [jm]);have ac:=dX.1 hi;obtain⟨m1,m2,m3⟩:L s.cells=L w.cells/\L s.bU=L w.bU/\L s.count=L w.ay:=(by grind [fN]);have ab:aF (L s.count) e.aq:=(by simp_all);have z1:¬e.aq<0:=(by have:=ac.1;omega);have z2:¬((L w.ay:Int)<=e.aq):=(by have:=ac.2;omega);simp only[u7,cP,fK,mn] at q5;obtain⟨⟨n1,n2⟩,n3⟩:=q5;have cz:∀l∈s.bm.ak,L l.bk<12:=λl O=>(by have:=AC (p3.rd l O).1 (p3.rd l O).2;omega);have hP:yM w e=I/\yN e=I/\lZ e.dI (gd s.count e.aq.toNat)/\lZ e.ep (gd s.count e.aq.toNat)/\aF (L s.count) e.aq/\(e.kind=3\/e.kind=4->aF (L w.cells) e.bb)/\vo e:=(by grind [qP]);have hV:aO8 s e=U/\L s.bm.ay<1000000/\(e.kind=3->aF (L s.cells) e.bb)/\(e.kind=23->aF (L s.bU) e.bb):=(by grind [kQ.th,qP,oU]);have hE:jm w s.bm e.aq e.kind e.bb=U/\L w.bC<=2/\(∀l∈s.bm.ak,L l.bk<100000):=(by grind);have hA:jm w s.bm e.aq e.kind e.bb=U/\L w.bC<=2/\(∀l∈s.bm.ak,L l.bk<12)/\(∀l∈s.bm.ak,jC l.bk)/\L s.bm.ak<1000/\L s.bm.done<1000/\L s.bm.ay<1000:=(by grind [kQ.rd,kQ.lo,kQ.dn,kQ.th]);simp only[JW,↓uL];refine alI rfl (by decide) (by omega) λT m E N7 b7=>?_;have c1:box m (3,1)=_:=E.kq b1;have c2:box m (4,1)=_:=E.kq b2;have M:box m (5,1)=_:=E.kq b3;have aZ:L m=4096:=E.len.trans O;simp+contextual only[akm,u0,u1,c1,c2,M,rk,aj,ar,rX,hf,p1,hE,hP,hV,q2,z1,z2,aW,aX,vg,aB9,fh,kN,kz,lG,eE,vp,Ca,lS,↓uL];refine⟨λ_ _=>trivial,(by simp),(by simp),?_⟩;simp+contextual only[akp,u0,u1,M,rk,aj,↓uL];suffices hj:JX m (.p (3,1) 0 0) (.p (4,1) 0 0) (.p (5,1) 0 0) (.p (6,T) 0 0) (λr=>∃cs,r=AV.t [AV.a cs,bv U]/\Lk cs (oc w s e).c) [iv (og e)] from(by refine⟨λh=>?_,λh=>?_⟩;simp only[mn] at h;rw[og,bX h] at hj;exact hj;simp only[nl] at h;rw[og,cj h] at hj;exact hj);simp only[JX,aI,au,u0,u1,c1,c2,M,rk,aj,ar,rX,↓uL];refine⟨hA,?_⟩;rintro r ⟨f,rfl⟩;refine⟨.inl rfl,?_⟩;simp only[oJ,pG,KM,aY,↓uL];generalize a1:(cU w s.bm e.aq e.kind e.bb (og e)).1=sy';refine alI rfl (by decide) (by omega) λv9 Y1 F1 N1 d9=>?_;refine cy (y:=4) (cs:=eD sy' f) d9 rfl rfl (by decide) λG o aO=>?_;have aw:box G (9,v9)=V ⟨36,4,U,U,[eD sy' f]⟩:=aO;have W:Fx m G []:=(F1.trans o).mono (by grind [bK.no]);have l2:L G=4096:=W.len.trans aZ;have e2:=W.kq c2;have bi:aN (V 4) (eD sy' f)=V (.a (eD sy' f)):=rfl;simp+contextual only[akl,u0,u1,aw,e2,bi,rk,aj,fh,eE,vp,Ca,lS,↓uL];refine alG (aa:=s.cells.map ci) rfl fF (by simp;omega) (by simp[gY]) (by omega) λb A g4 u P4=>?_;have f2:=u.kq e2;have l3:L A=4096:=u.len.trans l2;simp only[akk,u0,u1,f2,rk,aj,↓uL];refine alG (aa:=s.bU.map ci) rfl fF (by simp;omega) (by simp[gY]) (by omega) λd Y4 g5 C P5=>?_;have h2:=C.kq f2;have l4:L Y4=4096:=C.len.trans l3;simp only[akj,u0,u1,h2,rk,aj,↓uL];refine Kr (aa:=s.count.map ci) rfl fF (by simp;omega) (by simp[gY]) (by omega) λg Y5 g6 D P6=>?_;have l5:L Y5=4096:=D.len.trans l4;have Z:bM BF anY [(0, .a (eD sy' f)),(1,b),(2,d),(3,g)]=V (.a (eD sy' f++[b,d,g])):=(by simp[bM,gp,ms g4,ms g5,ms g6,eD,show∀x,eY (.a x)=V x fromλ_=>rfl]);have X:∀{q:Id} {x:bY},box m q=V x->box Y5 q=V x:=λhq=>D.kq (C.kq (by grind [Fx.keep]));simp only[aki,Z,aY,↓uL];refine alI rfl (by decide) (by omega) λag Y6 F6 N6 aM=>?_;refine cy (y:=7) (cs:=eD sy' f++[b,d,g]) aM rfl rfl (by decide) λH aJ av=>?_;have n:box H (12,ag)=V ⟨40,7,U,U,[eD sy' f++[b,d,g]]⟩:=av;have i:Fx Y5 H []:=(F6.trans aJ).mono (by grind [bK.no]);have l7:L H=4096:=i.len.trans l5;have G4:=((g4.fx C (by simp)).fx D (by simp)).fx i (by simp);have G5:=(g5.fx D (by simp)).fx i (by simp);have G6:=g6.fx i (by simp);have i3:=i.kq (X M);have i7:=i.kq (X b7);have ba:∀k∈aA b,k.1=98:=λk v=>(P4 k v).2;have bd:∀k∈aA d,k.1=101:=λk v=>(P5 k v).2;have be:∀k∈aA g,k.1=104:=λk v=>(P6 k v).2;clear Z;simp only[akh,↓uL];refine dT ?_ ?_;rcases g4 with⟨_,P⟩|⟨⟨k4,u4⟩,P,_⟩<;>rcases g5 with⟨_,R⟩|⟨⟨k5,u5⟩,R,_⟩<;>rcases g6 with⟨_,S⟩|⟨⟨k6,u6⟩,S,_⟩<;>(try(have h4:=ba (k4,u4) (by grind [aA]);simp only at h4;subst h4))<;>(try(have h5:=bd (k5,u5) (by grind [aA]);simp only at h5;subst h5))<;>(try(have h6:=be (k6,u6) (by grind [aA]);simp only at h6;subst h6))<;>rw[P,R,S]<;>rfl;have P:∀{x:List Int},aN J (aOz 4 (eD sy' f++[b,d,g]))=V b:=rfl;have R:aN J (aOz 5 (eD sy' f++[b,d,g]))=V d:=rfl;have S:aN J (aOz 6 (eD sy' f++[b,d,g]))=V g:=rfl;have r7:aN (V 7) (eD sy' f++[b,d,g])=V (.a (eD sy' f++[b,d,g])):=rfl;have j:∀Y K N,Fx H Y (aA b++aA d)->bc Y 2 1 b (K.map ci)->bc Y 2 1 d (N.map ci)->K=(if e.kind=4 then s.cells.set e.bb.toNat e.value else s.cells)->N=(if e.kind=22 then s.bU.set e.bb.toNat e.value else s.bU)->akn (.p (12,ag) 0 0) (.p (5,1) 0 0) (.p (6,T) 0 0) (λr=>∃cs,r=AV.t [AV.a cs,bv U]/\Lk cs (oc w s e).c) [] Y:=(by intro Y K N F H4 H5 e4 e5 _;have no:∀{q:Id},q.1≠98->q.1≠101->q∉aA b++aA d:=(by grind);have m3:=F.keep _ _ (by grind) i3;have m7:=F.keep _ _ (by grind) i7;have ad:=F.keep _ _ (by grind) n;have H6:=G6.fx F λk v=>no (by grind) (by grind);simp only[u0,u1,ad,m3,rk,S,aj,Dw H6 ab,cS,aY,↓uL];refine DA H6 ab λp G o K6=>?_;have ae:∀{q:Id},q.1≠104->q∉aA g:=(by grind);have K4:=H4.fx o (by grind);have K5:=H5.fx o (by grind);have a7:=o.keep _ _ (ae (by simp)) ad;have n7:=o.keep _ _ (ae (by simp)) m7;simp only[akg,u0,u1,a7,r7,↓uL];refine cy (y:=7) (cs:=eD sy' f++[b,d,g]) n7 rfl rfl (by decide) λA u o7=>?_;have a8:box A (6,T)=V ⟨40,7,U,U,[eD sy' f++[b,d,g]]⟩:=o7;simp only[a8,u0,u1,r7,↓uL];have cA:∀{q:Id},q.1≠6->q∉[((6,T):Id)]:=(by grind);obtain⟨x4,o4,z4⟩:=(K4.fx u (by grind)).frD;obtain⟨x5,o5,z5⟩:=(K5.fx u (by grind)).frD;obtain⟨x6,o6,z6⟩:=(K6.fx u (by grind)).frD;have aD:jS A [.a (eD sy' f++[b,d,g]),bv U]= .t [.a (eD sy' f++[.l (K.map ci) x4 o4, .l (N.map ci) x5 o5, .l ((s.count.set e.aq.toNat (dq.wrap (gd s.count e.aq.toNat+1))).map ci) x6 o6]),bv U]:=(by show AV.t [.a ((eD sy' f++[b,d,g]).map (dQ A)),bv U]=_;rw[dg];simp only[ji,mU,z4,z5,z6];rfl);unfold aE;rw[aD];refine⟨rfl,_,rfl,?_,rfl⟩;simp only[oc,a1,<-e4,<-e5];rfl);simp+contextual only[di,ako,u0,u1,i3,n,rk,P (x:=[]),R,aj,↓uL];refine⟨λh=>?_,λh=>⟨λh'=>?_,λh'=>?_⟩⟩;have h4:=nt h;refine DA G4 (by grind) λp Y8 z K4=>?_;exact j _ _ _ (z.mono (by grind)) K4 (G5.fx z (by grind)) (by grind) (by rw[cj (by omega)]);have cv:=nt h';refine DA G5 (by grind [oU]) λp Y8 z K5=>?_;exact j _ _ _ (z.mono (by grind)) (G4.fx z (by grind)) K5 (by grind) (by grind);exact j _ _ _ (Fx.refl _ _) G4 G5 (by grind) (by grind)
def Gi:FT:=vn PR
def azD{w s e Lw K}:=zZ Gi PR w s e Lw K (j:=by simp+contextual only[ij,j9])
def apo:dO:=(35,EU)::(82,Gi)::aYa
def Rf:eJ apo:=it (pg NG) (it (By PR) (Bv))
def Ac:=ai @axU<|ai @azD<|@rX
abbrev ap5:List AV:=[(.l [] I I)]
def avl:=bi 32 [(5,([23],[1,3,4,21,22])),(16,([42],[1,3,4,6,7,21,22,23,41])),(22,([47],[1,3,4,6,7,21,22,23,41,42,45,46]))]
def akR u a t W e l R i(r:cG)(j:fD)(s:cG)(k:fD) d:=∀_:Rg,aU (gt d 0) u λv=>ah v (ao 1 a t (gt d 0) λw=>aM a w λx=>aB 7 a W λy=>ab 6 a y λz=>ab 0 a e λA=>ao 1 a z A λB=>aM a B λC=>aO .sub x C λh=>aO .geq h (iv 0) λb=>fm b h λD=>fm b l λE=>aT b 0 a e λF=>az b (ao 1 a E F) λG=>az b (aM a G) λH=>az b (aJ a H) λK=>az b (aO .geq D K) λM=>fm b M λc=>ic c l λN=>bn c 0 a e λO=>aC c (ao 1 a N O) λP=>aC c (aM a P) λS=>ic c h λT=>aC c (ao 1 a S T) λm=>aC c (aM a m) λn=>aC c (cf n) λo=>az b (aD c (bv U) o) λp=>aD b p (bv I) λq=>ah q (aE R a [(bv I)]) (aV (gt d 0) (iv 1) λf=>s [f]/\k [f]<k d)) (aV (gt i 0) (iv 1) λg=>r [g]/\j [g]<j i)
def akK c(e:aG)(d:bu) f a:=aV (gt c 0) (iv 1) λb=>e [b] a/\d [b] a<d c f
def akL a e g c h i k l n o m p q j r f t s d z v w x y b:=dH [km,(bo a),(bo e),km,(bo a),(bo g),(lb U [c,h] []),(bo i),(bo a),(bo k),(lb U [l,(iv 3)] []),km,(bo a),(bo n),(lb U [o,(iv 23)] []),(lb U [m,(bv U),p] []),(lb I [q] []),(lb I [j,r] [102]),(lb U [c,f] []),(lb I [t,s] [])] [(0,16),(1,16),(2,16),(3,16),(4,16),(5,16),(6,16),(7,16),(0,17),(1,17),(2,17)] (aw 7 b d λu=>sV (aK 7 b z u) (akK v w x y))
def ar4 e b f h i j k m n p q o r s l t g y u v w x c a:=ao 1 a e b λd=>sV (aK 1 a d c) (akL f h i e j k m n p q o r s l t b d c g y u v w x)
def akQ C a F b k R s B v w y A x z d:=∀_:Rg,aU (gt d 0) (iv 2) λD=>ah D (rV (sI 2 1 J C (gt d 0)) λr=>aJ a r λE=>lR [(iv 0)] (akR E a r F b k R d x z)) (aB 0 a b λe=>aM a e λu=>aB 0 a b λf=>aM a f λg=>ao 1 a k g λh=>aM a h λi=>aB 1 a b λj=>aM a j λl=>bf l (iv 3) λc=>aC c (aB 1 a b) λm=>aC c (aM a m) λn=>aC c (bf n (iv 23)) λo=>aD c (bv U) o λp=>eV (aX BD 1 a [(0,p)]) λq t=>eV (j5 4 BE 1 t 102 i q) (ar4 k u b e f g h j l m n c o p i q s B v w y A))
def akM j R a o i c h d e f g b:=cf j λk=>ah k (aE R b [(bv I)]) (ab 5 b a λl=>ab 6 b a λm=>rV (tY a73 1 [(0,l),(1,m)]) λn=>lR [(iv 0)] (akQ n b o a i R c h d e f g))
def akN f d b R l g h i j a:=aB 0 a f λm=>aw 6 a m λn=>aw 7 a d λo=>aw 7 a b λp=>fV Gi a [n,o,p] λe=>rV (eO 0 e) λq=>rV (eO 1 e) λr=>eV (bs 40 BF a 7) λc k=>sV (aK 7 k c q) (akM r R b f l c d g h i j)
def akS j i n g R h d e b a:=∀_:Rg,aU (gt b 0) j λk=>ah k (ao 7 a i (gt b 0) λl=>aw 7 a l λm=>eV (bs 64 y8 a 6) λc f=>sV (aK 7 f c m) (akN n g c R h b d e a)) (aE R a [(bv U)])
def akO c d R e a:=ab 14 a c λb=>aJ a b λf=>lV [(iv 0)] a (akS f b c d R e)
def akP c d R a:=aB 0 a c λf=>ab 4 a f λe=>aJ a e λb=>eV (qO 33 ap5 24 a 19 b b) (akO c d R)
def akJ b c R:=aB 7 c b λt3=>aw 7 c t3 λt4=>eV (bs 40 BF c 3) λa d=>sV (aK 7 d a t4) (akP b a R)
def aMQ{b:List AV}{R:d7}(l0:L b=15)(h:H1 43 15 1 b λc d=>akJ c d R):Ct 41 [.a b] R:=z1 avl Rf Tryz.func41 l0 h
structure lJ(Y:ae)(b:Id)(e1 e:TypeId)(d n:Nat)(Lw:Nat->List (List AV))(f:Nat->AV):Prop where
 bx:box Y b=V ⟨e1,1,U,U,io n λi=>[f i]⟩
 gr:∀i,i<n->bc Y e 1 (f i) (Lw i)
 dj:∀i j,i<n->j<n->i≠j->∀q∈aA (f i),q∉aA (f j)
 pl:∀i,i<n->∀q∈aA (f i),q.1=d
def lJ.ix{Y:ae}{b:Id}{g e:TypeId}{d n:Nat}{c:Nat->List (List AV)}{f:Nat->AV}(O:lJ Y b g e d n c f){i:Int}(a:aF n i):cz 1 Y (.m b n) (iv i)=V (.p b i.toNat 0):=by have h:i.toNat<n:=(by have:=a.1;have:=a.2;omega);simp[cz,a.1,O.bx,h]
def lJ.ld{Y:ae}{b:Id}{c e:TypeId}{d n:Nat}{a:Nat->List (List AV)}{f:Nat->AV}(O:lJ Y b c e d n a f){i:Nat}(g:i<n):kb J Y (.p b i 0)=V (f i):=by simp[kb,iE,O.bx,uU g,aN]
def lJ.ln{Y:ae}{b:Id}{c e:TypeId}{d n:Nat}{a:Nat->List (List AV)}{f:Nat->AV}(O:lJ Y b c e d n a f){i:Nat}(g:i<n):fS Y (f i)=V (iv (L (a i))):=lnI (O.gr i g)
theorem lJ.keep{Y Y':ae}{b:Id}{ks:List Id}{c e:TypeId}{d n:Nat}{a:Nat->List (List AV)}{f:Nat->AV}(O:lJ Y b c e d n a f)(F:Fx Y Y' ks)(h:b∉ks)(j:∀i,i<n->∀q∈aA (f i),q∉ks):lJ Y' b c e d n a f:=⟨F.keep _ _ h O.bx,λi g=>(O.gr i g).fx F (j i g),O.dj,O.pl⟩
theorem lJ.no{Y:ae}{b:Id}{c e:TypeId}{d n:Nat}{a:Nat->List (List AV)}{f:Nat->AV}(O:lJ Y b c e d n a f){q:Id}{x:bY}(j:box Y q=V x)(k:x.var=U\/x.elem≠e){i:Nat}(g:i<n):q∉aA (f i):=λh=>by
 have:=(O.gr i g).ids q h
 rw[j] at this
 cases this
 rcases k with h|h
 ·cases h
 ·exact h rfl
def anO{Y:ae}{b:Id}{G e:TypeId}{d n by':Nat}{zs:List AV}{w:Nat->List (List AV)}{f:Nat->AV}{i:Int}{new:List (List AV)}{t o:Bool}{K:AV->be}(O:lJ Y b G e d n w f)(H:aF n i)(hz:L zs=1)(hd:d<L Y)(hr:∀r∈w i.toNat,L r=1)(hn:∀r∈new,L r=1)(hb:(L (w i.toNat)+L new)*(by'+1)<=1099511627776)(hK:∀a p Y' S,lJ Y' b G e d n (λj=>if j=i.toNat then w j++new else w j) S->L Y'=L Y->(∀q x,box Y q=V x->q≠b->x.var=U\/x.elem≠e->box Y' q=V x)->(∀q∈aA a,q.1=d)->p= .p b i.toNat 0->Fx Y Y' (b::aA (f i.toNat))->(∀j,j<n->∀q∈aA (S j),q∈aA (f j)\/bK Y q)->K a p Y'):eV (j5 e zs by' Y d (f i.toNat) (.l new t o)) λa C=>rV (cz 1 C (.m b n) (iv i)) λp=>sV (aK 1 C p a) (K a p):=by have s:i.toNat<n:=(by have:=H.1;have:=H.2;omega);refine gD (O.gr _ s) hz (by decide) hd hr hn hb λa C M u z Z=>?_;have D:b∉aA (f i.toNat):=O.no O.bx (.inl rfl) s;have P:=u.keep _ _ D O.bx;have W:cz 1 C (.m b n) (iv i)=V (.p b i.toNat 0):=(by simp[cz,H.1,P,s]);rw[W];have T:b∉aA a:=λh=>(by rcases z _ h with h|h;exact D h;exact h.no _ O.bx);have F:∀q∈aA a,q.1=d:=λq c=>(Z q c).elim (O.pl _ s q) id;refine Bp P (uU s) (ms M) rfl (by simp) λN v b2=>?_;have R:box N b=V ⟨G,1,U,U,io n λj=>[if j=i.toNat then a else f j]⟩:=(by rw[b2,Bl];congr 2;refine yC λj g=>?_;by_cases h:j=i.toNat<;>simp[h]);have E:∀j,j<n->j≠i.toNat->∀q∈aA (f j),q∉aA a:=λj g A q c B=>(by rcases z _ B with h|h;exact O.dj j i.toNat g s A q c h;exact h.no _ ((O.gr j g).ids q c));refine hK a _ N _ ⟨R,λj g=>?_,λj k g X A q c=>?_,λj g q c=>?_⟩ (v.len.trans u.len) (λq x c aa hx=>v.keep _ _ (by simpa using aa) (u.keep _ _ (O.no c hx s) c)) F rfl ((u.trans v).mono (by simp only[dF,eW];rintro q (h|h|h);exact .inl (.inr h);exact .inl (.inl h);cases h)) λj g q c=>?_;by_cases h:j=i.toNat;subst h;simp only[vm];exact M.fx v λq c e=>T (by simp at e;exact e▸c);simp only[cj h];refine((O.gr j g).fx u λq c=>O.dj j _ g s h q c).fx v λq c e=>?_;simp at e;exact O.no O.bx (.inl rfl) g (e▸c);by_cases h:j=i.toNat;simp only[bX h] at c;by_cases y:k=i.toNat;omega;simp only[cj y];exactλB=>E k X y q B c;simp only[cj h] at c;by_cases y:k=i.toNat;simp only[bX y];exact E j g h q c;simp only[cj y];exact O.dj j k g X A q c;by_cases h:j=i.toNat;simp only[bX h] at c;exact F q c;simp only[cj h] at c;exact O.pl j g q c;by_cases h:j=i.toNat;simp only[bX h] at c;rw[h];exact z q c;simp only[cj h] at c;exact .inl c
def giB{Y:ae}{e:TypeId}{a:AV}{l:List Bool}{i:Int}{K:d7}(g:bc Y e 1 a (l.map cb))(d:aF (L l) i):(rV (cz 1 Y a (iv i)) λt=>rV (kb J Y t) K)=K (bv (gd l i.toNat)):=by have c:i.toNat<L l:=(by have:=d.1;have:=d.2;omega);rcases g with⟨f,_⟩|⟨b,rfl,h⟩;simp at f;subst f;simp at c;simp[cz,d.1,h,c,rV,kb,iE,aN,bT c]
def fj(l:List aP)(t:Int)(k:Nat):List Nat:=(aH k).filter λj=>Q ((gd l j).aq=t)
def Bb{l:List aP}{t:Int}{k:Nat}:fj l t (k+1)=fj l t k++if(gd l k).aq=t then[k] else[]:=by rw[fj,List.range_succ,me];congr 1;by_cases h:(gd l k).aq=t<;>simp[h]
def wF{l:List aP}{t:Int}{k:Nat}:L (fj l t k)<=k:=by have:=fZ (λj=>Q ((gd l j).aq=t)) (aH k);simpa[fj] using this
def aOu(l:List aP)(k t:Nat):List Bool:=(fj l t k).map λj=>fR (gd l j)
structure xv(w:am):Prop where
 wo:vL w
 ev:∀e∈w.ac,vo e
 sn:∀k,k<L w.ac->L (cY w k).cells<1000/\L (cY w k).bU<1000/\L (cY w k).count<1000
 ct:L w.init.count=L w.aQ.ay/\∀c∈w.init.count,0<=c/\c<=400
 rd:∀k,k<L w.ac->∀x,x∈(gd w.ac k).dI\/x∈(gd w.ac k).ep-> -1000<=x/\x<=1000/\(gd w.init.count (gd w.ac k).aq.toNat<=x->x-gd w.init.count (gd w.ac k).aq.toNat<(L (aOu w.ac k (gd w.ac k).aq.toNat):Int)/\gd (aOu w.ac k (gd w.ac k).aq.toNat) (x-gd w.init.count (gd w.ac k).aq.toNat).toNat=U)
def PZ(w:am)(b:xv w):Ct 41 [.a w.c] (·=bv U):=by
 refine aMQ rfl λs2 hl b1 h0=>?_
 have bU:=b.wo.wo.ev
 simp only[akJ,u0,u1,b1,rk,aj,↓uL]
 refine so hl λW s3 F3 N3 b3=>?_
 refine cy (y:=7) (cs:=w.init.c) b3 rfl rfl (by decide) λs4 F4 b4=>?_
 have aE:box s4 (3,W)=V ⟨40,7,U,U,[w.init.c]⟩:=b4
 have c1:=F4.kq (F3.kq b1)
 have l4:L s4=4096:=(F4.len.trans F3.len).trans hl
 have bY:=b.wo.th
 simp only[akP,u0,u1,c1,rk,aj,dc,cT,↓uL]
 refine AP (by decide) (by decide) (by rw[l4];decide) (by omega) λP s5 o NR F5 b5=>?_
 have d1:=F5.kq c1
 have d3:=F5.kq aE
 have l5:L s5=4096:=F5.len.trans l4
 simp only[akO,u0,u1,d1,rk,aj,cT,↓uL]
 have E:((3,W):Id)≠P:=λe=>by rw[<-e] at o;simp at o
 have ak:((1,1):Id)≠P:=λe=>by rw[<-e] at o;simp at o
 refine yV (L w.ac) (λk _ Y=>∃ds f,Lk ds (cY w k).c/\box Y (1,1)=V ⟨43,15,U,U,[w.c]⟩/\box Y (3,W)=V ⟨40,7,U,U,[ds]⟩/\lJ Y P 33 4 102 (L w.aQ.ay) (λt=>(aOu w.ac k t).map cb) f/\L Y=4096) ⟨w.init.c,λ_=> .l [] U U,⟨rfl,rfl⟩,d1,d3,⟨by rw[b5,Q0];rfl,λi _=>bc.nil,λi j _ _ _ q H=>by simp[aA] at H,λi _ q H=>by simp[aA] at H⟩,l5⟩ ?_
 rintro k _ Y hk ⟨ds,f,D,e1,e3,O,aa⟩
 have a8:=Bi (oC D)
 simp only[akS,aI,au,u0,u1,ix,rk,bh,e1,aj,↓uL]
 refine⟨λh=>⟨bA h,?_⟩,λh=>trivial⟩
 have g:=aL h
 refine so aa λv6 Y1 F1 N1 g6=>?_
 refine cy (y:=7) (cs:=aP.c (gd w.ac k)) g6 rfl rfl (by decide) λN F2 aM=>?_
 have h6:box N (6,v6)=V ⟨64,7,U,U,[aP.c (gd w.ac k)]⟩:=aM
 have B:Fx Y N []:=F1.tn F2 N1.no
 have h1:=B.kq e1
 have C:=B.kq e3
 have O2:=O.keep B (by simp) (by simp)
 have l2:L N=4096:=B.len.trans aa
 simp only[akN,u0,u1,h1,C,h6,a8,rk,aj,↓uL]
 simp only[jM,kU,jt,zN,CU,D.arg,Ac]
 obtain⟨x1,x2,x3⟩:=b.sn k g
 have ab:=(b.wo.wo.en k g).2
 refine⟨⟨ab,b.wo.wo.co,b.wo.th,b.wo.sy k g,x1,x2,x3,b.ev _ (dB g)⟩,?_⟩
 rintro r ⟨z,rfl,A⟩
 refine⟨.inl ?_,?_⟩
 ·simp only[nA,List.any_cons,List.any_nil,x9 D]
  rfl
 have a0:oc w.aQ (cY w k) (gd w.ac k)=cY w (k+1):=by simp only[cY,nD,ab,asq]
 rw[a0] at A
 have ar:=Bi (oC A)
 simp only[oJ,pG,aY,↓uL]
 refine so l2 λv7 Y3 aw aB g7=>?_
 refine cy (y:=7) (cs:=z) g7 rfl (oC A) (by decide) λY4 az aN=>?_
 have i7:box Y4 (7,v7)=V ⟨40,7,U,U,[z]⟩:=by
  rw[aN];simp
 have v:Fx N Y4 []:=aw.tn az aB.no
 have i1:=v.kq h1
 have i3:=v.kq C
 have S:=v.kq h6
 have u:=O2.keep v (by simp) (by simp)
 have ae:L Y4=4096:=v.len.trans l2
 have n:=(b.wo.wo.named g).2
 have s:(gd w.ac k).aq.toNat<L w.aQ.ay:=by have:=n.1;have:=n.2;omega
 have X:aF (L w.init.count) (gd w.ac k).aq:=by rw[b.ct.1];exact n
 simp+contextual only[akM,u0,u1,S,rk,aj,fh,eE,vp,Ca,lS,brl,↓uL]
 refine C7 2 (λ_=>True) trivial λj hj _=>?_
 simp+contextual only[akQ,aI,au,u0,u1,↓uL]
 refine⟨λZ=>?_,λZ=>?_⟩
 ·have h2:j<2:=by simp at Z;omega
  rw[ax2 h2]
  have K:∀x∈(if j=0 then(gd w.ac k).dI else(gd w.ac k).ep),x∈(gd w.ac k).dI\/x∈(gd w.ac k).ep:=by
   intro x K;split at K;exact .inl K;exact .inr K
  have bu:L (if j=0 then(gd w.ac k).dI else(gd w.ac k).ep)<4611686018427387904:=by have:=b.ev _ (dB g);split;exact this.1;exact this.2
  generalize(if j=0 then(gd w.ac k).dI else(gd w.ac k).ep)=l at*
  simp only[u0,u1,cT,↓uL]
  refine C7 (L l) (λ_=>True) trivial λm hm _=>?_
  simp+contextual only[akR,aI,au,u0,u1,ix,rk,i1,S,aj,bh,↓uL]
  refine⟨λC=>⟨bA C,?_⟩,λ_=>gS h2 (by decide) trivial⟩
  have G:=aL C
  have a1:=b.rd k g _ (K _ (dB G))
  have bT:=b.ct.2 _ (ii X)
  generalize aX:gd l m-gd w.init.count (gd w.ac k).aq.toNat=m' at*
  have hw:dq.wrap m'=m':=eM (by omega) (by omega)
  have hO:=u.gr _ s
  simp only[u0,u1,ix,rk,dc,alr,aX,hw,↓uL]
  refine⟨X,?_⟩
  by_cases hz:0<=m'
  ·have M:Q (0<=m')=U:=aPI hz
   obtain⟨y1,y2⟩:=a1.2.2 (by omega)
   have an:aF (L (aOu w.ac k (gd w.ac k).aq.toNat)) m':=⟨hz,y1⟩
   have a2:Q ((L (aOu w.ac k (gd w.ac k).aq.toNat):Int)<=m')=I:=aPk (by omega)
   simp only[u0,u1,M,jA,S,rk,aj,u.ix n,u.ld s,u.ln s,bJ,a2,giB hO an,y2,fh,kz,qc,eE,vp,Ca,lS,↓uL]
   exact gS G (by omega) trivial
  ·have M:Q (0<=m')=I:=aPk hz
   simp only[u0,u1,M,jN,show∀x,mL (bv I) x (bv I)=V (bv I) fromλ_=>rfl,eE,vp,Ca,lS,↓uL]
   exact gS G (by omega) trivial
 ·simp+contextual only[u0,u1,S,rk,aj,dc,u.ix n,u.ld s,iz,bQ,↓uL]
  have bW:L (aOu w.ac k (gd w.ac k).aq.toNat)<=k:=by simp only[aOu,bJ];exact wF
  refine anO (by':=1) (zs:=BE) (d:=102) (e:=4) (new:=[[bv (fR (gd w.ac k))]]) u n rfl (by rw[ae];decide) (by intro r R;obtain⟨y,_,rfl⟩:=dN.1 R;rfl) (by intro r R;simp at R;subst R;rfl) (by simp only[bJ,bZ,vw];omega) λa p Y5 f5 O5 a6 F ha bV _ _=>?_
  have j1:=F _ _ i1 ak (.inl rfl)
  have j3:=F _ _ i3 E (.inl rfl)
  have al:((7,v7):Id)≠P:=λe=>by rw[<-e] at o;simp at o
  have j7:=F _ _ i7 al (.inl rfl)
  simp only[akL,↓uL]
  refine dT ?_ ?_
  ·have aZ:=u.pl _ s
   rcases u.gr _ s with⟨_,T⟩|⟨⟨k4,u4⟩,T,_⟩
   ·rw[T];rfl
   ·have h4:=aZ (k4,u4) (by rw[T];simp[aA])
    simp only at h4
    subst h4
    rw[T];rfl
  simp only[u0,u1,j7,ar,↓uL]
  refine cy (y:=7) (cs:=z) j3 rfl (oC A) (by rw[oC D];decide) λY6 F6 o3=>?_
  have a7:box Y6 (3,W)=V ⟨40,7,U,U,[z]⟩:=by
   rw[o3];have:=oC D;simp[this]
  have o1:=F6.kq j1
  have O6:=O5.keep F6 (by simpa using E.symm) (λi hi q H ad=>by
   simp at ad;subst ad
   have:=O5.pl i hi _ H
   simp at this)
  simp only[akK,au,cS,aY,↓uL]
  refine yU g ⟨z,f5,A,o1,a7,?_,(F6.len.trans a6).trans ae⟩
  have aV:(λj=>if j=(gd w.ac k).aq.toNat then(aOu w.ac k j).map cb++[[bv (fR (gd w.ac k))]] else(aOu w.ac k j).map cb)=λt=>(aOu w.ac (k+1) t).map cb:=by
   funext j
   have h0:=n.1
   simp only[aOu,Bb]
   by_cases hj:j=(gd w.ac k).aq.toNat
   ·rw[bX hj,bX (by omega)];simp
   ·rw[cj hj,cj (by omega)];simp
  rw[<-aV]
  exact O6
def Gq:FT:=mT PZ
def azL{w Lw K}:=oK Gq PZ w Lw K (j:=by simp+contextual only[ij,j9])
def apq:dO:=(41,Gq)::apo
def Rh:eJ apq:=it (pg PZ) (Rf)
def Do:=ai @azL<|@Ac
def avi:=bi 2 []
def akG b a R:=aB 0 a b λt3=>aw 6 a t3 λt4=>fV EU a [t4] λe=>az e (aB 0 a b) λC=>az e (aw 6 a C) λj=>az e (aB 7 a b) λk=>az e (aw 7 a k) λl=>az e (fV Gp a [j,l]) λm=>aD e m (bv I) λc=>aT c 14 a b λn=>az c (aJ a n) λo=>az c (aO .leq o (iv 16)) λp=>aD c p (bv I) λf=>az f (aw 15 a b) λq=>az f (fV aUv a [q]) λr=>aD f r (bv I) λg=>az g (aw 15 a b) λs=>az g (fV Gu a [s]) λt=>aD g t (bv I) λh=>az h (aw 15 a b) λu=>az h (fV Gt a [u]) λv=>aD h v (bv I) λd=>az d (aB 7 a b) λw=>az d (aw 7 a w) λx=>az d (fV Gs a [x]) λy=>aD d y (bv I) λi=>az i (aw 15 a b) λz=>az i (fV Gq a [z]) λA=>aD i A (bv I) λB=>aE R a [B]
def aMN{b:List AV}{R:d7}(l0:L b=15)(h:H1 43 15 1 b λc d=>akG c d R):Ct 15 [.a b] R:=z1 avi Rh Tryz.func15 l0 h
def amF{l:List Int}:jC l↔l.Pairwise (·<·):=by rw[List.pairwise_iff_getElem];refine⟨λh i j a c b=>?_,λh i a=>?_⟩;have:=AD h b c;rwa [bT a,bT c] at this;rw[bT a,bT (show i<L l by omega)];exact h i (i+1) (by omega) a (by omega)
def an1:∀{l:List Int} {t x:Int},x∈fk l t->x=t\/x∈l
 |[],t,x,h=>by simp[fk] at h;exact .inl h
 |y::l,t,x,h=>by
  simp only[fk] at h
  split at h
  ·rcases eW.1 h with h|h
   ·exact .inr (by simp[h])
   ·rcases an1 h with h|h
    ·exact .inl h
    ·exact .inr (by simp[h])
  ·split at h
   ·exact .inr h
   ·rcases eW.1 h with h|h
    ·exact .inl h
    ·exact .inr h
theorem kQ.ni{n:Nat}{s:aW}(h:kQ n s)(i:Int)(t:bF):kQ n (ni s i t):=⟨h.lo,h.dn,by simp[Ab.ni];exact h.th,h.rd⟩
def kQ.lk{n:Nat}{s:aW}(h:kQ n s)(i:Int):jC (cH s i).bk/\∀x∈(cH s i).bk,aF n x:=by unfold cH gd;rw[eI];cases a:s.ak[i.toNat]? with|none=>exact⟨λi b=>mp b (Nat.not_lt_zero _),λx a=>mp a ql⟩|some x=>exact h.rd x (List.mem_of_getElem? a)
theorem kQ.lC{n:Nat}{s:aW}(h:kQ n s)(i:Int)(l:cg)(b:jC l.bk/\∀x∈l.bk,aF n x):kQ n (lC s i l):=by refine⟨by simp[Ab.lC];exact h.lo,h.dn,h.th,λx a=>?_⟩;simp only[Ab.lC] at a;rcases List.mem_or_eq_of_mem_set a with a|rfl;exact h.rd x a;exact b
theorem kQ.marks{n:Nat}:∀{l:List Int} {s:aW},kQ n s->kQ n (l.foldl (λs u=>Ab.ni s u {fA s u with cQ:=4}) s)|[],_,h=>h|u::l,s,h=>kQ.marks (l:=l) (h.ni u _)
def kQ.apply{n:Nat}{s:aW}(h:kQ n s)(w:br)(t a bb lD:Int)(A:aF n t):kQ n (cU w s t a bb lD).1:=by unfold cU;by_cases p:a=1;rw[bX p];exact h.ni _ _;rw[cj p];by_cases q:a=2;rw[bX q];exact h.ni _ _;rw[cj q];by_cases r:a=6\/a=10;rw[bX r];exact h.lC _ _ (h.lk _);rw[cj r];by_cases u:a=7\/a=11;rw[bX u];exact h.lC _ _ (h.lk _);rw[cj u];by_cases v:a=8;rw[bX v];refine h.lC _ _ ?_;have o:=(h.lk bb).1;rw[show mP (cH s bb).bk [t]=fk (cH s bb).bk t from Ro o];refine⟨Nz o,λx b=>?_⟩;rcases an1 b with rfl|b;exact A;exact(h.lk bb).2 x b;rw[cj v];by_cases y:a=9;rw[bX y];refine h.lC _ _ ⟨amF.2 ((amF.1 (h.lk bb).1).filter _),λx b=>?_⟩;exact(h.lk bb).2 x (List.mem_filter.1 b).1;rw[cj y];by_cases c:a=12;rw[bX c];exact⟨h.lo,h.dn,h.th,h.rd⟩;rw[cj c];by_cases d:a=13;rw[bX d];exact⟨h.lo,h.dn,h.th,h.rd⟩;rw[cj d];by_cases e:a=14;rw[bX e];exact h.ni _ _;rw[cj e];by_cases f:a=15;rw[bX f];exact h.ni _ _;rw[cj f];by_cases g:a=16;rw[bX g];refine(h.lC _ _ ?_).ni _ _;exact h.lk _;rw[cj g];by_cases i:a=17;rw[bX i];refine(h.lC _ _ ?_).ni _ _;exact h.lk _;rw[cj i];by_cases j:a=18;rw[bX j];by_cases z:fO s bb=[];rw[bX z];exact h;rw[cj z];exact h.ni _ _;rw[cj j];by_cases k:a=19;rw[bX k];exact h.marks;rw[cj k];by_cases l:a=20;rw[bX l];exact h.ni _ _;rw[cj l];by_cases m:a=22;rw[bX m];exact⟨h.lo,by simp;exact h.dn,h.th,h.rd⟩;rw[cj m];exact h
def Bq{w:am}(h:Po w=U):∀k,k<=L w.ac->kQ (L w.aQ.ay) (cY w k).bm:=by obtain⟨m,s⟩:=aQA h;obtain⟨c,z,v,y,b⟩:=tC m;intro k;induction k with|zero=>intro _;have n:=m;simp only[oh,cP,fK,nl] at n;have g:=n.2;simp only[ny,bN,mn] at g;have o:L w.init.count=L w.aQ.ay:=(by simp only[fN,bN,mn] at b;exact b.2.2.2);refine⟨c.sy.lo,c.sy.dn,c.sy.th,λl r=>?_⟩;have q:l∈w.init.bm.ak:=r;obtain⟨j,p,rfl⟩:=ou q;have e:=(g.1 j p).2;rw[bT p] at e;refine⟨λi a=>?_,λx t=>?_⟩;have:=(e (i+1) a).2 (by omega);simpa using this;obtain⟨i,a,rfl⟩:=ou t;have:=(e i a).1;simp only[nO,bN] at this;have:=dX.1 this.1;rw[bT a,o] at this;exact this|succ k u=>intro A;have d:=s k (by omega);simp only[cY,nD,d,asq,oc];refine(u (by omega)).apply _ _ _ _ _ ?_;simp only[C1,eH,cP] at d;have f:=d.1;simp only[aOL,cP,fK] at f;exact dX.1 f.1.1.1.2
def vd{w:am}(d:hU w)(h:Po w=U):vL w:=by obtain⟨a,b⟩:=aQA h;refine⟨Rr d h,?_,λk e=>Bq h k (by omega)⟩;simp only[oh,cP,fK] at a;have c:=a.1.1.1.1.1;simp only[mQ,bN,eH] at c;have b:=c.1;simp only[wJ,cP,nl] at b;omega
def kJ(t:Int):List aP->Nat->List Nat|[],_=>[]|e::l,i=>(if e.aq=t then[i] else[])++kJ t l (i+1)
def QH{t:Int}:∀{a b:List aP} {i:Nat},kJ t (a++b) i=kJ t a i++kJ t b (i+L a)
 |[],b,i=>by simp[kJ]
 |e::a,b,i=>by
  simp only[zn,kJ,cC]
  rw[QH (a:=a)]
  congr 3
  simp;omega
def Qz{t:Int}:∀{l:List aP} {i m:Nat},m<L (kJ t l i)->pS t l m i=((gd (kJ t l i) m:Nat):Int)
 |[],i,m,h=>by simp[kJ] at h
 |e::l,i,m,h=>by
  simp only[pS]
  by_cases a:e.aq=t
  ·rw[bX a]
   cases m with
   |zero=>simp[kJ,a,gd]
   |succ m=>
    rw[cj (by omega),show((m+1:Nat):Int)-1=(m:Int) by omega]
    rw[Qz (l:=l) (i:=i+1) (m:=m) (by simp[kJ,a] at h;omega)]
    simp[kJ,a,gd]
  ·rw[cj a]
   rw[Qz (l:=l) (i:=i+1) (m:=m) (by simp[kJ,a] at h;exact h)]
   simp[kJ,a]
def anU{t:Int}{l:List aP}:∀{k:Nat},k<=L l->kJ t (l.take k) 0=fj l t k
 |0,_=>by simp[kJ,fj]
 |k+1,h=>by
  have a:k<L l:=by omega
  rw[iJ a,<-bT a,QH,anU (k:=k) (by omega),Bb]
  congr 1
  have:L (l.take k)=k:=by simp;omega
  rw[this]
  by_cases b:(gd l k).aq=t<;>simp[kJ,b]
def aEv{w:am}{t:Int}{k m:Nat}(b:k<=L w.ac)(c:m<L (fj w.ac t k)):oV w t m=(gd (fj w.ac t k) m:Nat):=by have a:kJ t w.ac 0=fj w.ac t k++kJ t (w.ac.drop k) k:=(by(conv=>lhs;rw[<-aq0 k w.ac]);rw[QH,anU b];congr 2;simp;omega);unfold oV;rw[Qz (by rw[a];simp;omega),a];unfold gd;rw[eI,List.getElem?_append_left c,eI]
def aBC{l:List Int}{i j:Nat}{v:Int}(h:i≠j):gd (l.set i v) j=gd l j:=by simp only[gd,eI];rw[oq h]
def axw{w:am}(h:Po w=U){t:Int}(c:aF (L w.init.count) t):∀k,k<=L w.ac->gd (cY w k).count t.toNat=gd w.init.count t.toNat+(L (fj w.ac t k):Int)/\L (cY w k).count=L w.init.count:=by obtain⟨e,l⟩:=aQA h;obtain⟨v,r,p,q,s⟩:=tC e;intro k;induction k with|zero=>intro _;simp[cY,fj]|succ k n=>intro y;obtain⟨i,m⟩:=n (by omega);have b:=l k (by omega);have f:=(wK e k (by omega)).cn;have a:t.toNat<L (cY w k).count:=(by have:=c.1;have:=c.2;omega);simp only[cY,nD,b,asq,oc,zq];refine⟨?_,m⟩;simp only[C1,eH,cP] at b;have d:=b.1;simp only[aOL,cP,fK] at d;have j:=dX.1 d.1.1.1.2;have o:=j.1;have u:=c.1;rw[Bb];by_cases g:(gd w.ac k).aq=t;rw[g,bX rfl,P8,List.length_singleton];have x:=f _ (dB a);rw[show gd ((cY w k).count.set t.toNat (dq.wrap (gd (cY w k).count t.toNat+1))) t.toNat=dq.wrap (gd (cY w k).count t.toNat+1) from by simp[gd,a]];rw[eM (by omega) (by omega),i];omega;rw[cj g,cL];rw[aBC (by omega)];exact i
def anT{w:am}(z:hU w)(h:Po w=U):xv w:=by obtain⟨f,F⟩:=aQA h;obtain⟨B,O,M,N,m⟩:=tC f;have D:=vd z h;have i:L w.init.count=L w.aQ.ay:=(by simp only[fN,bN,mn] at m;exact m.2.2.2);have g:∀c∈w.init.count,0<=c/\c<=400:=λc E=>(by have:=B.cn c E;omega);refine⟨D,z.2.2.1,λk q=>?_,⟨i,g⟩,λk q x a=>?_⟩;have:=wK f k (by omega);have:=this.ce;have:=(wK f k (by omega)).fu;have:=(wK f k (by omega)).co;omega;have p:=F k q;simp only[C1,eH,cP] at p;have v:=p.2.2.2.2;have s:=p.1;simp only[aOL,cP,fK] at s;have u:=dX.1 s.1.1.1.2;simp only[u7,cP,fK,mn] at v;obtain⟨⟨G,H⟩,T⟩:=v;have n:aF (L w.init.count) (gd w.ac k).aq:=(by rw[i];exact u);obtain⟨C,S⟩:=axw h n k (by omega);have K:=g _ (ii n);have R:=wF (l:=w.ac) (t:=(gd w.ac k).aq) (k:=k);have A:1<=x/\x<gd (cY w k).count (gd w.ac k).aq.toNat:=(by rcases a with a|a;obtain⟨j,d,rfl⟩:=ou a;have:=G j d;rw[uJ,bT d] at this;exact⟨this.1,this.2.1⟩;obtain⟨j,d,rfl⟩:=ou a;have:=H j d;rw[uJ,bT d] at this;exact⟨this.1,this.2.1⟩);rw[C] at A;refine⟨by omega,by omega,λP=>?_⟩;have o:(((gd w.ac k).aq.toNat:Nat):Int)=(gd w.ac k).aq:=kA u.1;have r:(x-gd w.init.count (gd w.ac k).aq.toNat).toNat<L (fj w.ac (gd w.ac k).aq k):=(by omega);have b:qU w (gd w.ac k).aq x=U:=(by have y:=h;simp only[Po,bN,eH,mn] at y;have:=y.2.2 k q;simp only[xH,cP,fK,mn] at this;rcases a with a|a;exact this.1.2 x a;exact this.2 x a);simp only[qU] at b;rw[aPk (by omega),lG] at b;have e:=aEv (w:=w) (t:=(gd w.ac k).aq) (k:=k) (by omega) r;rw[kA (by omega)] at e;rw[e] at b;simp only[bN,bh] at b;refine⟨?_,?_⟩;simp only[aOu,bJ,o];omega;simp only[aOu,o];rw[bT (by simpa using r),List.getElem_map,<-bT r];exact b.2
def PW(w:am)(H:Po w=U/\hU w):Ct 15 [.a w.c] (·=bv U):=by refine aMN rfl λs2 s v h0=>?_;obtain⟨g,q⟩:=H;have m:=anT q g;have n:=g;simp only[Po,bN,eH,mn] at n;obtain⟨k,r,_⟩:=n;obtain⟨d,O,o,p,P⟩:=tC k;have e:=k;simp only[oh,cP,fK,nl] at e;obtain⟨⟨⟨⟨⟨K,h⟩,v3⟩,M⟩,N⟩,u⟩:=e;have R:=q;have S:=m.wo.th;obtain⟨g1,W,i,X⟩:L w.init.count=L w.aQ.ay/\L w.init.bm.ay=L w.aQ.ay/\L w.init.bm.ak=L w.aQ.ak/\L w.init.bm.done=L w.aQ.bU:=(by have b:=h;simp only[fN,bN,mn] at b;obtain⟨T,x,y,A⟩:=iY b.1;exact⟨b.2.2.2,A,x,y⟩);have Z:L w.init.bU=L w.aQ.bU:=(by have b:=h;simp only[fN,bN,mn] at b;exact b.2.2.1);have f:=u;simp only[ny,bN,mn] at f;have z:(L w.ac:Int)<=16:=(by omega);have t:aN (V 15) w.c=V (.a w.c):=rfl;have B:L w.ac<1000000/\L w.init.count<1000000:=(by omega);have hS:=Bq g 0 (by omega);have E:uZ w=U/\(∀j,j<L w.init.bm.ay->pX w j=U)/\L w.init.count=L w.init.bm.ay/\L w.init.bm.ay<1000000/\L w.init.bm.ak=L w.aQ.ak/\(∀c∈w.aQ.bC,aF (L w.aQ.ak) c.eg):=⟨N,f.2.2,by omega,by omega,i,o⟩;have D:ny w=U/\L w.init.bm.ak=L w.aQ.ak/\L w.aQ.ak<=4/\L w.init.bm.ay<=4/\(∀l∈w.init.bm.ak,L l.bk<=100):=⟨u,i,by have:=d.sy.lo;omega,by omega,λl s=>by have:=d.sy.rd l s;omega⟩;have C:(∀j,j<L w.init.bU->L w.init.bm.done=L w.init.bU/\(gd w.init.bm.done j=I->gd w.init.bU j=0))/\L w.init.bU=L w.init.bm.done/\L w.init.bU<1000000:=(by refine⟨λj G=>⟨by omega,λF=>?_⟩,by omega,by have:=d.fu;omega⟩;have:=r j G;simp only[Ae,F,kN,iw,nl,aNS] at this;exact this);simp+contextual only[akG,u0,u1,v,t,rk,aj,ar,Do,K,h,M,p,z,B,E,D,C,m,vg,aNK,iw,ru,lS,Ca,oe,↓uL];exact⟨by have:=d.sy.dn;omega,trivial⟩
def xc:FT:=mT PW
def azI{w Lw K}:=oK xc PW w Lw K (j:=by simp+contextual only[ij,j9])
def apr:dO:=(15,xc)::apq
def apf:eJ apr:=it (pg PW) (Rh)
def amm:=ai @azI<|@Do
def aty:=bi 5 []
def aaG b c a R:=aw 15 a b λt3=>fV xc a [t3] λt4=>cf t4 λd=>ah d (aE R a [(.l [] U U)]) (aw 15 a b λe=>fV Fq a [e,c] λf=>aE R a [f])
def aKZ{b:List AV}{c:AV}{R:d7}(l0:L b=15)(h:H1 43 15 2 b λd e=>aaG d c e R):Ct 43 [.a b,c] R:=z1 aty apf Tryz.func43 l0 h
def Oq(w:am)(q:Int)(f:Po w=U/\hU w/\L w.ac<100000/\(aF (L w.ac) q->((gd w.ac q.toNat).kind=23->aF (L w.init.bm.done) (gd w.ac q.toNat).bb/\aF (L w.init.bU) (gd w.ac q.toNat).bb)/\((gd w.ac q.toNat).kind=3->aF (L w.init.cells) (gd w.ac q.toNat).bb))):Ct 43 [.a w.c,iv q] (λr=>∃t,r= .l ((dx w q).map ci) t U):=by refine aKZ rfl λk j d i=>?_;obtain⟨g,e,p1,h⟩:=f;have b:aN (V 15) w.c=V (.a w.c):=rfl;simp+contextual only[aaG,u0,u1,d,b,rk,aj,ar,amm,g,e,vg,lS,fh,eE,vp,Ca,↓uL];refine⟨⟨p1,h⟩,?_⟩;intro t;exact⟨rfl,t,rfl⟩
def Fp:FT:=pn Oq
def ayp{w q Lw K}:=rQ Fp Oq w q Lw K
def aps:dO:=(43,Fp)::apr
def apg:eJ aps:=it (aN0 Oq) (apf)
def Dp:=ai @ayp<|@amm
def atc:=bi 62 [(4,([3,20],[1,19])),(10,([3,26],[1,4,19,20,25])),(13,([3],[1,4,19,20,25,26])),(18,([3,43],[1,42])),(25,([3,55],[1,53,54])),(28,([3],[1,53,54,55])),(33,([3,71],[1,69,70])),(36,([3],[1,69,70,71])),(41,([3,83],[1,9,69,70,71,81,82])),(48,([3,98],[1,96,97])),(51,([3],[1,96,97,98])),(56,([3,113],[1,13,96,97,98,111,112]))]
def HY a(f:aG)(c:bu) g b d:=∀_:Rg,aV (gt a 1) (iv 1) λe=>f [(gt b 0),e] d/\c [(gt b 0),e] d<c a g
def YL c a b(J15:aG):=aO .neq (gt c 1) (gt a 1) λf=>ah f (rV (bM aBH aM7 [(0,(iv 1)),(1,(gt c 1)),(2,(gt a 1))]) λg=>eV (aX aON 1 b [(0,g)]) λh d=>eV (j5 51 aBH 24 d 37 (gt a 0) h) λi e=>J15 [i] e) (J15 [(gt a 0)] b)
def YP h c(j:aG)(g:bu) k e f a b:=∀_:Rg,aU (gt a 1) h λi=>ah i (jV 13 (HY a e f b) (YL c a b)) (aV (gt c 1) (iv 1) λd=>j [(gt a 0),d] b/\g [(gt a 0),d] b<g c k)
def YF a(f:aG)(b:bu) g d c:=aV (gt a 1) (iv 1) λe=>f [d,e] c/\b [d,e] c<b a g
def HZ a(f:aG)(c:bu) g b d:=∀_:Rg,aV (gt a 1) (iv 1) λe=>f [(gt b 0),e] d/\c [(gt b 0),e] d<c a g
def YG d a(c:aG) b:=aw 7 b d λg=>fV zc b [g] λh=>ah h (rV (bM aBH aM7 [(0,(iv 3)),(1,(gt a 1))]) λi=>eV (aX aON 1 b [(0,i)]) λj e=>eV (j5 51 aBH 24 e 66 (gt a 0) j) λk f=>c [k] f) (c [(gt a 0)] b)
def YM b f c d:=ao 7 b f (gt c 1) λg=>aw 7 b g λh=>eV (bs 64 y8 b 8) λa e=>sV (aK 7 e a h) (YG a c d)
def aUz a(f:aG)(c:bu) g b d:=∀_:Rg,aV (gt a 1) (iv 1) λe=>f [(gt b 0),e] d/\c [(gt b 0),e] d<c a g
def YH a(f:aG)(b:bu) g d c:=aV (gt a 1) (iv 1) λe=>f [d,e] c/\b [d,e] c<b a g
def YU i h c(e:aG) d f a b:=∀_:Rg,aU (gt a 1) i λj=>ah j (ao 1 b h (gt a 1) λk=>aM b k λl=>rV (bM aBH aM7 [(0,(iv 4)),(1,(gt c 1)),(2,l)]) λm=>eV (aX aON 1 b [(0,m)]) λn g=>eV (j5 51 aBH 24 g 92 (gt a 0) n) (YH a d f b)) (e [(gt a 0)] b)
def YI e(c:aG) b k a:=aw 7 a e λf=>fV zc a [f] λg=>cf g λh=>ah h (c [(gt b 0)] a) (aw 15 a k λi=>fV Fp a [i,(gt b 1)] λd=>aJ a d λj=>lV [(gt b 0),(iv 0)] a (YU j d b c))
def YN b f c i d:=ao 7 b f (gt c 1) λg=>aw 7 b g λh=>eV (bs 64 y8 b 10) λa e=>sV (aK 7 e a h) (YI a d c i)
def H7 a(f:aG)(c:bu) g b d:=∀_:Rg,aV (gt a 1) (iv 1) λe=>f [(gt b 0),e] d/\c [(gt b 0),e] d<c a g
def YJ a(f:aG)(b:bu) g d c:=aV (gt a 1) (iv 1) λe=>f [d,e] c/\b [d,e] c<b a g
def YW g f m(n:aG) c d a b:=∀_:Rg,aU (gt a 1) g λh=>ah h (ao 1 b f (gt a 1) λi=>aM b i λj=>rV (bM aBH aM7 [(0,(iv 5)),(1,(gt m 1)),(2,j)]) λk=>eV (aX aON 1 b [(0,k)]) λl e=>eV (j5 51 aBH 24 e 122 (gt a 0) l) (YJ a c d b)) (n [(gt a 0)] b)
def YK b(e:aG) c m a:=aw 7 a b λf=>fV aTR a [f] λg=>cf g λh=>ah h (e [(gt c 0)] a) (aw 15 a m λi=>ab 2 a b λj=>ab 0 a b λk=>fV aTS a [i,j,k] λd=>aJ a d λl=>lV [(gt c 0),(iv 0)] a (YW l d c e))
def YO b f c i e:=ao 7 b f (gt c 1) λg=>aw 7 b g λh=>eV (bs 64 y8 b 14) λa d=>sV (aK 7 d a h) (YK a e c i)
def YV f e h R c d a b:=∀_:Rg,aU (gt a 1) f λg=>ah g (jV 51 (H7 a c d b) (YO b e a h)) (aE R b [(gt a 0)])
def YS h g c R e f a b:=∀_:Rg,aU (gt a 1) h λi=>ah i (jV 36 (aUz a e f b) (YN b g a c)) (ab 14 b c λd=>aJ b d λj=>lV [(gt a 0),(iv 0)] b (YV j d c R))
def YR h g d R e f a b:=∀_:Rg,aU (gt a 1) h λi=>ah i (jV 28 (HZ a e f b) (YM b g a)) (ab 14 b d λc=>aJ b c λj=>lV [(gt a 0),(iv 0)] b (YS j c d R))
def YQ h d R e f a b:=∀_:Rg,aU (gt a 1) h λi=>ah i (rV (bM aBH aM7 [(0,(iv 2)),(1,(gt a 1))]) λj=>eV (aX aON 1 b [(0,j)]) λk g=>eV (j5 51 aBH 24 g 50 (gt a 0) k) (YF a e f b)) (ab 14 b d λc=>aJ b c λl=>lV [(gt a 0),(iv 0)] b (YR l c d R))
def YT j c R h i b a:=∀_:Rg,aU (gt b 1) j λk=>ah k (ab 14 a c λd=>aJ a d λe=>lV [(gt b 0),(iv 0)] a (YP e b h i a)) (ab 14 a c λf=>aJ a f λg=>lV [(gt b 0),(iv 0)] a (YQ g c R))
def YE a b R:=ab 14 b a λt4=>aJ b t4 λc=>lV [(.l [] U U),(iv 0)] b (YT c a R)
def aKD{b:List AV}{R:d7}(l0:L b=15)(h:H1 43 15 1 b λc d=>YE c d R):Ct 16 [.a b] R:=z1 atc apg Tryz.func16 l0 h
abbrev uF:List Nat:=[37,50,66,92,122]
abbrev nf2:List Nat:=[37,50,66,92,122,8,10,14]
def NT(w:am)(hp:kB w/\L w.init.bm.ay<=4/\fN w.aQ w.init=U/\Po w=U/\hU w):Ct 16 [.a w.c] (λr=>∃t,r= .l ((cw w).map ap.c) t U):=by refine aKD rfl λs2 hl b1 h0=>?_;obtain⟨H,bs,D,aJ,aE⟩:=hp;have bl:=H.ev;simp+contextual only[YE,u0,u1,b1,rk,ix,aj,↓uL];have z:∀k m:Nat,k<=16->m<=100->k*m<=16*100:=λk m a b=>Nat.mul_le_mul a b;refine iu (λa i=>[a,iv i]) 1 uF nf2 51 3 (L w.ac) (λk=>(lr (L w.ac) k).map ap.c) (λ_=>True) trivial (.inl ⟨rfl,rfl⟩) λk a Y o _ hG hF=>?_;have c1:box Y (1,1)=_:=hF.bt b1;have ae:L Y=4096:=(by rw[hF.1,hl]);simp only[YT,aI,u0,u1,c1,rk,ix,aj,bh,↓uL];refine⟨λh=>?_,λh=>?_⟩;have s:=aL h;have bo:=AS (L w.ac) k;have bp:=z k (L w.ac) (by omega) (by omega);refine iu (λa i=>[a,iv i]) 1 uF nf2 51 3 (L w.ac) (λm=>(lr (L w.ac) k++nB k m).map ap.c) (λ_=>True) trivial (by simpa[nB] using hG) λm a2 X R _ q g=>?_;have v:L X=4096:=(by rw[g.1,ae]);have bq:=Qu k m;simp only[YP,aI,di,u0,u1,YL,xy,↓uL];refine⟨λf=>⟨λe=>?_,λe=>?_⟩,λf=>?_⟩;refine rF ⟨1,k,m⟩ q (by decide) (by rw[v];decide) (by simp;omega) λa3 E G x=>?_;simp only[HY,aI,au,fE,cS,aY,↓uL];refine C0 (mk:=λa i=>[a,iv i]) (λ_ _=>rfl) (aL f) (by omega) trivial ?_ (g.trans (x.mono (by decide)));rw[nB,uP,bX e,<-cC];exact G;simp only[HY,aI,au,fE,cS,aY,↓uL];refine C0 (mk:=λa i=>[a,iv i]) (λ_ _=>rfl) (aL f) (by omega) trivial ?_ g;rw[nB,uP,e];simpa[nB] using q;have d:m=L w.ac:=bP R (bw f);subst d;refine C0 (mk:=λa i=>[a,iv i]) (λ_ _=>rfl) s (by omega) trivial ?_ (hF.trans g);rw[lr,tq];exact q;have j:k=L w.ac:=bP o (bw h);subst j;have bi:=AS (L w.ac) (L w.ac);have bj:=z (L w.ac) (L w.ac) (by omega) (by omega);clear h o;refine iu (λa i=>[a,iv i]) 1 uF nf2 51 3 (L w.ac) (λk=>(lr (L w.ac) (L w.ac)++mK k).map ap.c) (λ_=>True) trivial (by simpa[mK] using hG) λk a1 Y1 o _ N K=>?_;have c2:box Y1 (1,1)=_:=K.bt c1;have P:L Y1=4096:=(by rw[K.1,ae]);simp only[YQ,aI,u0,u1,c2,rk,ix,aj,CW,↓uL];refine⟨λh=>?_,λh=>?_⟩;refine rF ⟨2,k,0⟩ N (by decide) (by rw[P];decide) (by simp[AT];omega) λa3 E G x=>?_;simp only[YF,au,fE,cS,aY,↓uL];refine C0 (mk:=λa i=>[a,iv i]) (λ_ _=>rfl) (aL h) (by omega) trivial ?_ (K.trans (x.mono (by decide)));rw[mK,an5,<-cC];exact G;have j:k=L w.ac:=bP o (bw h);subst j;clear h o;generalize aa:lr (L w.ac) (L w.ac)++mK (L w.ac)=P2 at N;have a8:L P2<=1700:=(by rw[<-aa,P8,AT];omega);refine iu (λa i=>[a,iv i]) 1 uF nf2 51 3 (L w.ac) (λk=>(P2++kh w.ac k).map ap.c) (λ_=>True) trivial (by simpa[kh] using N) λk a2 X o _ q g=>?_;have c3:box X (1,1)=_:=g.bt c2;have v:L X=4096:=(by rw[g.1,P]);simp only[YR,aI,di,YM,u0,u1,c3,rk,ix,aj,bh,↓uL];refine⟨λh=>⟨bA h,?_⟩,λh=>?_⟩;refine eF rfl rfl (by decide) (by rw[v];decide) λE x b3=>?_;have bn:=AU w.ac k;simp+contextual only[YG,u0,u1,b3,rk,aj,ar,Dp,CW,↓uL];refine⟨λe=>?_,λe=>?_⟩;refine rF ⟨3,k,0⟩ (q.fr x (by decide)) (by decide) (by rw[x.1,v];decide) (by simp;omega) λa3 F G F4=>?_;simp only[HZ,aI,au,fE,cS,aY,↓uL];refine C0 (mk:=λa i=>[a,iv i]) (λ_ _=>rfl) (aL h) (by omega) trivial ?_ (g.trans ((x.mono (by decide)).trans (F4.mono (by decide))));rw[kh,uP,bX e,<-cC];exact G;simp only[HZ,aI,au,fE,cS,aY,↓uL];refine C0 (mk:=λa i=>[a,iv i]) (λ_ _=>rfl) (aL h) (by omega) trivial ?_ (g.trans (x.mono (by decide)));rw[kh,uP,e];simpa[kh] using q.fr x (by decide);have j:k=L w.ac:=bP o (bw h);subst j;clear h o;generalize ab:P2++kh w.ac (L w.ac)=T at q;have a9:L T<=1800:=(by have:=AU w.ac (L w.ac);rw[<-ab,P8];omega);refine iu (λa i=>[a,iv i]) 1 uF nf2 51 3 (L w.ac) (λk=>(T++ki w k).map ap.c) (λ_=>True) trivial (by simpa[ki] using q) λk a3 E o _ C B=>?_;have c4:box E (1,1)=_:=B.bt c3;have A:L E=4096:=(by rw[B.1,v]);simp only[YS,aI,di,YN,u0,u1,c4,rk,ix,aj,bh,↓uL];refine⟨λh=>⟨bA h,?_⟩,λh=>?_⟩;refine eF rfl rfl (by decide) (by rw[A];decide) λY5 n b5=>?_;have s:=aL h;have Z:box Y5 (1,1)=_:=n.bt c4;have bk:=vU w (k:Int);have br:=AW w k;have aG:=z k (1+L w.ac) (by omega) (by omega);have aK:aN (V 15) w.c=V (.a w.c):=rfl;simp+contextual only[YI,u0,u1,b5,Z,aK,rk,aj,ar,Dp,bh,↓uL];refine⟨λe=>?_,λe=>?_⟩;simp only[aUz,aI,au,fE,cS,aY,↓uL];refine C0 (mk:=λa i=>[a,iv i]) (λ_ _=>rfl) s (by omega) trivial ?_ (B.trans (n.mono (by decide)));have:dx w (k:Int)=[]:=(by have hr:fR (gd w.ac k)=I:=(by simpa using e);simp[dx,hr]);rw[ki,tq,this,mU,cL];exact C.fr n (by decide);refine⟨⟨aJ,aE,by omega,λhq=>?_⟩,λt'=>?_⟩;obtain⟨S,_⟩:=H.named (k:=k) s;simp only[fN,bN,mn] at D;obtain⟨f1,f2,f3,f4⟩:=iY D.1;exact⟨λaF=>⟨by rw[f3];exact oU S (by omega) (by omega),by rw[D.2.2.1];exact oU S (by omega) (by omega)⟩,λaF=>by rw[D.2.1];exact qP S (by omega) (by omega)⟩;refine iu (λa i=>[a,iv i]) 1 uF nf2 51 3 (L (dx w (k:Int))) (λm=>(T++ki w k++((dx w (k:Int)).take m).map λb=>(⟨4,(k:Int),b⟩:ap)).map ap.c) (λ_=>True) trivial (by simpa using C.fr n (by decide)) λm a4 F R _ u p=>?_;have y:L F=4096:=(by rw[p.1,n.1,A]);simp only[YU,aI,u0,u1,tf,rk,qM,bh,xy,↓uL];refine⟨λf=>⟨bA f,?_⟩,λf=>?_⟩;have d:=aL f;refine rF ⟨4,k,gd (dx w (k:Int)) m⟩ u (by decide) (by rw[y];decide) (by simp;omega) λa5 bg g5 av=>?_;simp only[YH,au,fE,cS,aY,↓uL];refine C0 (mk:=λa i=>[a,iv i]) (λ_ _=>rfl) d (by omega) trivial ?_ (p.trans (av.mono (by decide)));rw[EC d];exact g5;have d:m=L (dx w (k:Int)):=bP R (bw f);subst d;simp only[aUz,aI,au,fE,cS,aY,↓uL];refine C0 (mk:=λa i=>[a,iv i]) (λ_ _=>rfl) s (by omega) trivial ?_ (B.trans ((n.mono (by decide)).trans p));rw[ki,tq,<-cC];rw[gV] at u;exact u;have j:k=L w.ac:=bP o (bw h);subst j;clear h o;generalize ad:T++ki w (L w.ac)=W at C;have ba:L W<=3500:=(by have:=AW w (L w.ac);have:=z (L w.ac) (1+L w.ac) (by omega) (by omega);rw[<-ad,P8];omega);have hN:cw w=W++jp w (L w.ac):=(by rw[cw,aa,ab,ad]);refine iu (λa i=>[a,iv i]) 1 uF nf2 51 3 (L w.ac) (λk=>(W++jp w k).map ap.c) (λ_=>True) trivial (by simpa[jp] using C) λk a4 F o _ u p=>?_;have Z:box F (1,1)=_:=p.bt c4;have y:L F=4096:=(by rw[p.1,A]);simp only[YV,aI,di,YO,u0,u1,Z,rk,ix,aj,bh,↓uL];refine⟨λh=>⟨bA h,?_⟩,λh=>?_⟩;refine eF rfl rfl (by decide) (by rw[y];decide) λY5 n b5=>?_;have s:=aL h;have c6:box Y5 (1,1)=_:=n.bt Z;have bv:=Qv w k;have aG:=z k (L w.init.bm.ay+L w.ac) (by omega) (by omega);simp+contextual only[YK,u0,u1,b5,c6,rk,aj,ar,Dp,↓uL];refine⟨λe=>?_,λe=>⟨⟨by omega,by omega⟩,λt'=>?_⟩⟩;simp only[H7,aI,au,fE,cS,aY,↓uL];refine C0 (mk:=λa i=>[a,iv i]) (λ_ _=>rfl) s (by omega) trivial ?_ (p.trans (n.mono (by decide)));have:pR w k=[]:=(by simp at e;simp[pR,e]);rw[jp,tq,this,cL];exact u.fr n (by decide);have aD:pN (gd w.ac k)=U:=(by simpa using e);have bu:=Rp w (gd w.ac k).bb (gd w.ac k).aq;refine iu (λa i=>[a,iv i]) 1 uF nf2 51 3 (L (mR w (gd w.ac k).bb (gd w.ac k).aq)) (λm=>(W++jp w k++((mR w (gd w.ac k).bb (gd w.ac k).aq).take m).map λb=>(⟨5,(k:Int),b⟩:ap)).map ap.c) (λ_=>True) trivial (by simpa using u.fr n (by decide)) λm a6 Y6 R _ O M=>?_;have ao:L Y6=4096:=(by rw[M.1,n.1,y]);simp only[YW,aI,u0,u1,tf,rk,qM,bh,xy,↓uL];refine⟨λf=>⟨bA f,?_⟩,λf=>?_⟩;have d:=aL f;refine rF ⟨5,k,gd (mR w (gd w.ac k).bb (gd w.ac k).aq) m⟩ O (by decide) (by rw[ao];decide) (by simp;omega) λa7 Y7 g7 F7=>?_;simp only[YJ,au,fE,cS,aY,↓uL];refine C0 (mk:=λa i=>[a,iv i]) (λ_ _=>rfl) d (by omega) trivial ?_ (M.trans (F7.mono (by decide)));rw[EC d];exact g7;have d:m=L (mR w (gd w.ac k).bb (gd w.ac k).aq):=bP R (bw f);subst d;simp only[H7,aI,au,fE,cS,aY,↓uL];refine C0 (mk:=λa i=>[a,iv i]) (λ_ _=>rfl) s (by omega) trivial ?_ (p.trans ((n.mono (by decide)).trans M));rw[jp,tq,<-cC,pR,bX aD];rw[gV] at O;exact O;have j:k=L w.ac:=bP o (bw h);subst j;rw[hN];exact qV u λt=>⟨t,rfl⟩
def BQ:FT:=om NT
def ax6{w Lw K}:=qz BQ NT w Lw K
def apt:dO:=(16,BQ)::aps
def Ey:eJ apt:=it (rj NT) (apg)
def Lb:=ai @ax6<|@Dp
section
attribute[local irreducible] aX
abbrev aRc:List AV:=[(.l [] U U),(.l [] U U),(.l [] U U),(.l [] U U),(.l [] U U),(.l [] U U)]
abbrev bhN:List AV:=[(.l [] U U)]
abbrev aYp:List AV:=[(.l [] I I)]
abbrev aOQ:List AV:=[(.l [] U U),(.l [] U U),(.l [] U U),(.l [] U U),(.l [] U U),(.l [] U U),(iv 0),(.l [] U U),(iv 0),(.l [] U U),(.l [] U U),(.l [] U U),(.l [] U U),(.l [] U U),(.l [] U U)]
abbrev a72:List AV:=[(.l [] I I),(.l [] I I),(.l [] I I),(.l [] I I),(.l [] I I),(.l [] I I),(iv 0),(.l [] I I),(iv 0),(.l [] I I),(.l [] I I),(.l [] I I),(.l [] I I),(.l [] I I),(.l [] I I)]
abbrev aPb:List AV:=[(.l [] U U),(.l [] U U),(.l [] U U),(.l [] U U),(.l [] U U),(.l [] U U),(.l [] U U)]
abbrev aTN:List AV:=[(iv 0),(iv 0),(iv 0),(iv 0),(iv 0),(.l [] I I),(.l [] I I)]
abbrev aTP:List AV:=[(.l [] U U),(iv 0)]
abbrev NY:List AV:=[(.l [] U U),(iv 0),(.l [] U U),(.l [] U U),(.l [] U U),(.l [] U U),(.l [] U U)]
abbrev aOR:List AV:=[(.l [] U U),(.l [] U U),(.l [] U U),(.l [] U U),(.l [] U U),(.l [] U U),(.l [] U U)]
abbrev aTJ:List AV:=[(sv []),(iv 0),(iv 0),(bv I),(iv 0)]
abbrev aR7:List AV:=[(sv []),(bv I)]
abbrev aR8:List AV:=[(sv []),(iv 0)]
abbrev aTK:List AV:=[(iv 0),(iv 0),(iv 0)]
abbrev aP6:List AV:=[(.l [] U U),(.l [] U U)]
abbrev aYq:List AV:=[(iv 0),(iv 0)]
abbrev a7Y:List AV:=[(iv 0),(iv 0)]
abbrev aTO:List AV:=[(iv 0),(.l [] U U)]
abbrev a7Z:List AV:=[(iv 0),(.l [] I I)]
abbrev aoD:List AV:=[(iv 0),(.l [] U U),(.l [] U U),(iv 0)]
abbrev a70:List AV:=[(iv 0),(.l [] I I),(.l [] I I),(iv 0)]
abbrev aPM:List AV:=[(sv []),(iv 0),(.l [] U U),(.l [] U U)]
abbrev aTM:List AV:=[(sv []),(iv 0),(.l [] I I),(.l [] I I)]
abbrev a74:List AV:=[(.l [] U U),(.l [] U U),(.l [] U U),(.l [] U U),(.l [] U U),(.l [] U U),(.l [] U U),(.l [] U U),(iv 0),(iv 0)]
abbrev Py:List AV:=[(iv 0),(iv 0),(iv 0),(iv 0),(iv 0),(iv 0)]
abbrev a71:List AV:=[(iv 0),(iv 0),(iv 0),(iv 0),(iv 0),(iv 0)]
abbrev a75:List AV:=[(.s (.pointer J)),(iv 0),(iv 0),(bv I),(bv I),(bv I),(bv I),(.l [] U U)]
abbrev aOP:List AV:=[(iv 0),(iv 0),(sv []),(.l [] U U)]
abbrev aRb:List AV:=[(iv 0),(iv 0),(sv []),(.l [] I I)]
abbrev A4:List AV:=[(iv 0),(iv 0),(sv []),(sv []),(.l [] U U),(iv 0),(iv 0),(sv []),(.l [] U U),(.l [] U U),(.l [] U U)]
abbrev aNA:List AV:=[(iv 0),(iv 0),(sv []),(sv []),(.l [] I I),(iv 0),(iv 0),(sv []),(.l [] I I),(.l [] I I),(.l [] I I)]
abbrev a76:List AV:=[(.l [] U U),(.l [] U U),(iv 0),(.l [] U U),(.l [] U U),(.l [] U U)]
abbrev aPa:List AV:=[(iv 0),(iv 0),(sv []),(iv 0),(iv 0),(sv [])]
abbrev bhM:List AV:=[(iv 0),(iv 0),(sv []),(iv 0),(iv 0),(sv [])]
def a9k:=bi 5 []
def a1q a s0 R:=ah a (aE R s0 [(iv 1)]) (aE R s0 [(iv 0)])
def bgS{a:AV}{R:d7}(h:H0 λs0=>a1q a s0 R):Ct 248 [a] R:=z0 a9k Ey Tryz.func248 h
def a9i:=bi 8 [(5,([5],[]))]
def a1n R s0 a:=∀_:Rg,aE R s0 [(gt a 0)]
def a1o a c(b:cG):=aU a (iv 0) λt4=>ah t4 (aV a c λd=>b [d]) (b [a])
def a1m b a s0 R:=aU a (iv 1) λt1=>ah t1 (aE R s0 [(iv 0)]) (aO .rem b a λc=>jR 5 (a1n R s0) (a1o c a))
def bgQ{a:AV}{b:AV}{R:d7}(h:H0 λs0=>a1m a b s0 R):Ct 226 [a,b] R:=z0 a9i Ey Tryz.func226 h
def a9o:=bi 2 []
def a1M a s0 R:=aO .geq a (iv 1) λt1=>fm t1 a λt3=>az t1 (aO .leq t3 (iv 5)) λb=>aD t1 b (bv I) λc=>aE R s0 [c]
def bgW{a:AV}{R:d7}(h:H0 λs0=>a1M a s0 R):Ct 196 [a] R:=z0 a9o Ey Tryz.func196 h
def a9A:=bi 2 []
def a2y a b s0 R:=aO .geq a (iv 0) λt1=>fm t1 a λt3=>fm t1 b λc=>az t1 (aU t3 c) λd=>aD t1 d (bv I) λe=>aE R s0 [e]
def bg7{a:AV}{b:AV}{R:d7}(h:H0 λs0=>a2y a b s0 R):Ct 167 [a,b] R:=z0 a9A Ey Tryz.func167 h
def a9C:=bi 10 [(3,([5],[0,1]))]
def a2E s0 b e R(d:cG)(m1:fD) a:=∀_:Rg,aJ s0 b λf=>aU (gt a 0) f λt3=>ah t3 (ao 2 s0 b (gt a 0) λt4=>ab 0 s0 t4 λg=>bf g e λh=>ah h (aE R s0 [(gt a 0)]) (aV (gt a 0) (iv 1) λc=>d [c]/\m1 [c]<m1 a)) (aE R s0 [(iv (-1))])
def a2D a b s0 R:=lR [(iv 0)] (a2E s0 a b R)
def bg9{a:AV}{b:AV}{R:d7}(h:H0 λs0=>a2D a b s0 R):Ct 176 [a,b] R:=z0 a9C Ey Tryz.func176 h
def a9l:=bi 10 [(3,([5],[1,2]))]
def a1s b d j R(i:cG)(e:fD) a:=∀_:Rg,ab 0 b d λk=>aJ b k λl=>aU (gt a 0) l λm=>ah m (ab 0 b d λn=>ao 5 b n (gt a 0) λf=>ab 0 b f λg=>bf g j λh=>ah h (aE R b [(gt a 0)]) (aV (gt a 0) (iv 1) λc=>i [c]/\e [c]<e a)) (aE R b [(iv (-1))])
def a1r a b c R:=lR [(iv 0)] (a1s c a b R)
def bgT{b:List AV}{c:AV}{R:d7}(l0:L b=6)(h:H1 31 6 2 b λd e=>a1r d c e R):Ct 236 [.a b,c] R:=z1 a9l Ey Tryz.func236 l0 h
def a9n:=bi 21 [(3,([5],[1,4])),(8,([13],[1,4])),(15,([37],[1,4]))]
def a1G a b R t4 c:=∀_:Rg,ah (gt c 0) (ab 2 a b λf=>eV (aX bH 1 a [(0,f)]) λg d=>aE R d [g]) (bf t4 (iv 9) λh=>ah h (ab 2 a b λi=>ab 3 a b λj=>eV (aX bH 2 a [(0,i),(1,j)]) λk e=>aE R e [k]) (aE R a [(.l [] U U)]))
def a1J t4(a:cG):=bf t4 (iv 8) λb=>ah b (a [b]) (bf t4 (iv 26) λc=>a [c])
def a1I b a R t4 c:=∀_:Rg,ah (gt c 0) (ab 1 b a λg=>ab 2 b a λh=>eV (aX bH 2 b [(0,g),(1,h)]) λi d=>aE R d [i]) (bf t4 (iv 4) λj=>ah j (ab 1 b a λk=>ab 2 b a λl=>ab 3 b a λm=>eV (aX bH 3 b [(0,k),(1,l),(2,m)]) λn e=>aE R e [n]) (bf t4 (iv 7) λo=>ah o (ab 1 b a λp=>ab 3 b a λq=>eV (aX bH 2 b [(0,p),(1,q)]) λr f=>aE R f [r]) (jR 15 (a1G b a R t4) (a1J t4))))
def a1L t4(a:cG):=bf t4 (iv 2) λb=>ah b (a [b]) (bf t4 (iv 3) λc=>a [c])
def a1H b a R t4 c:=∀_:Rg,ah (gt c 0) (ab 1 b a λe=>eV (aX bH 1 b [(0,e)]) λf d=>aE R d [f]) (jR 8 (a1I b a R t4) (a1L t4))
def a1K t4(a:cG):=bf t4 (iv 1) λb=>ah b (a [b]) (bf t4 (iv 6) λc=>ah c (a [c]) (bf t4 (iv 10) λd=>ah d (a [d]) (bf t4 (iv 27) λe=>a [e])))
def a1F a b R:=ab 0 b a λt4=>jR 3 (a1H b a R t4) (a1K t4)
def bgV{b:List AV}{R:d7}(l0:L b=6)(h:H1 209 6 1 b λc d=>a1F c d R):Ct 122 [.a b] R:=z1 a9n Ey Tryz.func122 l0 h
def a9I:=bi 5 []
def a24 a s0 R:=aU a (iv 1) λt1=>ic t1 a λt3=>aC t1 (aO .gtr t3 (iv 100)) λb=>aD t1 (bv U) b λc=>ah c (aE R s0 [(iv 0)]) (aE R s0 [a])
def bhe{a:AV}{R:d7}(h:H0 λs0=>a24 a s0 R):Ct 228 [a] R:=z0 a9I Ey Tryz.func228 h
def a9O:=bi 6 []
def aVt b R t1 a:=aU b (iv 6) λt3=>ic t3 b λf=>aC t3 (aO .gtr f (iv 28)) λg=>aD t3 (bv U) g λh=>ah h (aE R a [(iv 0)]) (aO .sub b (iv 6) λc=>ao 1 a t1 c λd=>aM a d λe=>aE R a [e])
def aVs a s0 R:=eV (aX bH 23 s0 [(0,(iv 3)),(1,(iv 3)),(2,(iv 4)),(3,(iv 4)),(4,(iv 5)),(5,(iv 6)),(6,(iv 7)),(7,(iv 8)),(8,(iv 9)),(9,(iv 10)),(10,(iv 11)),(11,(iv 12)),(12,(iv 13)),(13,(iv 14)),(14,(iv 15)),(15,(iv 16)),(16,(iv 18)),(17,(iv 19)),(18,(iv 20)),(19,(iv 21)),(20,(iv 22)),(21,(iv 23)),(22,(iv 2))]) (aVt a R)
def bhn{a:AV}{R:d7}(h:H0 λs0=>aVs a s0 R):Ct 198 [a] R:=z0 a9O Ey Tryz.func198 h
def a83:=bi 10 [(3,([5],[0,1]))]
def a0q s0 b e R(d:cG)(m1:fD) a:=∀_:Rg,aJ s0 b λf=>aU (gt a 0) f λt3=>ah t3 (ao 6 s0 b (gt a 0) λt4=>ab 2 s0 t4 λg=>bf g e λh=>ah h (aE R s0 [(gt a 0)]) (aV (gt a 0) (iv 1) λc=>d [c]/\m1 [c]<m1 a)) (aE R s0 [(iv (-1))])
def a0p a b s0 R:=lR [(iv 0)] (a0q s0 a b R)
def bgB{a:AV}{b:AV}{R:d7}(h:H0 λs0=>a0p a b s0 R):Ct 204 [a,b] R:=z0 a83 Ey Tryz.func204 h
def a88:=bi 10 [(3,([5],[0,1]))]
def a0D s0 b e R(d:cG)(m1:fD) a:=∀_:Rg,aJ s0 b λf=>aU (gt a 0) f λt3=>ah t3 (ao 4 s0 b (gt a 0) λt4=>ab 0 s0 t4 λg=>bf g e λh=>ah h (aE R s0 [(gt a 0)]) (aV (gt a 0) (iv 1) λc=>d [c]/\m1 [c]<m1 a)) (aE R s0 [(iv (-1))])
def a0C a b s0 R:=lR [(iv 0)] (a0D s0 a b R)
def bgG{a:AV}{b:AV}{R:d7}(h:H0 λs0=>a0C a b s0 R):Ct 205 [a,b] R:=z0 a88 Ey Tryz.func205 h
def a8V:=bi 9 []
def a0e a s0 R:=bf a (iv 1) λt1=>ic t1 a λt3=>aC t1 (bf t3 (iv 2)) λj=>aD t1 (bv U) j λk=>ah k (aE R s0 [(iv 0)]) (aO .geq a (iv 3) λc=>fm c a λd=>az c (aO .leq d (iv 5)) λe=>aD c e (bv I) λf=>ah f (aE R s0 [(iv 1)]) (aO .geq a (iv 6) λb=>fm b a λg=>az b (aO .leq g (iv 18)) λh=>aD b h (bv I) λi=>ah i (aE R s0 [(iv 2)]) (aE R s0 [(iv (-1))])))
def bgt{a:AV}{R:d7}(h:H0 λs0=>a0e a s0 R):Ct 260 [a] R:=z0 a8V Ey Tryz.func260 h
def a80:=bi 2 []
def a0l a c R:=ab 0 c a λt4=>bf t4 (iv 0) λe=>aT e 1 c a λf=>az e (bf f (iv 0)) λg=>aD e g (bv I) λd=>aT d 2 c a λh=>az d (bf h (sv [])) λi=>aD d i (bv I) λb=>aT b 3 c a λj=>az b (aJ c j) λk=>az b (bf k (iv 0)) λl=>aD b l (bv I) λm=>aE R c [m]
def bgy{b:List AV}{R:d7}(l0:L b=4)(h:H1 217 4 1 b λc d=>a0l c d R):Ct 250 [.a b] R:=z1 a80 Ey Tryz.func250 l0 h
def a9c:=bi 5 []
def a0S a b s0 R:=aO .neq a (iv 0) λt1=>ah t1 (aE R s0 [a]) (aE R s0 [b])
def bgK{a:AV}{b:AV}{R:d7}(h:H0 λs0=>a0S a b s0 R):Ct 232 [a,b] R:=z0 a9c Ey Tryz.func232 h
def a9b:=bi 5 []
def a0R a s0 R:=ah a (aE R s0 [(iv 7)]) (aE R s0 [(iv 0)])
def bgJ{a:AV}{R:d7}(h:H0 λs0=>a0R a s0 R):Ct 235 [a] R:=z0 a9b Ey Tryz.func235 h
def a8U:=bi 2 []
def a0d b R t1 c:=rV (bM aOP alz [(0,(iv 1)),(1,b)]) λt3=>sV (aK 4 c t1 t3) λa=>aw 4 a t1 λd=>aE R a [d]
def a0c a s0 R:=eV (bs 217 aOP s0 2) (a0d a R)
def bgs{a:AV}{R:d7}(h:H0 λs0=>a0c a s0 R):Ct 126 [a] R:=z0 a8U Ey Tryz.func126 h
def a8T:=bi 2 []
def a0b b R t1 c:=rV (bM aOP alz [(0,(iv 2)),(2,b)]) λt3=>sV (aK 4 c t1 t3) λa=>aw 4 a t1 λd=>aE R a [d]
def a0a a s0 R:=eV (bs 217 aOP s0 2) (a0b a R)
def bgr{a:AV}{R:d7}(h:H0 λs0=>a0a a s0 R):Ct 214 [a] R:=z0 a8T Ey Tryz.func214 h
def a8N:=bi 2 []
def aUG s0 R:=rV (bM aPa C2 [(0,(iv 1)),(2,(sv [120]))]) λt1=>rV (bM aPa C2 [(0,(iv 1)),(2,(sv [121])),(4,(iv 1))]) λc=>rV (bM aPa C2 [(0,(iv 2)),(2,(sv [118]))]) λt3=>rV (bM aPa C2 [(0,(iv 1)),(2,(sv [113])),(3,(iv 2))]) λt4=>rV (bM aPa C2 [(0,(iv 3)),(2,(sv [109]))]) λd=>rV (bM aPa C2 [(0,(iv 3)),(2,(sv [110]))]) λe=>rV (bM aPa C2 [(0,(iv 4)),(2,(sv [114]))]) λf=>rV (bM aPa C2 [(0,(iv 5)),(2,(sv [99])),(5,(sv [109]))]) λg=>rV (bM aPa C2 [(0,(iv 6)),(2,(sv [102]))]) λh=>eV (aX bhM 9 s0 [(0,t1),(1,c),(2,t3),(3,t4),(4,d),(5,e),(6,f),(7,g),(8,h)]) λb a=>aE R a [b]
def bgk{R:d7}(h:H0 λs0=>aUG s0 R):Ct 123 [] R:=z0 a8N Ey Tryz.func123 h
def a9Z:=bi 2 []
def aVS s0 R:=eV (aX bH 43 s0 [(0,(iv 3)),(1,(iv 3)),(2,(iv 3)),(3,(iv 3)),(4,(iv 3)),(5,(iv 4)),(6,(iv 4)),(7,(iv 4)),(8,(iv 4)),(9,(iv 4)),(10,(iv 5)),(11,(iv 5)),(12,(iv 5)),(13,(iv 6)),(14,(iv 6)),(15,(iv 6)),(16,(iv 7)),(17,(iv 7)),(18,(iv 7)),(19,(iv 8)),(20,(iv 9)),(21,(iv 10)),(22,(iv 11)),(23,(iv 12)),(24,(iv 13)),(25,(iv 14)),(26,(iv 14)),(27,(iv 15)),(28,(iv 16)),(29,(iv 16)),(30,(iv 17)),(31,(iv 17)),(32,(iv 18)),(33,(iv 18)),(34,(iv 19)),(35,(iv 20)),(36,(iv 1)),(37,(iv 1)),(38,(iv 2)),(39,(iv 21)),(40,(iv 22)),(41,(iv 23)),(42,(iv 23))]) λt1 a=>aE R a [t1]
def bhz{R:d7}(h:H0 λs0=>aVS s0 R):Ct 112 [] R:=z0 a9Z Ey Tryz.func112 h
def a9S:=bi 21 [(3,([9],[0,1,2,3])),(11,([10,11,12],[0,1,2,3,9])),(14,([10,11],[0,1,2,3,9,12]))]
def a4q b(e:cG)(c:fD) a:=∀_:Rg,aV (gt b 2) (iv 1) λd=>e [(gt a 0),(gt a 1),d]/\c [(gt a 0),(gt a 1),d]<c b
def a4r s0 d a C D B(e:cG):=ao 7 s0 d (gt a 2) λE=>ab 0 s0 E λf=>aO .neq f C λg=>ah g (e [(gt a 0),(gt a 1)]) (ic (gt a 1) (gt a 0) λh=>ic (gt a 1) D λi=>ic (gt a 1) (gt B 0) λj=>aC (gt a 1) (ao 1 s0 i j) λk=>aC (gt a 1) (aM s0 k) λl=>aC (gt a 1) (bf h l) λm=>ic (gt a 1) m λb=>fm b d λn=>fm b (gt a 2) λo=>az b (ao 7 s0 n o) λp=>aT b 1 s0 p λq=>az b (bf q (iv 3)) λr=>fm b r λc=>ic c d λs=>ic c (gt a 2) λt=>aC c (ao 7 s0 s t) λu=>bn c 1 s0 u λv=>aC c (bf v (iv 23)) λw=>az b (aD c (bv U) w) λx=>aC (gt a 1) (aD b x (bv I)) λy=>aD (gt a 1) (bv U) y λz=>aV (gt a 0) (iv 1) λA=>e [A,z])
def a4s h s0 g i j b R(e:cG)(m1:fD) f k a:=∀_:Rg,aU (gt a 2) h λl=>ah l (jR 14 (a4q a f k) (a4r s0 g a i j b)) (cf (gt a 1) λd=>ah d (aE R s0 [(bv I)]) (aV (gt b 0) (iv 1) λc=>e [c]/\m1 [c]<m1 b))
def a4t s0 b e d f R c m1 a:=∀_:Rg,aJ s0 b λg=>aU (gt a 0) g λt3=>ah t3 (lR [(iv 0),(bv I),(iv 0)] (a4s e s0 d f b a R c m1)) (aE R s0 [(bv U)])
def a4p a b c d s0 R:=lR [(iv 0)] (a4t s0 d b a c R)
def bhq{a:AV}{b:AV}{c:AV}{d:AV}{R:d7}(h:H0 λs0=>a4p a b c d s0 R):Ct 75 [a,b,c,d] R:=z0 a9S Ey Tryz.func75 h
def a9v:=bi 10 [(3,([5],[0,1]))]
def a2j s0 c i R(h:cG)(m1:fD) a:=∀_:Rg,rV (cO s0 c) λj=>aB 0 s0 j λt3=>ab 2 s0 t3 λk=>aJ s0 k λl=>aU (gt a 0) l λm=>ah m (rV (cO s0 c) λn=>aB 0 s0 n λo=>ab 2 s0 o λd=>ao 2 s0 d (gt a 0) λe=>ab 0 s0 e λf=>bf f i λg=>ah g (fe R s0 [(gt a 0)]) (aV (gt a 0) (iv 1) λb=>h [b]/\m1 [b]<m1 a)) (fe R s0 [(iv (-1))])
def aU6 a b s0 R:=lR [(iv 0)] (a2j s0 a b R)
def bfT{a b:AV}{s0:ae}{R:be}(h:aU6 a b s0 R):EB 210 [a,b] s0 R:=zB a9v Ey Tryz.func210 h
def bg3{a:AV}{b:AV}{s0:ae}{R:be}(c:L s0=4096)(h:aU6 a b s0 R):EB 210 [a,b] s0 R:=by refine bfT ?_;exact h
end
inductive fc where
 |mk(op n:Int)(name:ByteArray)(l:List fc)
def fc.op:fc->Int| .mk a _ _ _=>a
def fc.n:fc->Int| .mk _ a _ _=>a
def fc.name:fc->ByteArray| .mk _ _ a _=>a
def fc.l:fc->List fc| .mk _ _ _ a=>a
instance:Inhabited fc:=⟨.mk 0 0 ⟨#[]⟩ []⟩
mutual
def fc.c:fc->List AV| .mk op n a l=>[iv op,iv n,st a, .l (fc.cr l) I I]
def fc.cr:List fc->List (List AV)|[]=>[]|e::l=>fc.c e::fc.cr l
end
def fc.cr_eq:∀{l:List fc},fc.cr l=l.map fc.c
 |[]=>by simp only[fc.cr,mU]
 |e::l=>by simp only[fc.cr,ji,fc.cr_eq]
def aoH{x:fc}:fc.c x=[iv x.op,iv x.n,st x.name,sl fc.c x.l]:=by cases x;simp only[fc.c,fc.cr_eq,fc.op,fc.n,fc.name,fc.l,sl]
inductive eo where
 |mk(op line:Int)(name arg:ByteArray)(index:List fc)(expr:fc)(body els:List eo)
def eo.op:eo->Int| .mk a _ _ _ _ _ _ _=>a
def eo.line:eo->Int| .mk _ a _ _ _ _ _ _=>a
def eo.name:eo->ByteArray| .mk _ _ a _ _ _ _ _=>a
def eo.arg:eo->ByteArray| .mk _ _ _ a _ _ _ _=>a
def eo.index:eo->List fc| .mk _ _ _ _ a _ _ _=>a
def eo.expr:eo->fc| .mk _ _ _ _ _ a _ _=>a
def eo.body:eo->List eo| .mk _ _ _ _ _ _ a _=>a
def eo.els:eo->List eo| .mk _ _ _ _ _ _ _ a=>a
instance:Inhabited eo:=⟨.mk 0 0 ⟨#[]⟩ ⟨#[]⟩ [] default [] []⟩
mutual
def eo.c:eo->List AV| .mk op e b arg index a d els=>[iv op,iv e,st b,st arg,sl fc.c index,iv a.op,iv a.n,st a.name,sl fc.c a.l, .l (eo.cr d) I I, .l (eo.cr els) I I]
def eo.cr:List eo->List (List AV)|[]=>[]|e::l=>eo.c e::eo.cr l
end
def eo.cr_eq:∀{l:List eo},eo.cr l=l.map eo.c
 |[]=>by simp only[eo.cr,mU]
 |e::l=>by simp only[eo.cr,ji,eo.cr_eq]
def apT{x:eo}:eo.c x=[iv x.op,iv x.line,st x.name,st x.arg,sl fc.c x.index,iv x.expr.op,iv x.expr.n,st x.expr.name,sl fc.c x.expr.l,sl eo.c x.body,sl eo.c x.els]:=by cases x;simp only[eo.c,eo.cr_eq,eo.op,eo.line,eo.name,eo.arg,eo.index,eo.expr,eo.body,eo.els,sl]
structure w6 where
 kind:Int
 line:Int
 name:ByteArray
 size:Int
 init:Int
 on:ByteArray
 deriving Inhabited
def w6.c(x:w6):List AV:=[iv x.kind,iv x.line,st x.name,iv x.size,iv x.init,st x.on]
structure xt where
 name:ByteArray
 line:Int
 locs:List ByteArray
 body:List eo
 deriving Inhabited
def xt.c(x:xt):List AV:=[st x.name,iv x.line,sl cs x.locs,sl eo.c x.body]
structure xr where
 A7:List w6
 ay:List xt
 deriving Inhabited
def xr.c(x:xr):List AV:=[sl w6.c x.A7,sl xt.c x.ay]
structure lF where
 op:Int
 a:Int
 b:Int
 k:Int
 n:Int
 site:Int
 deriving Inhabited
def lF.c(x:lF):List AV:=[iv x.op,iv x.a,iv x.b,iv x.k,iv x.n,iv x.site]
structure A2 where
 li:Int
 No:List lF
 deriving Inhabited
def A2.c(x:A2):List AV:=[iv x.li,sl lF.c x.No]
structure qt where
 aQ:br
 ay:List A2
 deriving Inhabited
def qt.c(x:qt):List AV:=x.aQ.c++[sl A2.c x.ay]
structure pt where
 pc:Int
 li:List Int
 lj:List (List Int)
 ac:Int
 deriving Inhabited
def pt.c(x:pt):List AV:=[iv x.pc,sl ci x.li,sl cl x.lj,iv x.ac]
structure pm where
 bm:aW
 cells:List Int
 bU:List Int
 ay:List pt
 deriving Inhabited
def pm.c(x:pm):List AV:=x.bm.c++[sl ci x.cells,sl ci x.bU,sl pt.c x.ay]
structure O3 where
 aQ:br
 ac:List aP
 deriving Inhabited
def O3.c(x:O3):List AV:=x.aQ.c++[sl aP.c x.ac]
def aN9{x:fc}:L (fc.c x)=4:=by rw[aoH];rfl
def WV{x:eo}:L (eo.c x)=11:=by rw[apT];rfl
section
variable{K:d7}{Y:ae}{i:Int}
def bcY{l:List fc}:rV (cz 4 Y (sl fc.c l) (iv i)) K=(aF (L l) i/\K (.q (fc.c (gd l i.toNat)))):=aBz λ_=>aN9
def bc0{l:List eo}:rV (cz 11 Y (sl eo.c l) (iv i)) K=(aF (L l) i/\K (.q (eo.c (gd l i.toNat)))):=aBz λ_=>WV
def bcX{l:List w6}:rV (cz 6 Y (sl w6.c l) (iv i)) K=(aF (L l) i/\K (.q (w6.c (gd l i.toNat)))):=aBz λ_=>rfl
def bc2{l:List xt}:rV (cz 4 Y (sl xt.c l) (iv i)) K=(aF (L l) i/\K (.q (xt.c (gd l i.toNat)))):=aBz λ_=>rfl
def bcZ{l:List lF}:rV (cz 6 Y (sl lF.c l) (iv i)) K=(aF (L l) i/\K (.q (lF.c (gd l i.toNat)))):=aBz λ_=>rfl
def bc1{l:List A2}:rV (cz 2 Y (sl A2.c l) (iv i)) K=(aF (L l) i/\K (.q (A2.c (gd l i.toNat)))):=aBz λ_=>rfl
def bc3{l:List pt}:rV (cz 4 Y (sl pt.c l) (iv i)) K=(aF (L l) i/\K (.q (pt.c (gd l i.toNat)))):=aBz λ_=>rfl
def aPR{a b:Int}:wl .rem 0 [] (iv a) (iv b)=if b≠0 then V (iv (a.tmod b)) else J:=by by_cases h:b=0<;>simp[wl,zP,h]
def a5N{a b:Int}:wl .quo 0 [] (iv a) (iv b)=if b≠0 then V (iv (dq.wrap (a.tdiv b))) else J:=by by_cases h:b=0<;>simp[wl,zP,h]
end
def y9:=ai @bcY<|ai @bc0<|ai @bcX<|ai @bc2<|ai @bcZ<|ai @bc1<|@bc3
mutual
def a53:∀{x y:fc},fc.c x=fc.c y->x=y
 | .mk a b c d, .mk e f g j,h=>by
  simp only[fc.c,kO,AV.s.injEq,mW,mX,AV.l.injEq,lS,o8] at h
  obtain⟨rfl,rfl,rfl,h⟩:=h
  rw[a6d h]
def a6d:∀{x y:List fc},fc.cr x=fc.cr y->x=y
 |[],[],_=>rfl
 |[],_::_,h=>by grind [fc.cr]
 |_::_,[],h=>by grind [fc.cr]
 |a::l,b::m,h=>by
  simp only[fc.cr,kO] at h
  rw[a53 h.1,a6d h.2]
end
theorem aOD{x y:fc}:(fc.c x=fc.c y)=(x=y):=vb ⟨a53,λh=>by rw[h]⟩
def aOZ{l l':List fc}:(sl fc.c l=sl fc.c l')=(l=l'):=(by grind [kL,aOD])
mutual
def a54:∀{x y:eo},eo.c x=eo.c y->x=y
 | .mk a b c d e f g i, .mk k m o p t j u B,h=>by
  simp only[eo.c,kO,AV.s.injEq,mW,mX,AV.l.injEq,lS,o8,aOZ] at h
  obtain⟨rfl,rfl,rfl,rfl,rfl,v,w,z,A,q,r⟩:=h
  have:f=j:=by
   obtain⟨a,b,c,d⟩:=f;obtain⟨k,m,o,p⟩:=j
   grind [fc.op,fc.n,fc.name,fc.l]
  rw[this,aV9 q,aV9 r]
def aV9:∀{x y:List eo},eo.cr x=eo.cr y->x=y
 |[],[],_=>rfl
 |[],_::_,h=>by grind [eo.cr]
 |_::_,[],h=>by grind [eo.cr]
 |a::l,b::m,h=>by
  simp only[eo.cr,kO] at h
  rw[a54 h.1,aV9 h.2]
end
theorem a6B{x y:eo}:(eo.c x=eo.c y)=(x=y):=vb ⟨a54,λh=>by rw[h]⟩
def aO0{l l':List eo}:(sl eo.c l=sl eo.c l')=(l=l'):=(by grind [kL,a6B])
structure xd where
 aq:Int
 lD:Int
 deriving Inhabited,DecidableEq
def xd.c(x:xd):List AV:=[iv x.aq,iv x.lD]
theorem aOY{x y:w6}:(w6.c x=w6.c y)=(x=y):=by apply vb;constructor;intro h;(cases x;cases y);simp only[w6.c,br.c,aW.c,zn,dW,kO,AV.s.injEq,mW,mV,mX,lS,o8,amV,aOD,aOZ,aO0] at h;simp only[w6.mk.injEq,br.ext_iff',aW.ext_iff',bW.ext_iff',aoC];exact h;intro h;rw[h]
def aPj{l l':List w6}:(sl w6.c l=sl w6.c l')=(l=l'):=(by grind [kL,aOY])
theorem aPD{x y:xt}:(xt.c x=xt.c y)=(x=y):=by apply vb;constructor;intro h;(cases x;cases y);simp only[xt.c,br.c,aW.c,zn,dW,kO,AV.s.injEq,mW,mV,mX,lS,o8,amV,aOD,aOZ,aO0,aOY,aPj] at h;simp only[xt.mk.injEq,br.ext_iff',aW.ext_iff',bW.ext_iff',aoC];exact h;intro h;rw[h]
def aPE{l l':List xt}:(sl xt.c l=sl xt.c l')=(l=l'):=(by grind [kL,aPD])
theorem aPC{x y:xr}:(xr.c x=xr.c y)=(x=y):=by apply vb;constructor;intro h;(cases x;cases y);simp only[xr.c,br.c,aW.c,zn,dW,kO,AV.s.injEq,mW,mV,mX,lS,o8,amV,aOD,aOZ,aO0,aOY,aPj,aPD,aPE] at h;simp only[xr.mk.injEq,br.ext_iff',aW.ext_iff',bW.ext_iff',aoC];exact h;intro h;rw[h]
def aQr{l l':List xr}:(sl xr.c l=sl xr.c l')=(l=l'):=(by grind [kL,aPC])
theorem aPX{x y:lF}:(lF.c x=lF.c y)=(x=y):=by apply vb;constructor;intro h;(cases x;cases y);simp only[lF.c,br.c,aW.c,zn,dW,kO,AV.s.injEq,mW,mV,mX,lS,o8,amV,aOD,aOZ,aO0,aOY,aPj,aPD,aPE,aPC,aQr] at h;simp only[lF.mk.injEq,br.ext_iff',aW.ext_iff',bW.ext_iff',aoC];exact h;intro h;rw[h]
def aQq{l l':List lF}:(sl lF.c l=sl lF.c l')=(l=l'):=(by grind [kL,aPX])
theorem aQp{x y:A2}:(A2.c x=A2.c y)=(x=y):=by apply vb;constructor;intro h;(cases x;cases y);simp only[A2.c,br.c,aW.c,zn,dW,kO,AV.s.injEq,mW,mV,mX,lS,o8,amV,aOD,aOZ,aO0,aOY,aPj,aPD,aPE,aPC,aQr,aPX,aQq] at h;simp only[A2.mk.injEq,br.ext_iff',aW.ext_iff',bW.ext_iff',aoC];exact h;intro h;rw[h]
def aRT{l l':List A2}:(sl A2.c l=sl A2.c l')=(l=l'):=(by grind [kL,aQp])
theorem aQY{x y:qt}:(qt.c x=qt.c y)=(x=y):=by apply vb;constructor;intro h;(cases x;cases y);simp only[qt.c,br.c,aW.c,zn,dW,kO,AV.s.injEq,mW,mV,mX,lS,o8,amV,aOD,aOZ,aO0,aOY,aPj,aPD,aPE,aPC,aQr,aPX,aQq,aQp,aRT] at h;simp only[qt.mk.injEq,br.ext_iff',aW.ext_iff',bW.ext_iff',aoC];exact h;intro h;rw[h]
def aTm{l l':List qt}:(sl qt.c l=sl qt.c l')=(l=l'):=(by grind [kL,aQY])
theorem aRS{x y:pt}:(pt.c x=pt.c y)=(x=y):=by apply vb;constructor;intro h;(cases x;cases y);simp only[pt.c,br.c,aW.c,zn,dW,kO,AV.s.injEq,mW,mV,mX,lS,o8,amV,aOD,aOZ,aO0,aOY,aPj,aPD,aPE,aPC,aQr,aPX,aQq,aQp,aRT,aQY,aTm] at h;simp only[pt.mk.injEq,br.ext_iff',aW.ext_iff',bW.ext_iff',aoC];exact h;intro h;rw[h]
def aWB{l l':List pt}:(sl pt.c l=sl pt.c l')=(l=l'):=(by grind [kL,aRS])
theorem aTl{x y:pm}:(pm.c x=pm.c y)=(x=y):=by apply vb;constructor;intro h;(cases x;cases y);simp only[pm.c,br.c,aW.c,zn,dW,kO,AV.s.injEq,mW,mV,mX,lS,o8,amV,aOD,aOZ,aO0,aOY,aPj,aPD,aPE,aPC,aQr,aPX,aQq,aQp,aRT,aQY,aTm,aRS,aWB] at h;simp only[pm.mk.injEq,br.ext_iff',aW.ext_iff',bW.ext_iff',aoC];exact h;intro h;rw[h]
def a6C{l l':List pm}:(sl pm.c l=sl pm.c l')=(l=l'):=(by grind [kL,aTl])
theorem aWA{x y:O3}:(O3.c x=O3.c y)=(x=y):=by apply vb;constructor;intro h;(cases x;cases y);simp only[O3.c,br.c,aW.c,zn,dW,kO,AV.s.injEq,mW,mV,mX,lS,o8,amV,aOD,aOZ,aO0,aOY,aPj,aPD,aPE,aPC,aQr,aPX,aQq,aQp,aRT,aQY,aTm,aRS,aWB,aTl,a6C] at h;simp only[O3.mk.injEq,br.ext_iff',aW.ext_iff',bW.ext_iff',aoC];exact h;intro h;rw[h]
def bcS{l l':List O3}:(sl O3.c l=sl O3.c l')=(l=l'):=(by grind [kL,aWA])
theorem a6A{x y:xd}:(xd.c x=xd.c y)=(x=y):=by apply vb;constructor;intro h;(cases x;cases y);simp only[xd.c,br.c,aW.c,zn,dW,kO,AV.s.injEq,mW,mV,mX,lS,o8,amV,aOD,aOZ,aO0,aOY,aPj,aPD,aPE,aPC,aQr,aPX,aQq,aQp,aRT,aQY,aTm,aRS,aWB,aTl,a6C,aWA,bcS] at h;simp only[xd.mk.injEq,br.ext_iff',aW.ext_iff',bW.ext_iff',aoC];exact h;intro h;rw[h]
def bcR{l l':List xd}:(sl xd.c l=sl xd.c l')=(l=l'):=(by grind [kL,a6A])
def Nb:=ai @aOD<|ai @a6B<|ai @aO0<|ai @aOY<|ai @aPj<|ai @aPE<|ai @aPC<|ai @aPX<|ai @aQq<|ai @aQp<|ai @aQY<|ai @aRS<|ai @aTl<|ai @aWA<|ai @a6A<|@bcR
def ben{x:fc}:aN J (fc.c x)=V (iv x.op):=by rw[aoH];rfl
def beo{x:fc}:aN J ((fc.c x).drop 1)=V (iv x.n):=by rw[aoH];rfl
def bep{x:fc}:aN J ((fc.c x).drop 2)=V (st x.name):=by rw[aoH];rfl
def ber{x:fc}:aN J ((fc.c x).drop 3)=V (sl fc.c x.l):=by rw[aoH];rfl
def a69{x:fc}:aN (V 4) (fc.c x)=V (.a (fc.c x)):=by rw[aoH];rfl
def beI{x:eo}:aN J (eo.c x)=V (iv x.op):=by rw[apT];rfl
def beJ{x:eo}:aN J ((eo.c x).drop 1)=V (iv x.line):=by rw[apT];rfl
def beL{x:eo}:aN J ((eo.c x).drop 2)=V (st x.name):=by rw[apT];rfl
def beM{x:eo}:aN J ((eo.c x).drop 3)=V (st x.arg):=by rw[apT];rfl
def beN{x:eo}:aN J ((eo.c x).drop 4)=V (sl fc.c x.index):=by rw[apT];rfl
def beO{x:eo}:aN J ((eo.c x).drop 9)=V (sl eo.c x.body):=by rw[apT];rfl
def beK{x:eo}:aN J ((eo.c x).drop 10)=V (sl eo.c x.els):=by rw[apT];rfl
def beP{x:eo}:aN (V 4) ((eo.c x).drop 5)=V (.a (fc.c x.expr)):=by rw[apT,aoH];rfl
def beQ{x:eo}:aN (V 11) (eo.c x)=V (.a (eo.c x)):=by rw[apT];rfl
def bef{x:w6}:aN J (w6.c x)=V (iv x.kind):=rfl
def beg{x:w6}:aN J ((w6.c x).drop 1)=V (iv x.line):=rfl
def beh{x:w6}:aN J ((w6.c x).drop 2)=V (st x.name):=rfl
def bei{x:w6}:aN J ((w6.c x).drop 3)=V (iv x.size):=rfl
def bej{x:w6}:aN J ((w6.c x).drop 4)=V (iv x.init):=rfl
def bek{x:w6}:aN J ((w6.c x).drop 5)=V (st x.on):=rfl
def bem{x:w6}:aN (V 6) (w6.c x)=V (.a (w6.c x)):=rfl
def beU{x:xt}:aN J (xt.c x)=V (st x.name):=rfl
def beV{x:xt}:aN J ((xt.c x).drop 1)=V (iv x.line):=rfl
def beW{x:xt}:aN J ((xt.c x).drop 2)=V (sl cs x.locs):=rfl
def beX{x:xt}:aN J ((xt.c x).drop 3)=V (sl eo.c x.body):=rfl
def beY{x:xt}:aN (V 4) (xt.c x)=V (.a (xt.c x)):=rfl
def bez{x:xr}:aN J (xr.c x)=V (sl w6.c x.A7):=rfl
def beA{x:xr}:aN J ((xr.c x).drop 1)=V (sl xt.c x.ay):=rfl
def beB{x:xr}:aN (V 2) (xr.c x)=V (.a (xr.c x)):=rfl
def bes{x:lF}:aN J (lF.c x)=V (iv x.op):=rfl
def bet{x:lF}:aN J ((lF.c x).drop 1)=V (iv x.a):=rfl
def beu{x:lF}:aN J ((lF.c x).drop 2)=V (iv x.b):=rfl
def bev{x:lF}:aN J ((lF.c x).drop 3)=V (iv x.k):=rfl
def bew{x:lF}:aN J ((lF.c x).drop 4)=V (iv x.n):=rfl
def bex{x:lF}:aN J ((lF.c x).drop 5)=V (iv x.site):=rfl
def bey{x:lF}:aN (V 6) (lF.c x)=V (.a (lF.c x)):=rfl
def beR{x:A2}:aN J (A2.c x)=V (iv x.li):=rfl
def beS{x:A2}:aN J ((A2.c x).drop 1)=V (sl lF.c x.No):=rfl
def beT{x:A2}:aN (V 2) (A2.c x)=V (.a (A2.c x)):=rfl
def bd9{x:qt}:aN J (qt.c x)=V (sl cA.c x.aQ.cells):=rfl
def bea{x:qt}:aN J ((qt.c x).drop 3)=V (sl cs x.aQ.bU):=rfl
def beb{x:qt}:aN J ((qt.c x).drop 4)=V (sl cs x.aQ.ay):=rfl
def bec{x:qt}:aN J ((qt.c x).drop 6)=V (sl A2.c x.ay):=rfl
def bed{x:qt}:aN (V 6) (qt.c x)=V (.a (x.aQ.c)):=rfl
def bee{x:qt}:aN (V 7) (qt.c x)=V (.a (qt.c x)):=rfl
def beZ{x:pt}:aN J (pt.c x)=V (iv x.pc):=rfl
def be0{x:pt}:aN J ((pt.c x).drop 1)=V (sl ci x.li):=rfl
def be1{x:pt}:aN J ((pt.c x).drop 2)=V (sl cl x.lj):=rfl
def be2{x:pt}:aN (V 4) (pt.c x)=V (.a (pt.c x)):=rfl
def beC{x:pm}:aN J ((pm.c x).drop 3)=V (sl bF.c x.bm.ay):=rfl
def beD{x:pm}:aN J ((pm.c x).drop 4)=V (sl ci x.cells):=rfl
def beE{x:pm}:aN J ((pm.c x).drop 5)=V (sl ci x.bU):=rfl
def beF{x:pm}:aN J ((pm.c x).drop 6)=V (sl pt.c x.ay):=rfl
def beG{x:pm}:aN (V 4) (pm.c x)=V (.a (x.bm.c)):=rfl
def beH{x:pm}:aN (V 7) (pm.c x)=V (.a (pm.c x)):=rfl
def yr{a:AV}{l:List AV}:aN J (a::l)=V a:=rfl
def C5{α:Type}{a:α}{n:Nat}{l:List α}:aOz (n+1) (a::l)=aOz n l:=rfl
def yd{α:Type}{l:List α}:aOz 0 l=l:=rfl
def gw:=ai @ben<|ai @beo<|ai @bep<|ai @ber<|ai @a69<|ai @beI<|ai @beJ<|ai @beL<|ai @beM<|ai @beN<|ai @beO<|ai @beK<|ai @beP<|ai @beQ<|ai @bef<|ai @beg<|ai @beh<|ai @bei<|ai @bej<|ai @bek<|ai @bem<|ai @beU<|ai @beV<|ai @beW<|ai @beX<|ai @beY<|ai @bez<|ai @beA<|ai @beB<|ai @bes<|ai @bet<|ai @beu<|ai @bev<|ai @bew<|ai @bex<|ai @bey<|ai @beR<|ai @beS<|ai @beT<|ai @bd9<|ai @bea<|ai @beb<|ai @bec<|ai @bed<|ai @bee<|ai @beZ<|ai @be0<|ai @be1<|ai @be2<|ai @beC<|ai @beD<|ai @beE<|ai @beF<|ai @beG<|ai @beH<|ai @yr<|ai @C5<|@yd
def bab{Y:ae}{x:fc}:dG Y (.a (fc.c x))= .a (fc.c x):=by rw[aoH];rfl
def baf{Y:ae}{x:eo}:dG Y (.a (eo.c x))= .a (eo.c x):=by rw[apT];rfl
def baa{Y:ae}{x:w6}:dG Y (.a (w6.c x))= .a (w6.c x):=rfl
def bad{Y:ae}{x:xr}:dG Y (.a (xr.c x))= .a (xr.c x):=rfl
def bac{Y:ae}{x:lF}:dG Y (.a (lF.c x))= .a (lF.c x):=rfl
def bag{Y:ae}{x:A2}:dG Y (.a (A2.c x))= .a (A2.c x):=rfl
def a99{Y:ae}{x:qt}:dG Y (.a (qt.c x))= .a (qt.c x):=rfl
def bai{Y:ae}{x:pt}:dG Y (.a (pt.c x))= .a (pt.c x):=rfl
def bae{Y:ae}{x:pm}:dG Y (.a (pm.c x))= .a (pm.c x):=rfl
def bah{Y:ae}{x:O3}:dG Y (.a (O3.c x))= .a (O3.c x):=rfl
def a98{Y:ae}{x:xd}:dG Y (.a (xd.c x))= .a (xd.c x):=rfl
def bba{v:Value}:iX (.s v)=U:=rfl
def ba8{α:Type}{f:α->List AV}{l:List α}:iX (sl f l)=U:=rfl
def bbb{x:fc}:iX (.a (fc.c x))=U:=by simp[iX,eN,aoH,sl]
def bbd{x:eo}:iX (.a (eo.c x))=U:=by simp[iX,eN,apT,sl]
def bbc{x:xr}:iX (.a (xr.c x))=U:=rfl
def aOW:=ai @bba<|ai @ba8<|ai @bbb<|ai @bbd<|@bbc
def Fa:=ai @bab<|ai @baf<|ai @baa<|ai @bad<|ai @bac<|ai @bag<|ai @a99<|ai @bai<|ai @bae<|ai @bah<|@a98
section
variable{K:d7}{Y:ae}{i:Int}
end
abbrev qN:ByteArray:=⟨#[113]⟩
def C6:Nat->fc->Prop|0,_=>False|n+1,e=>(((e.op=1\/e.op=2)/\e.l=[])\/(e.op=3/\e.name=qN/\L e.l=1)\/(6<=e.op/\L e.l=2))/\∀x∈e.l,C6 n x
def C6.len{n:Nat}{e:fc}(h:C6 n e):L e.l<=2:=by cases n with|zero=>exact h.elim|succ n=>rcases h.1 with⟨_,h⟩|⟨_,_,h⟩|⟨_,h⟩<;>simp[h]
theorem C6.sub{n:Nat}{e:fc}(h:C6 n e){k:Nat}(a:k<L e.l):∃m,n=m+1/\C6 m (gd e.l k):=by cases n with|zero=>exact h.elim|succ n=>exact⟨n,rfl,h.2 _ (dB a)⟩
theorem C6.mono:∀{n m:Nat} {e:fc},C6 n e->n<=m->C6 m e
 |0,_,_,h,_=>h.elim
 |n+1,0,_,_,h=>by omega
 |n+1,m+1,e,h,b=>⟨h.1,λx a=>(h.2 x a).mono (by omega)⟩
def A5:Nat->eo->Prop|0,_=>False|n+1,s=>((s.op=1\/s.op=2\/s.op=3\/s.op=14)->C6 2 s.expr)/\L s.index<=1/\(∀x∈s.index,C6 2 x)/\(s.index≠[]->s.name=qN)/\L s.expr.l<=2/\L s.body<=4/\(∀x∈s.body,A5 n x)/\L s.els<=4/\(∀x∈s.els,A5 n x)/\1<=s.op/\s.op<=15
def A5.up{n:Nat}{s:eo}(h:A5 n s):∃m,n=m+1/\(∀x∈s.body,A5 m x)/\∀x∈s.els,A5 m x:=by cases n with|zero=>exact h.elim|succ n=>exact⟨n,rfl,h.2.2.2.2.2.2.1,h.2.2.2.2.2.2.2.2.1⟩
def A5.at{n:Nat}{s:eo}(h:A5 n s):((s.op=1\/s.op=2\/s.op=3\/s.op=14)->C6 2 s.expr)/\L s.index<=1/\(∀x∈s.index,C6 2 x)/\(s.index≠[]->s.name=qN)/\L s.expr.l<=2/\L s.body<=4/\L s.els<=4:=by cases n with|zero=>exact h.elim|succ n=>exact⟨h.1,h.2.1,h.2.2.1,h.2.2.2.1,h.2.2.2.2.1,h.2.2.2.2.2.1,h.2.2.2.2.2.2.2.1⟩
def A5.ops{n:Nat}{s:eo}(h:A5 n s):1<=s.op/\s.op<=15:=by cases n with|zero=>exact h.elim|succ n=>exact h.2.2.2.2.2.2.2.2.2
theorem A5.mono:∀{n m:Nat} {s:eo},A5 n s->n<=m->A5 m s
 |0,_,_,h,_=>h.elim
 |n+1,0,_,_,h=>by omega
 |n+1,m+1,s,⟨c,d,e,f,g,i,j,k,l,b⟩,o=>⟨c,d,e,f,g,i,λx a=>(j x a).mono (by omega),k,λx a=>(l x a).mono (by omega),b⟩
def shL(n m:Nat)(l:List eo):Prop:=L l<=m/\∀s∈l,A5 n s
def A5.body{n:Nat}{s:eo}(h:A5 n s):∃m,n=m+1/\shL m 4 s.body/\shL m 4 s.els:=by obtain⟨m,e,a,b⟩:=h.up;exact⟨m,e,⟨h.at.2.2.2.2.2.1,a⟩,⟨h.at.2.2.2.2.2.2,b⟩⟩
def shT(t:xt):Prop:=L t.locs<=4/\shL 4 8 t.body
def PrB(p:xr):Prop:=L p.A7<1000/\L p.ay<1000/\∀t∈p.ay,L t.locs<1000
def shP(p:xr):Prop:=PrB p/\L p.ay<=4/\∀t∈p.ay,shT t
section
variable{i:Nat}(F:FT)
def aP7{A:Type}{b:A->List AV}{c:A->d7}(k:∀a,Ct i (b a) (c a)):FT:=λys K=>∃a,ys=b a/\∀r,c a r->K r
def aRM{A:Type}{b:A->List AV}{e:A->d7}(k:∀a,Ct i (b a) (e a))(a:A)(d K:d7)(g:F=aP7 k:=by exact rfl)(j:∀a c,b a=b c->a=c:=by simp+contextual only[ij]):fW F (b a) d K=(∀r,e a r->d r/\K r):=by subst g;apply vb;constructor;rintro⟨c,h,f⟩;obtain rfl:=j _ _ h;exact f;intro h;exact⟨_,rfl,h⟩
def aR6{A:Type}{b:A->List AV}{e:A->d7}(k:∀a,Ct i (b a) (e a))(c:∀a,(b a).all iX=U:=by intros;exact rfl):∀ys K,aP7 k ys K->jz aS GG i ys K:=by rintro ys K ⟨a,rfl,h⟩;exact nX (k a) (c a) (λr d=>h r d)
def aRd{A B:Type}{c:A->B->List AV}{d:A->B->d7}(k:∀a b,Ct i (c a b) (d a b)):FT:=λys K=>∃a b,ys=c a b/\∀r,d a b r->K r
def aWg{A B:Type}{c:A->B->List AV}{g:A->B->d7}(k:∀a b,Ct i (c a b) (g a b))(a:A)(b:B)(f K:d7)(m:F=aRd k:=by exact rfl)(j:∀a b d e,c a b=c d e->a=d/\b=e:=by simp+contextual only[ij]):fW F (c a b) f K=(∀r,g a b r->f r/\K r):=by subst m;apply vb;constructor;rintro⟨d,e,h,l⟩;obtain⟨rfl,rfl⟩:=j _ _ _ _ h;exact l;intro h;exact⟨_,_,rfl,h⟩
def aYm{A B:Type}{c:A->B->List AV}{f:A->B->d7}(k:∀a b,Ct i (c a b) (f a b))(d:∀a b,(c a b).all iX=U:=by intros;exact rfl):∀ys K,aRd k ys K->jz aS GG i ys K:=by rintro ys K ⟨a,b,rfl,h⟩;exact nX (k a b) (d a b) (λr e=>h r e)
def aSb{A B C:Type}{d:A->B->C->List AV}{e:A->B->C->d7}(k:∀a b c,Ct i (d a b c) (e a b c)):FT:=λys K=>∃a b c,ys=d a b c/\∀r,e a b c r->K r
def a6o{A B C:Type}{d:A->B->C->List AV}{m:A->B->C->d7}(k:∀a b c,Ct i (d a b c) (m a b c))(a:A)(b:B)(c:C)(l K:d7)(o:F=aSb k:=by exact rfl)(j:∀a b c e f g,d a b c=d e f g->a=e/\b=f/\c=g:=by simp+contextual only[ij]):fW F (d a b c) l K=(∀r,m a b c r->l r/\K r):=by subst o;apply vb;constructor;rintro⟨e,f,g,h,n⟩;obtain⟨rfl,rfl,rfl⟩:=j _ _ _ _ _ _ h;exact n;intro h;exact⟨_,_,_,rfl,h⟩
def a7W{A B C:Type}{d:A->B->C->List AV}{g:A->B->C->d7}(k:∀a b c,Ct i (d a b c) (g a b c))(e:∀a b c,(d a b c).all iX=U:=by intros;exact rfl):∀ys K,aSb k ys K->jz aS GG i ys K:=by rintro ys K ⟨a,b,c,rfl,h⟩;exact nX (k a b c) (e a b c) (λr f=>h r f)
def aTQ{A B C D E:Type}{f:A->B->C->D->E->List AV}{g:A->B->C->D->E->Prop}{h:A->B->C->D->E->d7}(k:∀a b c d e,g a b c d e->Ct i (f a b c d e) (h a b c d e)):FT:=λys K=>∃a b c d e,ys=f a b c d e/\g a b c d e/\∀r,h a b c d e r->K r
def bbn{A B C D E:Type}{f:A->B->C->D->E->List AV}{q:A->B->C->D->E->Prop}{s:A->B->C->D->E->d7}(k:∀a b c d e,q a b c d e->Ct i (f a b c d e) (s a b c d e))(a:A)(b:B)(c:C)(d:D)(e:E)(p K:d7)(u:F=aTQ k:=by exact rfl)(j:∀a b c d e g l m n o,f a b c d e=f g l m n o->a=g/\b=l/\c=m/\d=n/\e=o:=by simp+contextual only[ij]):fW F (f a b c d e) p K=(q a b c d e/\∀r,s a b c d e r->p r/\K r):=by subst u;apply vb;constructor;rintro⟨g,l,m,n,o,h,t⟩;obtain⟨rfl,rfl,rfl,rfl,rfl⟩:=j _ _ _ _ _ _ _ _ _ _ h;exact t;intro h;exact⟨_,_,_,_,_,rfl,h⟩
def bhJ{A B C D E:Type}{f:A->B->C->D->E->List AV}{m:A->B->C->D->E->Prop}{n:A->B->C->D->E->d7}(k:∀a b c d e,m a b c d e->Ct i (f a b c d e) (n a b c d e))(g:∀a b c d e,(f a b c d e).all iX=U:=by intros;exact rfl):∀ys K,aTQ k ys K->jz aS GG i ys K:=by rintro ys K ⟨a,b,c,d,e,rfl,j,h⟩;exact nX (k a b c d e j) (g a b c d e) (λr l=>h r l)
end
def B1:AV->AV| .t vs=> .t (vs.map nrm)|x=>nrm x
theorem bdV{κ:rm}{w:World}{Y:ae}{β:Id->Nat}{v:Value}{x:AV}(h:ba κ w Y β v x):ba κ w Y β v (B1 x):=by cases x with|t vs=>(cases h with|t d h=>refine .t (by grind) λi v c f b=>?_;grind [bE,yo])|_=>exact yo h
theorem a6f{x:AV}:nj (gK x)=nj x:=by cases x<;>rfl
theorem aWa{x:AV}:pF (nrm x)=pF x:=by cases x with|a cs=>grind [nrm,pF,List.all_map,a6f]|_=>first|rfl|exact a6f
def ba7{x:AV}:kG (B1 x)=kG x:=by have h:=@aWa x;(cases x<;>first|exact h|skip);grind [B1,kG,List.all_map,aWa]
def aDq{fn:Nat}{ys:List AV}{Q:d7}(h:Ct fn ys λr=>Q (B1 r)):Ct fn ys Q:=by obtain⟨r,f,g,i,j⟩:=h;refine⟨B1 r,f,by rw[ba7];exact g,i,λF w d a b c=>(j F w d a b c).mono ?_⟩;grind [bdV]
def fz(Y:ae)(c:AV):AV:=gK (dQ Y c)
def fzT(Y:ae):AV->AV| .a cs=> .a (cs.map (fz Y))|x=>fz Y x
def bcq{Y:ae}{c:AV}:(∃l t o,dQ Y c= .l l t o)\/dQ Y c=c:=by(cases c<;>first|exact .inr rfl|skip);grind [box,dQ,eN,rS]
theorem aXU{Y:ae}{x:AV}:nrm (iZ Y x)=fzT Y x:=by cases x with|a cs=>simp only[iZ,nrm,fzT,vA];rfl|m b n=>show nrm (dQ Y (.m b n))=gK (dQ Y (.m b n));(rcases bcq (Y:=Y) (c:= .m b n) with⟨l,t,o,h⟩|h<;>rw[h]<;>rfl)|_=>rfl
theorem a6g{Y:ae}{x:AV}(h:iX (fzT Y x)=U):pF (iZ Y x)=U:=by have b:pF (nrm (iZ Y x))=U:=(by rw[aXU];generalize fzT Y x=y at h;cases y with|a cs=>simp only[iX,dV] at h;simp only[pF,dV];intro c d;have:=h c d;(cases c<;>first|rfl|grind [eN])|_=>first|rfl|grind [iX,eN]);rwa [aWa] at b
def aOH{Q:d7}{Y:ae}{vs vs':List AV}(h:vs.map (fzT Y)=vs')(d:vs'.all iX=U)(c:Q (aoz vs')):aE (λr=>Q (B1 r)) Y vs:=by have b:kG (.t (vs.map (iZ Y)))=U/\B1 (.t (vs.map (iZ Y)))= .t vs':=(by constructor;grind [kG,List.all_map,dV,a6g,List.mem_map_of_mem];simp only[B1,vA,<-h];grind [ja,aXU]);unfold aE jS;rcases vs with _|⟨v,_|⟨w,l⟩⟩;subst h;exact⟨rfl,c⟩;subst h;simp only[ji,mU,Cs,aqG,ru] at d;have f:=a6g d;have g:B1 (iZ Y v)=fzT Y v/\kG (iZ Y v)=pF (iZ Y v):=(by rw[<-aXU];generalize iZ Y v=y at f;cases y<;>first|exact⟨rfl,rfl⟩|grind [pF,nj]);refine⟨by simp_all,?_⟩;show Q (B1 (iZ Y v));rw[g.1];exact c;subst h;refine⟨b.1,?_⟩;show Q (B1 (.t ((v::w::l).map (iZ Y))));rw[b.2];exact c
def aOv{Q:d7}{Y:ae}{v v':AV}(h:fzT Y v=v')(c:iX v'=U)(b:Q v'):aE (λr=>Q (B1 r)) Y [v]:=by subst h;exact aOH (vs':=[fzT Y v]) rfl (by simp[c]) b
def aQ7{Y:ae}{v x:AV}(h:fzT Y v=x)(b:iX x=U):aE (λr=>B1 r=x) Y [v]:=aOv (Q:=(·=x)) h b rfl
def gm(Y:ae)(e:TypeId)(z:Nat)(a:AV)(aa:List (List AV)):Prop:=(aa=[]/\a= .l [] U U)\/∃b m,a= .m b (L aa)/\box Y b=V ⟨e,z,U,I,aa++m⟩
def bc.p{Y:ae}{e:TypeId}{z:Nat}{a:AV}{aa:List (List AV)}(h:bc Y e z a aa):gm Y e z a aa:=by rcases h with h|⟨b,c,d⟩;exact .inl h;exact .inr ⟨b,[],c,by simpa using d⟩
section
variable{Y Y':ae}{e:TypeId}{z:Nat}{a:AV}{aa:List (List AV)}
theorem gm.fx{ks:List Id}(f:gm Y e z a aa)(d:Fx Y Y' ks)(g:∀b∈aA a,b∉ks):gm Y' e z a aa:=by rcases f with h|⟨b,m,rfl,c⟩;exact .inl h;exact .inr ⟨b,m,rfl,d.keep b _ (g b (by simp[aA])) c⟩
def aWt{v:Value}:fz Y (.s v)= .s v:=rfl
def bcz{t o:Bool}:fz Y (.l aa t o)= .l aa I I:=rfl
def aBr(h:gm Y e z a aa):fz Y a= .l aa I I:=by rcases h with⟨rfl,rfl⟩|⟨b,m,rfl,c⟩;rfl;simp[fz,dQ,c,gK]
def aWs(h:gm Y e z a aa):fzT Y a= .l aa I I:=by rw[<-aBr h];rcases h with⟨rfl,rfl⟩|⟨b,m,rfl,c⟩<;>rfl
def lz(Y:ae)(c:AV):AV:=gK (gi Y c)
def aQ5{v:Value}:lz Y (.s v)= .s v:=rfl
def aXQ{t o:Bool}:lz Y (.l aa t o)= .l aa I I:=rfl
def aOb(h:gm Y e z a aa):lz Y a= .l aa I I:=by rcases h with⟨rfl,rfl⟩|⟨b,m,rfl,c⟩;rfl;simp[lz,gi,c,gK]
def gm.ce(h:gm Y e z a aa):eY a=V [a]:=by rcases h with⟨_,rfl⟩|⟨b,m,rfl,_⟩<;>rfl
def gm.ln(h:gm Y e z a aa):fS Y a=V (iv (L aa)):=by rcases h with⟨rfl,rfl⟩|⟨b,m,rfl,c⟩;rfl;simp[fS,c]
def gm.ar(h:gm Y e z a aa):dG Y a= .l aa I I:=by rcases h with⟨rfl,rfl⟩|⟨b,m,rfl,c⟩;rfl;simp[dG,eR,gi,c,nrm,gK]
def oo{b:Id}{i j:Nat}{x:bY}(h:box Y b=V x):cO Y (.p b i j)=V (.p b i j):=by simp[cO,h]
def qs{d by':Nat}{zs:List AV}{new:List (List AV)}{t o:Bool}{K:be}(i:gm Y e z a aa)(k:L zs=z)(n:0<z)(c:d<L Y)(u:∀r∈aa,L r=z)(s:∀r∈new,L r=z)(p:new≠[])(q:(L aa+L new)*(by'+1)<=1099511627776)(h:∀f Y',bc Y' e z f (aa++new)->Fx Y Y' (aA a)->(∀b∈aA f,bK Y b/\b.1=d)->K f Y'):eV (j5 e zs by' Y d a (.l new t o)) K:=by unfold j5;simp only[gL];rw[cj (by grind),bX ⟨by omega,by simp[y7,c],by simp_all⟩];rcases i with⟨rfl,rfl⟩|⟨b,m,rfl,g⟩;simp only;rw[bX ⟨by simp,by grind [lx]⟩];refine h _ _ (.inr ⟨lA Y d,by simp,?_⟩) ((kH c).mono (by simp)) (by simp[aA];exact⟨qQ Y d,rfl⟩);grind [iy];simp only[g];rw[bX ⟨trivial,trivial,k.symm,by simp,by grind [lx]⟩];have j:d<L (kill Y b):=(by grind [yg]);refine h _ _ (.inr ⟨lA Y d,by simp,?_⟩) (((Le g).trans (kH j)).mono (by simp[aA])) (by simp[aA];exact⟨qQ Y d,rfl⟩);grind [List.take_left',anF,iy]
def slP{i:Int}{K:d7}(g:gm Y e z a aa)(f:0<=i)(j:i<=L aa)(d:∀c,gm Y e z c (aa.take i.toNat)->aA c=aA a->K c):rV (fo z Y a J (V (iv i)) J) K:=by have k:i.toNat<=L aa:=(by omega);rcases g with⟨rfl,rfl⟩|⟨b,m,rfl,n⟩;have h:i.toNat=0:=(by grind);have:fo z Y (.l [] U U) J (V (iv i)) J=V (.l [] U U):=(by simp[fo,lM,f,qY,h]);rw[this];exact d _ (.inl ⟨by simp,rfl⟩) rfl;have:fo z Y (.m b (L aa)) J (V (iv i)) J=V (.m b i.toNat):=(by grind [fo,lM,qY]);rw[this];refine d _ (.inr ⟨b,aa.drop i.toNat++m,?_,?_⟩) rfl;simp_all;grind [cC,aq0]
def aOp:∀(l:List Id) (Y:ae),Fx Y (kills Y l) l:=by intro l;induction l with|nil=>intro Y;exact Fx.refl _ _|cons b l d=>intro Y;show Fx Y (kills (if(box Y b).isSome then kill Y b else Y) l) (b::l);cases c:box Y b with|none=>grind [Fx.mono]|some x=>exact(Le c).trans (d (kill Y b))
end
structure Lv(Y0 Y:ae)(cs tgt:List AV):Prop where
 eq:cs.map (lz Y)=tgt
 nw:∀b∈eB (.a cs),bK Y0 b
def aQm{Y:ae}{zs cs tgt:List AV}(d:cs.map (lz Y)=tgt)(b:L tgt=L zs)(f:0<L zs)(g:tgt.all eN=U)(i:L zs<=1000):aX zs 1 Y [(0, .a cs)]=V (.l [tgt] U U,kills Y (eB (.a cs))):=by have h:nrm (eR Y (.a cs))= .a tgt:=(by simp only[eR,nrm,vA,<-d];rfl);simp only[aX,ji,mU,h,List.flatMap_cons,List.flatMap_nil,cL];have c:(er 1 zs).flatten=zs:=(by simp);rw[bX ⟨by omega,f⟩,c];simp only[gp,eY,b,Nat.zero_mul,aj,dA,vg,vm,CE,dW,List.drop_length,cL,qd,g,df];simp[kC,<-b]
theorem Lv.fx{d Y Y':ae}{cs tgt:List AV}{ks:List Id}(h:Lv d Y cs tgt)(f:Fx Y Y' ks)(l:∀b∈eB (.a cs),b∉ks)(i:tgt.all eN=U):Lv d Y' cs tgt:=by refine⟨?_,h.nw⟩;rw[<-h.eq];refine ja λc k=>?_;have j:eN (lz Y c)=U:=(by rw[<-h.eq] at i;simp_all);cases c with|m b n=>(cases g:box Y b with|none=>grind [lz,gi,gK,eN]|some x=>have:=f.keep b x (by grind [eB,iR]) g;grind [lz,gi])|_=>rfl
def aRA{e:TypeId}{z d:Nat}{zs cs:List AV}{Y:ae}{K:be}(l:L zs=z)(j:L cs=z)(h:0<z)(k:d<L Y)(i:∀v Y',Fx Y Y' []->bK Y (d,v)->box Y' (d,v)=V ⟨e,z,U,U,[cs]⟩->K (.p (d,v) 0 0) Y'):eV (bs e zs Y d) λp s=>sV (aK z s p (.a cs)) λs'=>K p s':=by refine alI l h k λv o b f g=>?_;refine cy (y:=z) (cs:=cs) g rfl j (by omega) λm c n=>?_;refine i v m ((b.trans c).mono (by grind [bK.no])) f ?_;simp_all
def qr{Y:ae}{b:Id}{z:Nat}{e:TypeId}{o:Bool}{r cs:List AV}{K:ae->Prop}(f:box Y b=V ⟨e,z,o,U,[r]⟩)(j:L r=z)(g:L cs=z)(d:∀Y',Fx Y Y' [b]->box Y' b=V ⟨e,z,o,U,[cs]⟩->K Y'):sV (aK z Y (.p b 0 0) (.a cs)) K:=by refine cy (y:=z) (cs:=cs) f rfl g (by omega) λh c i=>d h c ?_;simp_all
def bdJ{Y:ae}{q:Option Nat}{cs:List AV}:kb q Y (.q cs)=aN q cs:=rfl
def A0{Y:ae}{b:Id}{j z:Nat}{e:TypeId}{o:Bool}{r:List AV}{x:AV}{K:ae->Prop}(d:box Y b=V ⟨e,z,o,U,[r]⟩)(g:eY x=V [x])(f:j<L r)(c:∀Y',Fx Y Y' [b]->box Y' b=V ⟨e,z,o,U,[r.set j x]⟩->K Y'):sV (aK 1 Y (.p b 0 j) x) K:=by grind [cy,List.set_eq_take_append_cons_drop]
def aPW{i:Nat}{ys:List AV}{R b K:d7}(h:Ct i ys R)(c:ys.all iX=U)(d:∀r,R r->b r/\K r):fW (cX i) ys b K:=nX h c d
def a6h{x:fc}:iX (.a (fc.c x))=U:=by simp[iX,eN,aoH,sl]
def aS7{x:eo}:iX (.a (eo.c x))=U:=by simp[iX,eN,apT,sl]
def aV2{x:AV}(h:iX x=U):[x].all iX=U:=by simp[h]
def apQ{Y:ae}{e:TypeId}{z d by' n:Nat}{zs:List AV}{a:AV}{aa new:List (List AV)}{t o:Bool}{K:be}(h:gm Y e z a aa)(m:L Y=n)(q:∀r∈aa,L r=z)(p:∀r∈new,L r=z)(g:new≠[])(j:(L aa+L new)*(by'+1)<=1099511627776)(i:∀c Y',bc Y' e z c (aa++new)->Fx Y Y' (aA a)->(∀b∈aA c,bK Y b/\b.1=d)->K c Y')(s:L zs=z:=by exact rfl)(f:0<z:=by decide)(k:d<n:=by decide):eV (j5 e zs by' Y d a (.l new t o)) K:=qs h s f (m▸k) q p g j i
def anu{e:TypeId}{z d n:Nat}{zs cs:List AV}{Y:ae}{K:be}(h:L Y=n)(c:∀v Y',Fx Y Y' []->bK Y (d,v)->box Y' (d,v)=V ⟨e,z,U,U,[cs]⟩->K (.p (d,v) 0 0) Y')(i:L zs=z:=by exact rfl)(f:L cs=z:=by exact rfl)(b:0<z:=by decide)(g:d<n:=by decide):eV (bs e zs Y d) λp s=>sV (aK z s p (.a cs)) λs'=>K p s':=aRA i f b (h▸g) c
def isI(r:AV):Prop:=∃x:Int,r=iv x
def isB(r:AV):Prop:=∃b:Bool,r=bv b
def aPG{x:Int}:isI (iv x)=True:=aRD ⟨x,rfl⟩
def aNP{b:Bool}:isB (bv b)=True:=aRD ⟨b,rfl⟩
def aP1{c:Prop}[Decidable c]{v:AV}{K:d7}:rV (if c then V v else J) K=(c/\K v):=by by_cases h:c<;>simp[h,rV]
def aWE(r:AV):Prop:=∃(x:Int) (b:Bool),r= .t [iv x,bv b]
def aQ1(r:AV):Prop:=∃x y:Int,r= .t [iv x,iv y]
def a6D{x:Int}{b:Bool}:aWE (.t [iv x,bv b])=True:=aRD ⟨x,b,rfl⟩
def aO2{x y:Int}:aQ1 (.t [iv x,iv y])=True:=aRD ⟨x,y,rfl⟩
def bd7{R:d7}{Y:ae}{x y:Int}:aE R Y [iv x,iv y]=R (.t [iv x,iv y]):=by simp[aE,jS,iZ,dQ,kG,pF,nj]
def aTb{p:Nat->Bool}{n:Nat}: -1<=uo p n/\uo p n<n:=by unfold uo;split;rename_i i h;have:=fq.1 (List.mem_of_find?_eq_some h);omega;omega
def aXc(b:Bool):Ct 248 [bv b] (·=iv (if b then 1 else 0)):=by refine bgS λs0 c a=>?_;cases b<;>simp[a1q,u1,ah]
def aOT:FT:=lH aXc
def bbU{b Lw K}:=np aOT aXc b Lw K
def aXa(i n:Int):Ct 226 [iv i,iv n] (λr=>isI r):=by refine bgQ λs0 b a=>?_;simp+contextual only[a1m,u0,u1,aPR,↓uL,aP1,aPG];refine⟨λh=>trivial,λh=>⟨by simp only[nl] at h;omega,?_⟩⟩;simp+contextual only[a1o,a1n,↓uL,u0,u1,aPG,oe,vg]
def aSe:FT:=aRd aXa
def bbS{i n Lw K}:=aWg aSe aXa i n Lw K
def aXg(o:Int):Ct 196 [iv o] (·=bv (Q (1<=o)&&Q (o<=5))):=by refine bgW λs0 b a=>?_;simp+contextual only[a1M,u0,u1,↓uL]
def aSf:FT:=lH aXg
def bbY{o Lw K}:=np aSf aXg o Lw K
def aXk(i n:Int):Ct 167 [iv i,iv n] (·=bv (dh i n)):=by refine bg7 λs0 b a=>?_;simp+contextual only[a2y,u0,u1,dh,↓uL]
def aN3:FT:=lI aXk
def bb2{i n Lw K}:=nq aN3 aXk i n Lw K
def aXm(l:List dS)(s:ByteArray)(a:L l<4611686018427387904):Ct 176 [sl dS.c l,st s] (λr=>isI r):=by refine bg9 λs0 g b=>?_;simp only[a2D];refine C7 (L l) (λk=>True) trivial λk f e=>?_;simp+contextual only[a2E,u0,u1,ix,rk,bh,aPG,oe,lS,o8,↓uL];exactλh=>⟨bA h,λd=>gS (aL h) a trivial⟩
def aQE:FT:=pn aXm
def bb4{l s Lw K}:=rQ aQE aXm l s Lw K
def aXd(w:br)(s:ByteArray)(g:L w.cells<4611686018427387904):Ct 236 [.a w.c,st s] (·=iv (uo (λi=>Q ((gd w.cells i).name=s)) (L w.cells))):=by refine bgT rfl λo n e l=>?_;simp only[a1r];refine C7 (L w.cells) (λk=>∀j,j<k->Q ((gd w.cells j).name=s)=I) (by simp) λk m d=>?_;simp+contextual only[a1s,u0,u1,e,ix,rk,aj,bh,↓uL];refine⟨λh=>⟨bA h,λb=>?_,λb=>gS (aL h) g (jf d b)⟩,λh=>?_⟩;rw[KW (aL h) b d];rw[KX (λi f=>d i (C3 f (bw h)))]
def aQD:FT:=gz aXd
def bbV{w s Lw K}:=gX aQD aXd w s Lw K
def aOB(l:List w6)(s:ByteArray):Int:=uo (λi=>Q ((gd l i).name=s)) (L l)
def aYi(l:List xt)(s:ByteArray):Int:=uo (λi=>Q ((gd l i).name=s)) (L l)
def aWX(l:List w6)(s:ByteArray)(e:L l<4611686018427387904):Ct 204 [sl w6.c l,st s] (·=iv (aOB l s)):=by refine bgB λn m f=>?_;simp only[a0p];refine C7 (L l) (λk=>∀j,j<k->Q ((gd l j).name=s)=I) (by simp) λk g b=>?_;simp+contextual only[a0q,u0,u1,y9,rk,gw,bh,↓uL];refine⟨λh=>⟨bA h,λa=>?_,λa=>gS (aL h) e (jf b a)⟩,λh=>?_⟩;rw[aOB,KW (aL h) a b];rw[aOB,KX (λi d=>b i (C3 d (bw h)))]
def aPO:FT:=gz aWX
def bbF{l s Lw K}:=gX aPO aWX l s Lw K (j:=by simp+contextual only[ij,Nb])
def aW2(l:List xt)(s:ByteArray)(e:L l<4611686018427387904):Ct 205 [sl xt.c l,st s] (·=iv (aYi l s)):=by refine bgG λn m f=>?_;simp only[a0C];refine C7 (L l) (λk=>∀j,j<k->Q ((gd l j).name=s)=I) (by simp) λk g b=>?_;simp+contextual only[a0D,u0,u1,y9,rk,gw,bh,↓uL];refine⟨λh=>⟨bA h,λa=>?_,λa=>gS (aL h) e (jf b a)⟩,λh=>?_⟩;rw[aYi,KW (aL h) a b];rw[aYi,KX (λi d=>b i (C3 d (bw h)))]
def aP9:FT:=gz aW2
def bbK{l s Lw K}:=gX aP9 aW2 l s Lw K (j:=by simp+contextual only[ij,Nb])
def aXp(n:Int):Ct 228 [iv n] (λr=>isI r):=by refine bhe λs0 b a=>?_;simp+contextual only[a24,u0,u1,aPG,oe,vg,↓uL]
def aSh:FT:=aP7 aXp
def bb7{n Lw K}:=aRM aSh aXp n Lw K
def aWQ(n:Int):Ct 260 [iv n] (λr=>isI r):=by refine bgt λs0 b a=>?_;simp+contextual only[a0e,u0,u1,aPG,oe,vg,↓uL]
def aTZ:FT:=aP7 aWQ
def bby{n Lw K}:=aRM aTZ aWQ n Lw K
def aW6(a b:Int):Ct 232 [iv a,iv b] (·=iv (if a≠0 then a else b)):=by refine bgK λs0 d c=>?_;simp+contextual only[a0S,u0,u1,↓uL];exact⟨λh=>by rw[bX (nt h)],λh=>by rw[cj (aPy h)]⟩
def aOi:FT:=lI aW6
def bbO{a b Lw K}:=nq aOi aW6 a b Lw K
def aW5(b:Bool):Ct 235 [bv b] (·=iv (if b then 7 else 0)):=by refine bgJ λs0 c a=>?_;cases b<;>simp[a0R,u1,ah]
def aOS:FT:=lH aW5
def bbN{b Lw K}:=np aOS aW5 b Lw K
def aWU(e:fc):Ct 250 [.a e.c] (λr=>isB r):=by refine bgy aN9 λg f b d=>?_;simp+contextual only[a0l,u0,u1,b,gw,aj,aNP,↓uL]
def aT2:FT:=aP7 aWU
def bbC{e Lw K}:=aRM aT2 aWU e Lw K (j:=by simp+contextual only[ij,Nb])
def aWP(n:Int):Ct 126 [iv n] (·= .a (fc.mk 1 n ⟨#[]⟩ []).c):=by refine aDq (bgs λs0 d i=>?_);simp only[a0c];refine mo d λj e f=>?_;have b:bM aOP alz [(0,(iv 1)),(1,iv n)]=V (.a [iv 1,iv n,sv [], .l [] U U]):=rfl;simp only[a0d,b,aY,↓uL];refine gN f (by rw[e.1,d];decide) rfl rfl λk h g=>?_;simp only[u0,u1,g,aj,aN,bZ,vw,dA,vm,List.take_succ_cons,CE,↓uL];exact aQ7 (by rw[aoH];rfl) (by rw[aoH];rfl)
def aQC:FT:=lH aWP
def bbx{n Lw K}:=np aQC aWP n Lw K
def A1(i:lF):List Int:=
 bif Q (i.op=1)||(Q (i.op=6)||(Q (i.op=10)||Q (i.op=27))) then[i.a]
 else bif Q (i.op=2)||Q (i.op=3) then[i.a,i.b]
 else bif Q (i.op=4) then[i.a,i.b,i.k]
 else bif Q (i.op=7) then[i.a,i.k]
 else bif Q (i.op=8)||Q (i.op=26) then[i.b]
 else bif Q (i.op=9) then[i.b,i.k]
 else[]
attribute[local irreducible] aX
def aRU(l:List Int)(r:AV):Prop:=∃t o,r= .l (l.map ci) t o
def rLI{l:List Int}{Y:ae}{t o:Bool}:aE (λr=>aRU l r) Y [.l (l.map ci) t o]=True:=aRD ⟨rfl,t,o,rfl⟩
def bd0{Y:ae}{t o:Bool}:aE (λr=>aRU [] r) Y [.l [] t o]=True:=aRD ⟨rfl,t,o,rfl⟩
def aXf(i:lF):Ct 122 [.a i.c] (λr=>aRU (A1 i) r):=by refine bgV rfl λf e b d=>?_;simp only[a1F,u0,u1,b,gw,aj,↓uL];simp only[a1K,iM,aY,sw,↓uL];simp only[a1H,aI,au,↓uL];simp only[f8,a1L,iM,aY,sw,↓uL];simp only[a1I,aI,au,↓uL];simp only[f8,a1J,iM,aY,sw,↓uL];simp only[a1G,aI,au,↓uL];simp+contextual (maxSteps:=2000000) only[↓iS,u0,u1,b,gw,aj,a5Y,fi,xA,A1,asq,aOl,rLI,bd0,oe,vg,↓uL]
def aRj:FT:=aP7 aXf
def bbX{i Lw K}:=aRM aRj aXf i Lw K (j:=by simp+contextual only[ij,Nb])
def aTp:List Int:=[3,3,3,3,3,4,4,4,4,4,5,5,5,6,6,6,7,7,7,8,9,10,11,12,13,14,14,15,16,16,17,17,18,18,19,20,1,1,2,21,22,23,23]
def aXF:Ct 112 [] (λr=>aRU aTp r):=by refine bhz λs0 c b=>?_;have a:∀R,aVS s0 R=aE R s0 [.l (aTp.map ci) U U]:=λR=>(by kernel_rfl);show aVS s0 _;rw[a];exact⟨rfl,U,U,rfl⟩
def aUt:FT:=BK aXF
def bcm{Lw K}:=al3 aUt aXF Lw K
def aWO(s:ByteArray):Ct 214 [st s] (·= .a (fc.mk 2 0 s []).c):=by refine aDq (bgr λs0 d i=>?_);simp only[a0a];refine mo d λj e f=>?_;have b:bM aOP alz [(0,(iv 2)),(2,st s)]=V (.a [iv 2,iv 0,st s, .l [] U U]):=rfl;simp only[a0b,b,aY,↓uL];refine gN f (by rw[e.1,d];decide) rfl rfl λk h g=>?_;simp only[u0,u1,g,aj,aN,bZ,vw,dA,vm,List.take_succ_cons,CE,↓uL];exact aQ7 (by rw[aoH];rfl) (by rw[aoH];rfl)
def aQB:FT:=lH aWO
def bbw{s Lw K}:=np aQB aWO s Lw K
def aXK:List Int:=[3,3,4,4,5,6,7,8,9,10,11,12,13,14,15,16,18,19,20,21,22,23,2]
def aPY(o:Int):Int:=bif Q (o<6)||Q (28<o) then 0 else gd aXK (o-6).toNat
def aXv(o:Int):Ct 198 [iv o] (·=iv (aPY o)):=by refine bhn λs0 c b=>?_;have a:∀R,aVs (iv o) s0 R=aVt (iv o) R (.l (aXK.map ci) U U) s0:=λR=>(by kernel_rfl);show aVs (iv o) s0 _;rw[a];simp+contextual only[aVt,u0,u1,tf,rk,↓uL];refine⟨λh=>by rw[aPY,h];rfl,λh=>?_⟩;rw[aPY,h];simp only[cP,nl] at h;rw[eM (by omega) (by omega)];exact⟨⟨by omega,by show o-6<23;omega⟩,rfl⟩
def aUm:FT:=lH aXv
def bcd{o Lw K}:=np aUm aXv o Lw K
def aNF:List w6:=[⟨1,0,⟨#[120]⟩,0,0,⟨#[]⟩⟩,⟨1,0,⟨#[121]⟩,0,1,⟨#[]⟩⟩,⟨2,0,⟨#[118]⟩,0,0,⟨#[]⟩⟩,⟨1,0,⟨#[113]⟩,2,0,⟨#[]⟩⟩,⟨3,0,⟨#[109]⟩,0,0,⟨#[]⟩⟩,⟨3,0,⟨#[110]⟩,0,0,⟨#[]⟩⟩,⟨4,0,⟨#[114]⟩,0,0,⟨#[]⟩⟩,⟨5,0,⟨#[99]⟩,0,0,⟨#[109]⟩⟩,⟨6,0,⟨#[102]⟩,0,0,⟨#[]⟩⟩]
def aWN:Ct 123 [] (·=sl w6.c aNF):=by refine aDq (bgk λs0 d b=>?_);have a:∀R,aUG s0 R=aE R s0 [.l (aNF.map w6.c) U U]:=λR=>(by kernel_rfl);show aUG s0 _;rw[a];exact aQ7 rfl rfl
def aSd:FT:=BJ aWN
def bbv{Lw K}:=al2 aSd aWN Lw K
attribute[local semireducible] aX
def VW(l:List aP)(t:Int)(j:Nat):Nat:=L ((l.take j).filter λe=>Q (e.aq=t))
def aV8{l:List aP}{t:Int}{j:Nat}(h:j<L l):VW l t (j+1)=VW l t j+if(gd l j).aq=t then 1 else 0:=by rw[VW,iJ h,me,bT h,P8];by_cases a:(l[j]).aq=t<;>simp[a,VW]
def a6c{l:List aP}{t:Int}{j:Nat}:VW l t j<=j:=gl (fZ _ _) (by simp;omega)
def aOE(l:List aP)(i:Nat)(t n:Int):Prop:=∃j,j<i/\(gd l j).aq=t/\((gd l j).kind=3\/(gd l j).kind=23)/\(VW l t j:Int)=n
def aXy(l:List aP)(i:Nat)(t:Int)(f:List Int)(z:i<=L l/\L l<1000000/\L f<4611686018427387904):Ct 75 [sl aP.c l,iv i,iv t,sl ci f] (λr=>∃b,r=bv b/\(b=U->∀n∈f,aOE l i t n)):=by obtain⟨D,E,F⟩:=z;refine bhq λs0 H C=>?_;simp only[a4p];refine C7 (L f) (λk=>∀j,j<k->aOE l i t (gd f j)) (by simp) λk G p=>?_;simp only[a4t,aI,u0,u1,↓uL];refine⟨λh=>?_,λh=>⟨U,rfl,λ_=>?_⟩⟩;(focus refine yh (λs:Bool×Nat=>[iv (VW l t s.2),bv s.1,iv s.2]) 2 i (λs=>s.2<=i/\(s.1=U->aOE l i t (gd f k))) (I,0) ⟨by omega,by simp⟩ ?_;rintro⟨A,j⟩ ⟨q,u⟩;simp only[a4s,aI,au,u0,u1,↓uL];refine⟨λh=>?_,λh=>⟨λd=>⟨I,rfl,by simp⟩,λd=>?_⟩⟩;(focus have o:j<i:=aL h;have m:j<L l:=(by omega);have e:=aV8 (t:=t) m;have B:=a6c (l:=l) (t:=t) (j:=j);have g:∀(a b:Bool) (c:Int),c=((VW l t (j+1):Nat):Int)->(b=U->aOE l i t (gd f k))->tI (λs:Bool×Nat=>[iv (VW l t s.2),bv s.1,iv s.2]) (λs=>s.2<=i/\(s.1=U->aOE l i t (gd f k))) [iv c,bv b,iv ((j+1:Nat):Int)]/\pM 2 i [iv c,bv b,iv ((j+1:Nat):Int)]<pM 2 i [iv (VW l t j),bv a,iv j]:=λa b c p h=>(by subst p;exact wN (enc:=λs:Bool×Nat=>[iv (VW l t s.2),bv s.1,iv s.2]) (s:=(a,j)) (s':=(b,j+1)) rfl rfl rfl o ⟨o,h⟩);(cases A<;>simp+contextual only[a4r,ix,bh,u0,u1,rk,gw,↓uL,jA,jN,a4q,uO,asq,aOl]);(all_goals refine⟨dJ m,λd=>?_,λd=>?_⟩;all_goals rw[fX (by omega)]);exact g _ _ _ (by simp at d;rw[e,cj d,kP]) (by simp);simp at d;rw[bX d] at e;rw[fX (by omega)];refine⟨dJ (aL ‹_›),λ_=>dJ m,λ_ _=>dJ m,?_⟩;(cases v:Q ((VW l t j:Int)=gd f k)<;>cases x:Q ((gd l j).kind=3)<;>simp only[asq,aOl,qE,xM,ru,qc,fh,kN]);exact g _ _ _ (by rw[e]) (by simp);exact g _ _ _ (by rw[e]) (by simp);exact g _ _ _ (by rw[e]) λw=>⟨j,o,d, .inr (by simpa using w),by simpa using v⟩;exact g _ _ _ (by rw[e]) λw=>⟨j,o,d, .inl (by simpa using x),by simpa using v⟩;exact g _ _ _ (by simp at d;rw[e,cj d,kP]) u;simp at d;rw[bX d] at e;rw[fX (by omega)];exact g _ _ _ (by rw[e]) u);refine gS (aL ‹_›) (by omega) (jf p ?_);simp at d;exact u d);intro n y;obtain⟨j,q,rfl⟩:=ou y;rw[<-bT q];exact p j (C3 q (bw h))
def aSi:FT:=ER aXy
def bcg{l i t ns Lw K}:=axQ aSi aXy l i t ns Lw K (j:=by simp+contextual only[ij,Int.natCast_inj])
section
variable{Q:d7}{Y:ae}{xs:List AV}
def bd1:(∀r,isB r->Q r)=∀b,Q (bv b):=vb ⟨λh b=>h _ ⟨b,rfl⟩,by rintro h r ⟨b,rfl⟩;exact h b⟩
def a65:(∀r,isI r->Q r)=∀x,Q (iv x):=vb ⟨λh b=>h _ ⟨b,rfl⟩,by rintro h r ⟨b,rfl⟩;exact h b⟩
def bd4:(∀r,aQ1 r->Q r)=∀x y,Q (.t [iv x,iv y]):=vb ⟨λh x b=>h _ ⟨x,b,rfl⟩,by rintro h r ⟨x,b,rfl⟩;exact h x b⟩
def bdO{v w:Value}:lo Y xs (.t [.s v, .s w])=True:=by simp[lo,uN,yv,wD]
def bcB{α:Type}[Nonempty α]{b:Bool}{f:α->AV}{K:d7}:gB b (λk=>∀x,k (f x)) K=∀x,K (gv b (f x)):=by(cases b);exact vb ⟨λh x=>h,λh=>h (Classical.choice ‹_›)⟩;rfl
def bcD{α:Type}[Nonempty α]{b:Bool}{S:Prop}{f:α->AV}{K:d7}:gB b (λk=>S/\∀x,k (f x)) K=((b=U->S)/\∀x,K (gv b (f x))):=by(cases b);exact vb ⟨λh=>⟨(λh=>by cases h),λx=>h⟩,λh=>h.2 (Classical.choice ‹_›)⟩;simp[gB,gv]
def bcC{b:Bool}{f:Bool->AV}{K:d7}:gB b (λk=>∀x,k (f x)) K=∀x,K (gv b (f x)):=bcB
def bcE{b:Bool}{S:Prop}{f:Bool->AV}{K:d7}:gB b (λk=>S/\∀x,k (f x)) K=((b=U->S)/\∀x,K (gv b (f x))):=bcD
def rg:=ai @bcC<|@bcE
def rr:=ai @bd1<|ai @a65<|ai @bd4<|ai @bdO<|ai @AL<|ai @oJ<|ai @pG<|ai @bdJ<|@bd7
end
def a6n{a:Int}{p:Int->Prop}:(∃k,iv a=iv k/\p k)=p a:=vb ⟨by rintro⟨k,h,b⟩;simp at h;rw[h];exact b,λh=>⟨a,rfl,h⟩⟩
def aRB{a b:ByteArray}:wl .neq 0 [] (st a) (st b)=V (bv (Q (a≠b))):=by have h:=@alq a b;simp only[wl,zP,df,bE,AV.s.injEq,mV] at h;simp only[wl,zP,df,h,decide_not]
def a7w:dO:=(248,aOT)::(226,aSe)::(196,aSf)::(167,aN3)::(176,aQE)::(236,aQD)::(204,aPO)::(205,aP9)::(228,aSh)::(260,aTZ)::(232,aOi)::(235,aOS)::(250,aT2)::(126,aQC)::(122,aRj)::(112,aUt)::(214,aQB)::(198,aUm)::(123,aSd)::(75,aSi)::apt
def aOh:eJ a7w:=it (nH aXc) (it (aYm aXa) (it (nH aXg) (it (nI aXk) (it (aN0 aXm) (it (aCb aXd) (it (aCb aWX) (it (aCb aW2) (it (aR6 aXp) (it (aR6 aWQ) (it (nI aW6) (it (nH aW5) (it (aR6 aWU (λ_=>by simp only[Cs,aqG,aOW,Bool.and_self])) (it (nH aWP) (it (aR6 aXf) (it (apN aXF) (it (nH aWO) (it (nH aXv) (it (apM aWN) (it (aM6 aXy) (Ey))))))))))))))))))))
def aOX:=ai @bbU<|ai @bbS<|ai @bbY<|ai @bb2<|ai @bb4<|ai @bbV<|ai @bbF<|ai @bbK<|ai @bb7<|ai @bby<|ai @bbO<|ai @bbN<|ai @bbC<|ai @bbx<|ai @bbX<|ai @bcm<|ai @bbw<|ai @bcd<|ai @bbv<|ai @bcg<|@Lb
section
attribute[local irreducible] aX
def a9j:=bi 8 []
def a1p a b s0 R:=bf a (iv 4) λt1=>ah t1 (rV (cR .neg b) λc=>aE R s0 [c,(bv U)]) (bf a (iv 5) λt3=>ah t3 (bf b (iv 0) λt4=>fV aOT s0 [t4] λd=>aE R s0 [d,(bv U)]) (aE R s0 [(iv 0),(bv I)]))
def bgR{a:AV}{b:AV}{R:d7}(h:H0 λs0=>a1p a b s0 R):Ct 227 [a,b] R:=z0 a9j aOh Tryz.func227 h
def a9h:=bi 36 []
def aU1 b c a s0 R:=bf b (iv 6) λt1=>ah t1 (aV c a λN=>aE R s0 [N,(bv U)]) (bf b (iv 7) λt3=>ah t3 (aO .sub c a λt4=>aE R s0 [t4,(bv U)]) (bf b (iv 8) λO=>ah O (aO .mul c a λP=>aE R s0 [P,(bv U)]) (bf b (iv 9) λS=>ah S (bf a (iv 0) λT=>ah T (aE R s0 [(iv 0),(bv U)]) (aO .quo c a λW=>aE R s0 [W,(bv U)])) (bf b (iv 10) λf=>ah f (bf a (iv 0) λg=>ah g (aE R s0 [(iv 0),(bv U)]) (aO .rem c a λh=>aE R s0 [h,(bv U)])) (bf b (iv 11) λi=>ah i (bf c a λj=>fV aOT s0 [j] λk=>aE R s0 [k,(bv U)]) (bf b (iv 12) λl=>ah l (aO .neq c a λm=>fV aOT s0 [m] λn=>aE R s0 [n,(bv U)]) (bf b (iv 13) λo=>ah o (aU c a λp=>fV aOT s0 [p] λq=>aE R s0 [q,(bv U)]) (bf b (iv 14) λr=>ah r (aO .leq c a λs=>fV aOT s0 [s] λt=>aE R s0 [t,(bv U)]) (bf b (iv 15) λu=>ah u (aO .gtr c a λv=>fV aOT s0 [v] λw=>aE R s0 [w,(bv U)]) (bf b (iv 16) λx=>ah x (aO .geq c a λy=>fV aOT s0 [y] λz=>aE R s0 [z,(bv U)]) (bf b (iv 17) λA=>ah A (aO .neq c (iv 0) λd=>fm d a λB=>az d (aO .neq B (iv 0)) λC=>aD d C (bv I) λD=>fV aOT s0 [D] λE=>aE R s0 [E,(bv U)]) (bf b (iv 18) λF=>ah F (aO .neq c (iv 0) λe=>ic e a λG=>aC e (aO .neq G (iv 0)) λH=>aD e (bv U) H λK=>fV aOT s0 [K] λM=>aE R s0 [M,(bv U)]) (aE R s0 [(iv 0),(bv I)])))))))))))))
def bgP{a:AV}{b:AV}{c:AV}{R:d7}(h:H0 λs0=>aU1 a b c s0 R):Ct 229 [a,b,c] R:=z0 a9h aOh Tryz.func229 h
def a9r:=bi 2 []
def a14 d f x a R:=ab 0 a d λt4=>aJ a t4 λy=>fV aN3 a [f,y] λe=>aT e 0 a d λg=>fm e f λh=>az e (ao 5 a g h) λi=>aT e 1 a i λj=>az e (bf j (iv 0)) λk=>aD e k (bv I) λc=>aT c 0 a d λl=>fm c f λm=>az c (ao 5 a l m) λn=>aT c 2 a n λo=>az c (aO .neq o (iv 0)) λp=>aD c p (bv I) λb=>aT b 0 a d λq=>fm b f λr=>az b (ao 5 a q r) λs=>aT b 2 a s λt=>fm b x λu=>az b (bf t u) λv=>aD b v (bv I) λw=>aE R a [w]
def bgZ{b:List AV}{c:AV}{d:AV}{R:d7}(l0:L b=6)(h:H1 31 6 3 b λe f=>a14 e c d f R):Ct 195 [.a b,c,d] R:=z1 a9r aOh Tryz.func195 l0 h
def a9B:=bi 15 [(3,([1,5],[0])),(6,([1],[0,5]))]
def a2A a(d:cG)(m1:fD) b:=∀_:Rg,aV (gt a 1) (iv 1) λc=>d [(gt b 0),c]/\m1 [(gt b 0),c]<m1 a
def a2B a c s0 R(d:cG):=aU (gt a 0) (iv 0) λb=>ic b (gt a 0) λs=>ic b c λe=>aC b (aJ s0 e) λf=>aC b (aO .geq s f) λg=>aD b (bv U) g λh=>ah h (aE R s0 [(bv I)]) (ao 6 s0 c (gt a 0) λi=>ab 0 s0 i λj=>fV aSf s0 [j] λk=>cf k λl=>ah l (aE R s0 [(bv U)]) (ao 6 s0 c (gt a 0) λm=>ab 0 s0 m λn=>bf n (iv 5) λo=>ah o (ao 6 s0 c (gt a 0) λp=>ab 1 s0 p λq=>d [q]) (aV (gt a 0) (iv 1) λr=>d [r])))
def a2C s0 b R c m1 a:=∀_:Rg,aJ s0 b λd=>aO .leq (gt a 1) d λt3=>ah t3 (jR 6 (a2A a c m1) (a2B a b s0 R)) (aE R s0 [(bv I)])
def a2z a b s0 R:=lR [b,(iv 0)] (a2C s0 a R)
def bg8{a:AV}{b:AV}{R:d7}(h:H0 λs0=>a2z a b s0 R):Ct 166 [a,b] R:=z0 a9B aOh Tryz.func166 h
def a9P:=bi 18 [(3,([7],[2,3,6])),(10,([40],[2]))]
def a4i R a c b:=∀_:Rg,ah (gt b 0) (aE R a [(iv (-1))]) (ab 1 a c λd=>aE R a [d])
def a4k b(a:cG):=bf b (iv 10) λc=>ah c (a [c]) (bf b (iv 17) λd=>ah d (a [d]) (bf b (iv 18) λe=>ah e (a [e]) (bf b (iv 19) λf=>ah f (a [f]) (bf b (iv 20) λg=>ah g (a [g]) (bf b (iv 28) λh=>a [h])))))
def a4j a b R d c w:=∀_:Rg,ah (gt w 0) (ab 2 a b λx=>aE R a [x]) (bf d (iv 7) λe=>ah e (ab 2 a b λf=>ab 1 a c λg=>ab 3 a b λh=>ao 1 a g h λi=>aM a i λj=>ab 4 a b λk=>fV aSe a [j,k] λl=>aV f l λm=>aE R a [m]) (bf d (iv 9) λn=>ah n (ab 1 a b λo=>ab 1 a c λp=>ab 3 a b λq=>ao 1 a p q λr=>aM a r λs=>ab 4 a b λt=>fV aSe a [s,t] λu=>aV o u λv=>aE R a [v]) (jR 10 (a4i R a b) (a4k d))))
def a4l d(b:cG):=bf d (iv 6) λa=>ah a (b [a]) (bf d (iv 27) λc=>b [c])
def a4h a d b R:=ab 0 b a λc=>jR 3 (a4j b a R c d) (a4l c)
def bho{b:List AV}{c:List AV}{R:d7}(l0:L b=6)(l1:L c=4)(h:H2 209 6 2 b 196 4 3 c λd e f=>a4h d e f R):Ct 199 [.a b, .a c] R:=z2 a9P aOh Tryz.func199 l0 l1 h
def a81:=bi 8 []
def a0m a b R:=ab 0 b a λt4=>aU t4 (iv 1) λy=>bn y 0 b a λz=>aC y (aO .gtr z (iv 6)) λA=>aD y (bv U) A λh=>bn h 2 b a λB=>aC h (fV aPd b [B]) λC=>aC h (cf C) λD=>aD h (bv U) D λj=>bn j 3 b a λE=>aC j (aU E (iv 0)) λF=>aD j (bv U) F λd=>bn d 0 b a λG=>aC d (aO .neq G (iv 1)) λH=>ic d H λk=>aT k 3 b a λK=>az k (aO .neq K (iv 0)) λM=>aC d (aD k M (bv I)) λN=>aD d (bv U) N λO=>ah O (aE R b [(bv I)]) (ab 0 b a λP=>bf P (iv 5) λi=>aT i 5 b a λS=>az i (fV aPd b [S]) λT=>az i (cf T) λW=>aD i W (bv I) λe=>bn e 0 b a λX=>aC e (aO .neq X (iv 5)) λZ=>ic e Z λl=>aT l 5 b a λaa=>az l (aO .neq aa (sv [])) λac=>aC e (aD l ac (bv I)) λm=>aD e (bv U) m λn=>ah n (aE R b [(bv I)]) (ab 4 b a λo=>aO .gtr o (iv (-9223372036854775808)) λc=>aT c 4 b a λp=>az c (bf p (iv 0)) λq=>fm c q λf=>bn f 0 b a λr=>aC f (bf r (iv 1)) λs=>az c (aD f (bv U) s) λt=>fm c t λg=>bn g 0 b a λu=>aC g (bf u (iv 2)) λv=>az c (aD g (bv U) v) λw=>aD c w (bv I) λx=>aE R b [x]))
def bgz{b:List AV}{R:d7}(l0:L b=6)(h:H1 257 6 1 b λc d=>a0m c d R):Ct 202 [.a b] R:=z1 a81 aOh Tryz.func202 l0 h
def a85:=bi 26 [(20,([56],[3,7]))]
def a0t a c d R b:=∀_:Rg,ah (gt b 0) (ab 0 a c λe=>ao 6 a e d λf=>ab 0 a f λg=>aE R a [g]) (aE R a [(iv 9)])
def a0u b(a:cG):=bf b (iv 3) λc=>ah c (a [c]) (bf b (iv 4) λd=>ah d (a [d]) (bf b (iv 5) λe=>ah e (a [e]) (bf b (iv 6) λf=>a [f])))
def a0s c f g a R:=aO .geq f (iv 0) λt3=>fm t3 f λF=>aT t3 1 a c λh=>az t3 (aJ a h) λi=>az t3 (aU F i) λj=>aD t3 j (bv I) λb=>aT b 1 a c λk=>fm b f λl=>az b (ao 4 a k l) λm=>aT b 2 a m λn=>fm b g λo=>az b (fV FB a [n,o]) λp=>az b (aO .geq p (iv 0)) λq=>aD b q (bv I) λr=>ah r (aE R a [(iv 8)]) (ab 0 a c λs=>fV aPO a [s,g] λd=>aU d (iv 0) λt=>ah t (ab 1 a c λu=>fV aP9 a [u,g] λv=>aO .geq v (iv 0) λw=>ah w (aE R a [(iv 7)]) (aE R a [(iv 0)])) (ab 0 a c λx=>ao 6 a x d λy=>ab 0 a y λe=>bf e (iv 1) λz=>ah z (ab 0 a c λA=>ao 6 a A d λB=>ab 3 a B λC=>aO .neq C (iv 0) λD=>ah D (aE R a [(iv 2)]) (aE R a [(iv 1)])) (bf e (iv 2) λE=>ah E (aE R a [(iv 1)]) (jR 20 (a0t a c d R) (a0u e)))))
def bgD{b:List AV}{c:AV}{d:AV}{R:d7}(l0:L b=2)(h:H1 143 2 3 b λe f=>a0s e c d f R):Ct 251 [.a b,c,d] R:=z1 a85 aOh Tryz.func251 l0 h
def a89:=bi 33 [(4,([4,5,6,7,8],[0])),(7,([4,5,6,7],[0,8])),(15,([4,5,6,7],[0,8,9])),(17,([39],[0,4,5,6,7,8,9,36])),(19,([47],[0,4,5,6,7,8,9,36]))]
def a0I b(e:aG)(m1:bu) f a c:=∀_:Rg,aV (gt b 4) (iv 1) λd=>e [(gt a 0),(gt a 1),(gt a 2),(gt a 3),d] c/\m1 [(gt a 0),(gt a 1),(gt a 2),(gt a 3),d] c<m1 b f
def a0F b c R i B(h:aG) a:=∀_:Rg,aO .gtr (gt a 0) (iv 12) λd=>ic d (gt a 1) λj=>aC d (aO .gtr j (iv 4)) λk=>aD d (bv U) k λe=>ic e (gt a 2) λl=>aC e (aO .gtr l (iv 2)) λm=>aD e (bv U) m λf=>ic f (gt a 3) λn=>aC f (aO .gtr n (iv 2)) λo=>aD f (bv U) o λp=>ah p (ab 1 b c λq=>aE R b [(iv 2),q]) (ab 0 b c λr=>bf r (iv 5) λs=>ah s (rV (fo 6 b i J (V (gt B 4)) J) λt=>ab 5 b c λu=>fV aPO b [t,u] λg=>aU g (iv 0) λv=>ah v (ab 1 b c λw=>aE R b [(iv 5),w]) (ao 6 b i g λx=>ab 0 b x λy=>aO .neq y (iv 3) λz=>ah z (ab 1 b c λA=>aE R b [(iv 6),A]) (h [(gt a 0),(gt a 1),(gt a 2),(gt a 3)] b))) (h [(gt a 0),(gt a 1),(gt a 2),(gt a 3)] b))
def a0H a(b:cG) d c:=∀_:Rg,ah (gt c 0) (aV (gt a 1) (iv 1) λe=>b [(gt a 0),e,(gt a 2),(gt a 3)]) (bf d (iv 5) λf=>ah f (aV (gt a 2) (iv 1) λg=>b [(gt a 0),(gt a 1),g,(gt a 3)]) (aV (gt a 3) (iv 1) λh=>b [(gt a 0),(gt a 1),(gt a 2),h]))
def a0L b(a:cG):=bf b (iv 3) λc=>ah c (a [c]) (bf b (iv 4) λd=>a [d])
def a0G f d a(b:cG) c e:=∀_:Rg,ah (gt e 0) (ab 3 f d λg=>rV (AO .max g (iv 1)) λh=>aV (gt a 0) h λi=>b [i,(gt a 1),(gt a 2),(gt a 3)]) (jR 19 (a0H a b c) (a0L c))
def a0K b(a:cG):=bf b (iv 1) λc=>ah c (a [c]) (bf b (iv 2) λd=>a [d])
def a0J b a e d:=ab 0 b a λc=>jR 17 (a0G b a e d c) (a0K c)
def aUT d c b R m a:=rV (fo 6 a d J (V (gt c 4)) J) λe=>ab 2 a b λf=>fV aPO a [e,f] λg=>aO .geq g (iv 0) λh=>ah h (ab 1 a b λi=>aE R a [(iv 4),i]) (ab 3 a b λj=>aO .gtr j (iv 4) λk=>ah k (ab 1 a b λl=>aE R a [(iv 2),l]) (jR 15 (a0F a b R d c m) (a0J a b c)))
def a0M c d b R f:=ao 6 c d (gt b 4) λg=>aw 6 c g λh=>eV (bs 257 aPa c 9) λa e=>sV (aK 6 e a h) (aUT d b a R f)
def a0N c R d m1 a b:=∀_:Rg,aJ b c λt3=>aU (gt a 4) t3 λt4=>ah t4 (jV 7 (a0I a d m1 b) (a0M b c a R)) (aE R b [(iv 0),(iv 0)])
def a0E a s0 R:=lV [(iv 0),(iv 0),(iv 0),(iv 0),(iv 0)] s0 (a0N a R)
def bgH{a:AV}{R:d7}(h:H0 λs0=>a0E a s0 R):Ct 172 [a] R:=z0 a89 aOh Tryz.func172 h
def a9d:=bi 29 [(3,([4],[1])),(12,([6],[1])),(21,([8],[1,6,7]))]
def a0U e c d R(s:aG)(g:bu) t a:=ab 0 a e λh=>ab 0 a c λi=>fV aPO a [h,i] λj=>aO .geq j (iv 0) λb=>bn b 1 a e λk=>ic b (gt d 0) λl=>aC b (rV (fo 4 a k J (V l) J)) λm=>bn b 0 a c λn=>aC b (fV aP9 a [m,n]) λo=>aC b (aO .geq o (iv 0)) λp=>aD b (bv U) p λq=>ah q (ab 1 a c λr=>aE R a [(iv 4),r]) (aV (gt d 0) (iv 1) λf=>s [f] a/\g [f] a<g d t)
def a0X a d l R i(u:aG)(j:bu) w(v:cG)(k:fD) c:=∀_:Rg,ab 2 a d λx=>aJ a x λy=>aU (gt c 0) y λz=>ah z (ab 2 a d λA=>ao 1 a A (gt c 0) λB=>aM a B λh=>ab 0 a l λC=>fV aPO a [C,h] λD=>aO .geq D (iv 0) λe=>bn e 1 a l λE=>ic e h λF=>aC e (fV aP9 a [E,F]) λG=>aC e (aO .geq G (iv 0)) λH=>aD e (bv U) H λb=>bn b 2 a d λm=>ic b (gt c 0) λn=>aC b (rV (fo 1 a m J (V n) J)) λo=>ic b h λp=>aC b (fV FB a [o,p]) λq=>aC b (aO .geq q (iv 0)) λr=>aD b (bv U) r λs=>ah s (ab 1 a d λt=>aE R a [(iv 4),t]) (aV (gt c 0) (iv 1) λf=>v [f]/\k [f]<k c)) (aV (gt i 0) (iv 1) λg=>u [g] a/\j [g] a<j i w)
def a0V b R f c d e g a:=ab 2 a b λh=>aJ a h λi=>aO .gtr i (iv 4) λj=>ah j (ab 1 a b λk=>aE R a [(iv 2),k]) (lR [(iv 0)] (a0X a b f R c d e g))
def a0W c R e f b a:=∀_:Rg,ab 1 a c λh=>aJ a h λi=>aU (gt b 0) i λj=>ah j (ab 1 a c λk=>ao 4 a k (gt b 0) λl=>aw 4 a l λm=>eV (bs 203 aPM a 7) λd g=>sV (aK 4 g d m) (a0V d R c b e f a)) (aE R a [(iv 0),(iv 0)])
def a0Y b R i j d a:=∀_:Rg,ab 1 a b λk=>aJ a k λl=>aU (gt d 0) l λm=>ah m (ab 1 a b λf=>ao 4 a f (gt d 0) λg=>aw 4 a g λh=>eV (bs 203 aPM a 5) λc e=>sV (aK 4 e c h) (a0U b c d R i j a)) (lV [(iv 0)] a (a0W b R))
def a0T a b R:=lV [(iv 0)] b (a0Y a R)
def bgL{b:List AV}{R:d7}(l0:L b=2)(h:H1 143 2 1 b λc d=>a0T c d R):Ct 173 [.a b] R:=z1 a9d aOh Tryz.func173 l0 h
def a8H:=bi 9 [(4,([3,4],[0]))]
def a8g e a o p q s f g h i r j k l(m:aG)(m1:bu) n c b:=dH [km,km,km,(lb U [e,(gt a 1)] []),(bo o),(bo p),(lb U [q,(iv 4)] []),km,km,(lb U [e,(gt a 1)] []),(bo s),(bo f),(lb U [g,(iv 4)] []),(lb U [h,(iv 5)] []),(lb U [i,(iv 1)] []),(lb U [r,j] []),(lb I [k] []),(lb I [(gt a 0),l] [28]),km] [(0,16)] (aV (gt a 1) (iv 1) λd=>m [c,d] b/\m1 [c,d] b<m1 a n)
def aYQ c R q m1 a b:=∀_:Rg,aJ b c λt3=>aU (gt a 1) t3 λt4=>ah t4 (ao 1 b c (gt a 1) λl=>aM b l λm=>rV (sO (V .i64) m) λn=>aO .rem n (iv 4) λo=>ao 1 b c (gt a 1) λp=>aM b p λd=>rV (sO (V .i64) d) λe=>aO .quo e (iv 4) λf=>aO .rem f (iv 5) λg=>aO .sub g (iv 1) λh=>rV (bM aYq O7 [(0,o),(1,h)]) λi=>eV (aX a7Y 1 b [(0,i)]) λj k=>eV (j5 146 aYq 16 k 28 (gt a 0) j) (a8g c a l m n p d e f g o h i j q m1 b)) (aE R b [(gt a 0)])
def aYP a s0 R:=lV [(.l [] U U),(iv 0)] s0 (aYQ a R)
def bgd{a:AV}{R:d7}(h:H0 λs0=>aYP a s0 R):Ct 32 [a] R:=z0 a8H aOh Tryz.func32 h
def a8L:=bi 2 []
def aZi a d R t3 b:=aw 4 b a λe=>rV (bM A4 aon [(0,(iv 1)),(2,d),(5,e)]) λf=>sV (aK 11 b t3 f) λc=>aw 11 c t3 λg=>aE R c [g]
def aZh b a c R:=eV (bs 219 A4 c 4) (aZi a b R)
def bgi{c:AV}{b:List AV}{R:d7}(l1:L b=4)(h:H1 217 4 3 b λd e=>aZh c d e R):Ct 125 [c, .a b] R:=z1 a8L aOh Tryz.func125 l1 h
def a8M:=bi 2 []
def aZk f e R g b:=rV (bM aOP alz [(0,f),(3,g)]) λc=>sV (aK 4 b e c) λa=>aw 4 a e λd=>aE R a [d]
def aZl b c d R e a:=aw 4 a b λf=>aw 4 a c λg=>eV (aX aRb 2 a [(0,f),(1,g)]) (aZk d e R)
def aZj c a b d R:=eV (bs 217 aOP d 6) (aZl a b c R)
def bgj{d:AV}{b:List AV}{c:List AV}{R:d7}(l1:L b=4)(g:L c=4)(h:H2 217 4 4 b 217 4 5 c λe f i=>aZj d e f i R):Ct 213 [d, .a b, .a c] R:=z2 a8M aOh Tryz.func213 l1 g h
def a94:=bi 11 [(4,([3,10],[8,9])),(7,([3],[8,9,10]))]
def a5x d(f:aG)(e:bu) g a b:=∀_:Rg,aV (gt d 1) (iv 1) λc=>f [(gt a 0),c] b/\e [(gt a 0),c] b<e d g
def a5w d b(c:aG) a:=ab 0 a d λg=>bf g (iv 3) λh=>ah h (eV (aX bH 1 a [(0,(gt b 1))]) λi e=>eV (j5 3 fB 8 e 21 (gt b 0) i) λj f=>c [j] f) (c [(gt b 0)] a)
def a5y c h b d:=ao 3 c h (gt b 1) λf=>aw 3 c f λg=>eV (bs 105 aNB c 5) λa e=>sV (aK 3 e a g) (a5w a b d)
def a5z f e R c d a b:=∀_:Rg,aU (gt a 1) f λg=>ah g (jV 7 (a5x a c d b) (a5y b e a)) (aE R b [(gt a 0)])
def a5v b a R:=aB 0 a b λt3=>ab 3 a t3 λc=>aJ a c λd=>lV [(.l [] U U),(iv 0)] a (a5z d c R)
def bhE{b:List AV}{R:d7}(l0:L b=7)(h:H1 40 7 1 b λc d=>a5v c d R):Ct 164 [.a b] R:=z1 a94 aOh Tryz.func164 l0 h
end
def ya{a b:AV}:mL (bv U) a b=V a:=rfl
def Aa{a b:AV}:mL (bv I) a b=V b:=rfl
def aXX{P:Int->Prop}{Q:d7}:(∀r,(∃k:Int,r=iv k/\P k)->Q r)=∀k,P k->Q (iv k):=vb ⟨λh k a=>h _ ⟨k,rfl,a⟩,by rintro h r ⟨k,rfl,a⟩;exact h k a⟩
def bd8{a b c d e f g h i j k:AV}:aN (V 11) [a,b,c,d,e,f,g,h,i,j,k]=V (.a [a,b,c,d,e,f,g,h,i,j,k]):=rfl
def rkx{s:bF}:aN (V 3) (bF.c s)=V (.a (bF.c s)):=rfl
def aXb(o a:Int):Ct 227 [iv o,iv a] (λr=>aWE r):=by refine bgR λs0 c b=>?_;simp+contextual only[a1p,u0,u1,aEn,aOX,ar,a6D,QV,oe,vg,↓uL]
def aUb:FT:=aRd aXb
def bbT{o a Lw K}:=aWg aUb aXb o a Lw K
def aW9(o a b:Int):Ct 229 [iv o,iv a,iv b] (λr=>aWE r):=by refine bgP λs0 d c=>?_;simp+contextual only[aU1,u0,u1,aPR,a5N,aP1,aOX,ar,a6D,QV,oe,vg,↓uL,aU1,o8,nl,mn,aN2,not_false_iff]
def aUa:FT:=aSb aW9
def bbR{o a b Lw K}:=a6o aUa aW9 o a b Lw K
def aXj(w:br)(b n:Int):Ct 195 [.a w.c,iv b,iv n] (λr=>isB r):=by refine bgZ rfl λg f d e=>?_;simp+contextual only[a14,u0,u1,d,ix,rk,ar,aOX,aj,DR,aNP,↓uL];exact⟨λh _=>dX.1 h,λh _ _=>dX.1 h,trivial⟩
def aSg:FT:=aSb aXj
def bb1{w b n Lw K}:=a6o aSg aXj w b n Lw K
def aXl(l:List lF)(a:Int)(o:L l<1000000):Ct 166 [sl lF.c l,iv a] (λr=>isB r):=by refine bg8 λs0 n m=>?_;simp only[a2z];have h:∀(a b:Int) (k:Nat),k<L l+1->tI (λs:Int×Nat=>[iv s.1,iv s.2]) (λs=>s.2<=L l+1) [iv b,iv ((k+1:Nat):Int)]/\pM 1 (L l+1) [iv b,iv ((k+1:Nat):Int)]<pM 1 (L l+1) [iv a,iv k]:=λa b k e=>wN (enc:=λs:Int×Nat=>[iv s.1,iv s.2]) (s:=(a,k)) (s':=(b,k+1)) rfl rfl rfl e e;refine yh (λs:Int×Nat=>[iv s.1,iv s.2]) 1 (L l+1) (λs=>s.2<=L l+1) (a,0) (by simp) ?_;rintro⟨f,k⟩ e;simp+contextual only[a2A,a2B,a2C,f8,aI,au,u0,u1,y9,rk,gw,ar,aOX,aNP,oe,o8,rr,↓uL];intro i j;have g:k<L l+1:=(by simp at i;omega);have d:aF (L l) f:=(by simp at j;exact⟨by omega,by omega⟩);rw[fX (by omega)];exact⟨d,λ_=>⟨d,λ_=>⟨d,h _ _ _ g⟩,λ_=>h _ _ _ g⟩⟩
def aUe:FT:=pn aXl
def bb3{l a Lw K}:=rQ aUe aXl l a Lw K (j:=by simp+contextual only[ij,Nb])
def a8e(i:lF)(s:pt):Prop:=i.op=7\/i.op=9->aF (L s.li) i.k
def aXw(i:lF)(s:pt)(b:a8e i s):Ct 199 [.a i.c, .a s.c] (λr=>isI r):=by refine bho rfl rfl λj g d e f=>?_;simp+contextual only[a4i,a4k,a4j,a4l,a4h,f8,aI,au,u0,u1,d,e,ix,rk,gw,ar,aOX,aj,aPG,oe,vg,o8,rr,↓uL];simp only[mn,nl,sr,vp,oe,lS];exactλ_ _=>⟨λh=>b (.inl h),λ_ h=>b (.inr h)⟩
def aUn:FT:=pn aXw
def bce{i s Lw K}:=rQ aUn aXw i s Lw K (j:=by simp+contextual only[ij,Nb])
def aWV(d:w6):Ct 202 [.a d.c] (λr=>isB r):=by refine bgz rfl λg f b e=>?_;simp+contextual only[a0m,u0,u1,b,gw,ar,aOX,aj,aRB,aNP,oe,vg,↓uL]
def aT3:FT:=aP7 aWV
def bbD{d Lw K}:=aRM aT3 aWV d Lw K (j:=by simp+contextual only[ij,Nb])
def slc{Y:ae}{K:d7}{i:Int}{l:List ByteArray}:rV (fo 1 Y (sl cs l) J (V (iv i)) J) K=((0<=i/\i<=L l)/\K (sl cs (l.take i.toNat))):=aIk λ_=>rfl
def aWZ(p:xr)(t:Int)(s:ByteArray)(g:PrB p):Ct 251 [.a p.c,iv t,st s] (λr=>∃k,r=iv k/\(k=5->0<=aOB p.A7 s)):=by obtain⟨l,m,d⟩:=g;refine bgD rfl λq o b j=>?_;have f:=aTb (p:=λi=>Q ((gd p.A7 i).name=s)) (n:=L p.A7);have e:∀t:Int,L (gd p.ay t.toNat).locs<4611686018427387904:=λt=>(by by_cases h:t.toNat<L p.ay;have:=d _ (dB h);omega;rw[gd,eI,List.getElem?_eq_none (by omega)];decide);rw[<-aOB] at f;simp+contextual only[a0t,a0u,a0s,f8,aI,au,u0,u1,b,y9,rk,gw,ar,aOX,aj,a6n,↓uL];simp only[aF];(try simp only[mn,nl,bN,pk,aNS,aN2]);(repeat' (first|apply ai|intro _));all_goals first|omega|trivial|exact e _
def aT5:FT:=vn aWZ
def bbH{p t s Lw K}:=zZ aT5 aWZ p t s Lw K (j:=by simp+contextual only[ij,Nb])
def aW3(l:List w6)(O:L l<1000):Ct 172 [sl w6.c l] (λr=>aQ1 r):=by
 refine bgH λs0 E H=>?_
 simp only[a0E]
 refine jD (α:=Int×Int×Int×Int) (λs i=>[iv s.1,iv s.2.1,iv s.2.2.1,iv s.2.2.2,iv i]) 4 (L l) (λ_ _ Y=>L Y=4096) (s0:=(0,0,0,0)) E ?_
 rintro k ⟨a,b,c,d⟩ Y N e
 have F:∀(x y z u:Int) Y',L Y'=4096->k<L l->yI (λ(s:Int×Int×Int×Int) i=>[iv s.1,iv s.2.1,iv s.2.2.1,iv s.2.2.2,iv i]) (L l) (λ_ _ Y=>L Y=4096) [iv x,iv y,iv z,iv u,iv (dq.wrap ((k:Int)+1))] Y'/\gM 4 (L l) [iv x,iv y,iv z,iv u,iv (dq.wrap ((k:Int)+1))] Y'<gM 4 (L l) [iv a,iv b,iv c,iv d,iv k] Y:=λx y z u Y' m g=>
  dR (mk:=λ(s:Int×Int×Int×Int) i=>[iv s.1,iv s.2.1,iv s.2.2.1,iv s.2.2.2,iv i]) (s:=(a,b,c,d)) (s':=(x,y,z,u)) (λ_ _=>rfl) g (by omega) m
 have t:∀{Y:ae} {K:d7} {i:Int},rV (fo 6 Y (sl w6.c l) J (V (iv i)) J) K=((0<=i/\i<=L l)/\K (sl w6.c (l.take i.toNat))):=aIk λ_=>rfl
 simp only[a0N,aI,au,u0,u1,aO2,rr,oe,o8,a0M,y9,bh,gw,rr,↓uL]
 intro h
 have f:=aL h
 refine⟨dJ f,anu e λv A w G B=>?_⟩
 have o:L A=4096:=w.len.trans e
 have j:(0:Int)<=k/\(k:Int)<=L l:=⟨by omega,by omega⟩
 have D:=aTb (p:=λi=>Q ((gd (l.take k) i).name=(gd l k).on)) (n:=L (l.take k))
 have q:L (l.take k)<4611686018427387904:=by simp;omega
 have C:Q (aOB (l.take k) (gd l k).on<0)=I->aF (L l) (aOB (l.take k) (gd l k).on):=λh=>by
  simp only[nl] at h
  have M:L (l.take k)<=L l:=by simp only[List.length_take];omega
  exact⟨by omega,by have:=D.2;rw[aOB];omega⟩
 simp+contextual only[aUT,t,bh,u0,u1,B,rk,gw,aj,ar,aOX,rr,aO2,oe,o8,a0I,a0F,a0H,a0L,a0G,a0K,a0J,aUT,j,y9,C,F,f,o,q,aRW,vg,↓uL]
def aT7:FT:=om aW3
def bbL{l Lw K}:=qz aT7 aW3 l Lw K (j:=by simp+contextual only[ij,Nb])
def aW7(p:xr)(C:PrB p):Ct 173 [.a p.c] (λr=>aQ1 r):=by refine bgL rfl λn w q G=>?_;obtain⟨H,M,A⟩:=C;simp only[a0T];have y:∀{Y:ae} {K:d7} {i:Int},rV (fo 4 Y (sl xt.c p.ay) J (V (iv i)) J) K=((0<=i/\i<=L p.ay)/\K (sl xt.c (p.ay.take i.toNat))):=aIk λ_=>rfl;refine yV (L p.ay) (λ_ _ Y=>Fx n Y []) (Fx.refl _ _) ?_;rintro k _ Y B F;have e:=F.kq q;have f:L Y=4096:=F.len.trans w;simp only[a0Y,aI,au,u0,u1,e,rk,gw,aj,y9,bh,↓uL];refine⟨λh=>⟨bA h,anu f λv o d z g=>?_⟩,λh=>?_⟩;(focus have b:=aL h;have m:=d.kq e;have u:(0:Int)<=k/\(k:Int)<=L p.ay:=⟨by omega,by omega⟩;have x:L (p.ay.take k)<4611686018427387904:=(by simp;omega);have D:=dR (mk:=λ(_:Unit) i=>[iv i]) (p:=0) (s:=()) (s':=()) (Inv:=λ_ _ Y=>Fx n Y []) (Y:=Y) (Y':=o) (λ_ _=>rfl) b (by omega) (F.trans d);simp+contextual only[a0U,y,bh,u0,u1,m,g,gw,aj,ar,aOX,rr,aO2,oe,o8,u,x,D,↓uL];(try simp only[dh,aF,mn,nl,bN,fH,cP,pk,aNS,eH,fK,aN2]);(repeat' (first|apply ai|intro _));all_goals first|omega|trivial);refine yV (L p.ay) (λ_ _ Y=>Fx n Y []) F ?_;rintro k _ Y B F;have e:=F.kq q;have f:L Y=4096:=F.len.trans w;simp only[a0W,aI,au,u0,u1,e,rk,gw,aj,y9,bh,rr,aO2,oe,o8,↓uL];refineλh=>⟨bA h,anu f λv o d z g=>?_⟩;have b:=aL h;have m:=d.kq e;simp+contextual only[a0V,u0,u1,g,gw,aj,rr,aO2,oe,lS,↓uL];intro N;have E:=A _ (dB b);refine C7 (L (gd p.ay k).locs) (λ_=>True) trivial λj O _=>?_;simp+contextual only[a0X,aI,au,u0,u1,m,g,rk,gw,aj,ix,bh,ar,aOX,rr,aO2,oe,slc,↓uL];refine⟨λt=>?_,λt=>dR (mk:=λ(_:Unit) i=>[iv i]) (s:=()) (s':=()) (λ_ _=>rfl) b (by omega) (F.trans d)⟩;have l:=aL t;refine⟨dJ l,by omega,λ_=>by omega,λ_=>⟨by omega,by omega⟩,λ_=>by simp;omega,λ_=>gS l (by omega) trivial⟩
def aT9:FT:=om aW7
def bbP{p Lw K}:=qz aT9 aW7 p Lw K (j:=by simp+contextual only[ij,Nb])
def cu(x:Int):List AV:=[.s (.int .u8 x)]
def a6E{Y:ae}{K:d7}{i:Int}{l:List Int}:rV (cz 1 Y (sl cu l) (iv i)) K=(aF (L l) i/\K (.q (cu (gd l i.toNat)))):=aBz λ_=>rfl
def bcP{x y:Int}:(cu x=cu y)=(x=y):=by simp[cu]
def aQZ{l l':List Int}:(sl cu l=sl cu l')=(l=l'):=kL (by intro x y h;rwa [bcP] at h)
def aWH(l:List Int)(u:L l<1000):Ct 32 [sl cu l] (λr=>∃cs:List xd,r=sl xd.c cs/\L cs=L l):=by refine aDq (bgd λs0 o q=>?_);simp only[aYP];refine jD (α:=AV) (λa i=>[a,iv i]) 1 (L l) (λk a Y=>L Y=4096/\∃cs:List xd,L cs=k/\bc Y 146 2 a (cs.map xd.c)) (s0:= .l [] U U) ⟨o,[],rfl,bc.nil⟩ ?_;rintro k a Y t ⟨b,cs,n,d⟩;simp+contextual only[aYQ,aI,au,u0,u1,a6E,bh,cu,qM,aS6,aPR,a5N,aP1,↓uL];refine⟨λh=>⟨bA h,by decide,bA h,by decide,by decide,?_⟩,λh=>?_⟩;generalize(dq.wrap (gd l k)).tmod 4=x;generalize dq.wrap ((dq.wrap ((dq.wrap (gd l k)).tdiv 4)).tmod 5-1)=y;have e:bM aYq O7 [(0,iv x),(1,iv y)]=V (.a (xd.c ⟨x,y⟩)):=rfl;have j:aX a7Y 1 Y [(0, .a (xd.c ⟨x,y⟩))]=V (.l ([(⟨x,y⟩:xd)].map xd.c) U U,Y):=ua rfl rfl rfl (by decide) rfl (by decide);simp only[e,j,aY,bQ];refine apQ d.p b (qW (f:=xd.c) (z:=2) λ_=>rfl) (qW (f:=xd.c) (z:=2) λ_=>rfl) (by simp) (by simp;omega) λm Y' g F N=>?_;refine dT (by first|rfl|(simp[eL,okT,tok,lb,cq,Qh,cD,dC,pP,dK];done)) ?_;simp only[u0,u1,↓uL];refine dR (mk:=λa i=>[a,iv i]) (s:=a) (s':=m) (λ_ _=>rfl) (aL h) (by omega) ⟨F.len.trans b,cs++[⟨x,y⟩],by simp[n],by rw[dg];exact g⟩;exact aOv (Q:=λr=>∃cs:List xd,r=sl xd.c cs/\L cs=L l) (aWs d.p) (by simp[iX,eN]) ⟨cs,rfl,by have:=bw h;omega⟩
def aTT:FT:=om aWH
def bbp{l Lw K}:=qz aTT aWH l Lw K (j:=by simp+contextual only[ij,aQZ])
def aWL(s:ByteArray)(e:fc):Ct 125 [st s, .a e.c] (·= .a (eo.mk 1 0 s ⟨#[]⟩ [] e [] []).c):=by refine aDq (bgi aN9 λp j f o=>?_);simp only[aZh];refine so j λv q d m g=>?_;have i:=d.kq f;have b:bM A4 aon [(0,iv 1),(2,st s),(5, .a e.c)]=V (.a [iv 1,iv 0,st s,sv [], .l [] U U,iv e.op,iv e.n,st e.name,sl fc.c e.l, .l [] U U, .l [] U U]):=(by rw[aoH];rfl);simp only[aZi,u0,u1,i,gw,b,↓uL];refine qr g rfl rfl λr k h=>?_;simp only[u0,u1,h,bd8,↓uL];exact aQ7 (by rw[apT];rfl) (by rw[apT];rfl)
def aPN:FT:=lI aWL
def bbt{s e Lw K}:=nq aPN aWL s e Lw K (j:=by simp+contextual only[ij,Nb])
def aWM(o:Int)(a b:fc):Ct 213 [iv o, .a a.c, .a b.c] (·= .a (fc.mk o 0 ⟨#[]⟩ [a,b]).c):=by refine aDq (bgj aN9 aN9 λt p h i s=>?_);simp only[aZj];refine so p λv g d r j=>?_;have m:=d.kq h;have n:=d.kq i;have f:aX aRb 2 g [(0, .a a.c),(1, .a b.c)]=V (.l [a.c,b.c] U U,g):=(by rw[aoH (x:=a),aoH (x:=b)];kernel_rfl);simp only[aZl,u0,u1,m,n,gw,f,↓uL];have e:bM aOP alz [(0,iv o),(3, .l [a.c,b.c] U U)]=V (.a [iv o,iv 0,sv [], .l [a.c,b.c] U U]):=rfl;simp only[aZk,e,aY,↓uL];refine qr j rfl rfl λu q k=>?_;simp only[u0,u1,k,uS,↓uL];exact aQ7 (by rw[aoH (x:= .mk o 0 ⟨#[]⟩ [a,b])];rfl) (by rw[aoH (x:= .mk o 0 ⟨#[]⟩ [a,b])];rfl)
def aRg:FT:=za aWM
def bbu{o a b Lw K}:=KP aRg aWM o a b Lw K (j:=by simp+contextual only[ij,Nb])
def aXG(s:bW)(G:L s.bm.ay<1000):Ct 164 [.a s.c] (λr=>∃l:List Int,r=sl ci l/\L l<=L s.bm.ay):=by refine aDq (bhE rfl λo A y C=>?_);simp only[a5v,u0,u1,y,rk,aj,↓uL];refine jD (α:=AV) (λa i=>[a,iv i]) 1 (L s.bm.ay) (λk a Y=>Fx o Y []/\∃l:List Int,L l<=k/\bc Y 3 1 a (l.map ci)/\∀q∈aA a,bK o q) (s0:= .l [] U U) ⟨Fx.refl _ _,[],by simp,bc.nil,by simp[aA]⟩ ?_;rintro k a Y E ⟨F,l,D,j,m⟩;have e:L Y=4096:=F.len.trans A;simp only[a5z,aI,au,u0,u1,a5y,ix,bh,rkx,rr,↓uL];refine⟨λh=>⟨bA h,anu e λv w b B z=>?_⟩,λh=>?_⟩;have f:=aL h;have n:L w=4096:=b.len.trans e;simp+contextual only[a5w,u0,u1,z,rk,aj,a5Y,a5x,↓uL];refine⟨λ_=>?_,λ_=>dR (mk:=λa i=>[a,iv i]) (s:=a) (s':=a) (λ_ _=>rfl) f (by omega) ⟨F.trans b,l,by omega,j.fx b (by simp),m⟩⟩;refine qs (j.fx b (by simp)).p rfl (by decide) (by rw[n];decide) pU pU (by simp) (by simp;omega) λx Y' g t u=>?_;refine dR (mk:=λa i=>[a,iv i]) (s:=a) (s':=x) (λ_ _=>rfl) f (by omega) ⟨((F.trans b).trans t).mono λq d=> .inr ?_,l++[(k:Int)],by simp;omega,by rw[dg];exact g,λq d=>((u q d).1.old b).old F⟩;simp only[dW] at d;exact(m q d).no;exact aOv (Q:=λr=>∃l:List Int,r=sl ci l/\L l<=L s.bm.ay) (aWs j.p) (by simp[iX,eN]) ⟨l,rfl,by have:=bw h;omega⟩
def aSk:FT:=om aXG
def bcn{s Lw K}:=qz aSk aXG s Lw K
def a7x:dO:=(227,aUb)::(229,aUa)::(195,aSg)::(166,aUe)::(199,aUn)::(202,aT3)::(251,aT5)::(172,aT7)::(173,aT9)::(32,aTT)::(125,aPN)::(213,aRg)::(164,aSk)::a7w
def aNH:eJ a7x:=it (aYm aXb) (it (a7W aW9) (it (a7W aXj) (it (aN0 aXl) (it (aN0 aXw) (it (aR6 aWV) (it (By aWZ) (it (rj aW3) (it (rj aW7) (it (rj aWH) (it (nI aWL (λ_ _=>by simp only[Cs,aqG,aOW,Bool.and_self])) (it (Rs aWM (λ_ _ _=>by simp only[Cs,aqG,aOW,Bool.and_self])) (it (rj aXG) (aOh)))))))))))))
def aD6:=ai @bbT<|ai @bbR<|ai @bb1<|ai @bb3<|ai @bce<|ai @bbD<|ai @bbH<|ai @bbL<|ai @bbP<|ai @bbp<|ai @bbt<|ai @bbu<|ai @bcn<|@aOX
section
attribute[local irreducible] aX
def a9g:=bi 9 []
def a1l c g h i j a R:=aw 2 a c λt3=>fV aT5 a [t3,g,h] λt4=>bf t4 (iv 0) λk=>ah k (aE R a [(iv 5)]) (aO .neq t4 i λb=>fm b t4 λl=>fm b j λd=>az b (aO .neq l d) λe=>aD b e (bv I) λf=>ah f (aE R a [(iv 6)]) (aE R a [(iv 0)]))
def bgO{b:List AV}{c:AV}{d:AV}{e:AV}{f:AV}{R:d7}(l0:L b=2)(h:H1 143 2 5 b λg i=>a1l g c d e f i R):Ct 233 [.a b,c,d,e,f] R:=z1 a9g aNH Tryz.func233 l0 h
def a86:=bi 10 [(4,([4,5,6],[1]))]
def a0w b c R(n:cG)(h:fD) a:=∀_:Rg,ab 3 b c λo=>aJ b o λp=>aU (gt a 2) p λq=>ah q (ab 3 b c λr=>ao 4 b r (gt a 2) λi=>aw 4 b i λj=>fV (cX 252) b [j] λd=>rV (eO 0 d) λk=>rV (eO 1 d) λl=>aV (gt a 0) k λe=>rV (AO .max (gt a 1) l) λf=>aV (gt a 2) (iv 1) λg=>n [e,f,g]/\h [e,f,g]<h a) (aV (gt a 1) (iv 1) λm=>aE R b [(gt a 0),m])
def a0v a b R:=lR [(iv 1),(iv 0),(iv 0)] (a0w b a R)
def bgE{b:List AV}{R:d7}(l0:L b=4)(h:H1 217 4 1 b λc d=>a0v c d R):Ct 252 [.a b] R:=z1 a86 aNH Tryz.func252 l0 h
def a82:=bi 9 [(4,([3,4],[0]))]
def a0o s0 d R(i:cG)(e:fD) a:=∀_:Rg,aJ s0 d λt3=>aU (gt a 1) t3 λt4=>ah t4 (ao 11 s0 d (gt a 1) λj=>ab 9 s0 j λk=>fV (cX 174) s0 [k] λl=>aV (gt a 0) l λm=>ao 11 s0 d (gt a 1) λf=>ab 10 s0 f λg=>fV (cX 174) s0 [g] λh=>aV m h λb=>aV (gt a 1) (iv 1) λc=>i [b,c]/\e [b,c]<e a) (aE R s0 [(gt a 0)])
def a0n a s0 R:=aJ s0 a λt1=>lR [t1,(iv 0)] (a0o s0 a R)
def bgA{a:AV}{R:d7}(h:H0 λs0=>a0n a s0 R):Ct 174 [a] R:=z0 a82 aNH Tryz.func174 h
def a8X:=bi 14 [(7,([4],[1]))]
def aUR b d R(i:cG)(e:fD) a:=∀_:Rg,ab 3 b d λj=>aJ b j λk=>aU (gt a 0) k λl=>ah l (ab 3 b d λm=>ao 4 b m (gt a 0) λn=>aw 4 b n λf=>fV (cX 249) b [f] λg=>cf g λh=>ah h (aE R b [(bv I)]) (aV (gt a 0) (iv 1) λc=>i [c]/\e [c]<e a)) (aE R b [(bv U)])
def aSt a b R:=ab 0 b a λt4=>bf t4 (iv 2) λj=>bn j 0 b a λk=>aC j (bf k (iv 3)) λl=>aD j (bv U) l λi=>ab 0 b a λm=>fV aTZ b [m] λn=>ab 3 b a λo=>aJ b o λp=>aO .neq n p λc=>ic c i λq=>bn c 2 b a λr=>aC c (aO .neq r (sv [])) λs=>aC c (rV (wl .neq 1 [] q s)) λt=>aD c (bv U) t λe=>ic e i λu=>ic e u λf=>aT f 2 b a λv=>az f (fV aPd b [v]) λw=>az f (cf w) λx=>aC e (aD f x (bv I)) λy=>aD e (bv U) y λg=>bn g 1 b a λz=>aC g (aU z (iv 0)) λA=>aD g (bv U) A λd=>bn d 0 b a λB=>aC d (aO .neq B (iv 1)) λC=>ic d C λh=>aT h 1 b a λD=>az h (aO .neq D (iv 0)) λE=>aC d (aD h E (bv I)) λF=>aD d (bv U) F λG=>ah G (aE R b [(bv I)]) (lR [(iv 0)] (aUR b a R))
def bgv{b:List AV}{R:d7}(l0:L b=4)(h:H1 217 4 1 b λc d=>aSt c d R):Ct 249 [.a b] R:=z1 a8X aNH Tryz.func249 l0 h
def a9D:=bi 35 [(11,([59],[2,3,6])),(14,([78],[2,3,6])),(19,([98],[2,3,6])),(23,([108],[2,3,6]))]
def a2J a b e R f g:=∀_:Rg,ah (gt g 0) (ab 1 a b λh=>ab 4 a e λi=>aJ a i λj=>fV aN3 a [h,j] λk=>aE R a [k]) (bf f (iv 26) λl=>ah l (ab 1 a b λm=>ab 3 a e λn=>aJ a n λo=>fV aN3 a [m,o] λp=>aE R a [p]) (bf f (iv 27) λq=>ah q (ab 2 a b λr=>ab 3 a e λs=>aJ a s λt=>fV aN3 a [r,t] λu=>aE R a [u]) (bf f (iv 3) λv=>ah v (ab 4 a b λw=>bf w (iv 4) λc=>bn c 4 a b λx=>aC c (bf x (iv 5)) λy=>aD c (bv U) y λz=>aE R a [z]) (bf f (iv 4) λA=>ah A (ab 4 a b λB=>aO .geq B (iv 6) λd=>aT d 4 a b λC=>az d (aO .leq C (iv 18)) λD=>aD d D (bv I) λE=>aE R a [E]) (aE R a [(bv U)])))))
def a2N d(a:cG):=bf d (iv 24) λb=>ah b (a [b]) (bf d (iv 25) λc=>a [c])
def a2I a c d R i b:=∀_:Rg,ah (gt b 0) (ab 1 a c λe=>ab 2 a d λf=>aJ a f λg=>fV aN3 a [e,g] λh=>aE R a [h]) (jR 23 (a2J a c d R i) (a2N i))
def a2M e(a:cG):=bf e (iv 21) λb=>ah b (a [b]) (bf e (iv 22) λc=>ah c (a [c]) (bf e (iv 23) λd=>a [d]))
def a2H b c d R n e:=∀_:Rg,ah (gt e 0) (ab 1 b c λf=>ab 1 b d λg=>aJ b g λh=>fV aN3 b [f,h] λa=>aT a 1 b d λi=>aT a 1 b c λj=>az a (ao 2 b i j) λk=>aT a 1 b k λl=>aD a l (bv I) λm=>aE R b [m]) (jR 19 (a2I b c d R n) (a2M n))
def a2L e(a:cG):=bf e (iv 13) λb=>ah b (a [b]) (bf e (iv 14) λc=>ah c (a [c]) (bf e (iv 15) λd=>ah d (a [d]) (bf e (iv 16) λf=>a [f])))
def a2G a c d R k j:=∀_:Rg,ah (gt j 0) (ab 1 a c λl=>ab 1 a d λm=>aJ a m λn=>fV aN3 a [l,n] λb=>aT b 1 a d λo=>aT b 1 a c λe=>az b (ao 2 a o e) λf=>aT b 1 a f λg=>az b (cf g) λh=>aD b h (bv I) λi=>aE R a [i]) (jR 14 (a2H a c d R k) (a2L k))
def a2K d(b:cG):=bf d (iv 11) λa=>ah a (b [a]) (bf d (iv 12) λc=>b [c])
def a2F c b a R:=ab 0 a b λf=>bf f (iv 6) λK=>ah K (ab 2 a b λM=>ab 0 a c λg=>aJ a g λh=>fV aN3 a [M,h] λd=>aT d 0 a c λi=>aT d 2 a b λj=>az d (ao 5 a i j) λk=>aT d 2 a k λl=>az d (bf l (iv 0)) λm=>aD d m (bv I) λn=>aE R a [n]) (bf f (iv 8) λo=>ah o (ab 1 a b λp=>ab 0 a c λq=>aJ a q λr=>fV aN3 a [p,r] λe=>aT e 0 a c λs=>aT e 1 a b λt=>az e (ao 5 a s t) λu=>aT e 2 a u λv=>az e (bf v (iv 0)) λw=>aD e w (bv I) λx=>aE R a [x]) (bf f (iv 7) λy=>ah y (aw 6 a c λz=>ab 2 a b λA=>ab 4 a b λB=>fV aSg a [z,A,B] λC=>aE R a [C]) (bf f (iv 9) λD=>ah D (aw 6 a c λE=>ab 1 a b λF=>ab 4 a b λG=>fV aSg a [E,F,G] λH=>aE R a [H]) (jR 11 (a2G a b c R f) (a2K f)))))
def bha{b:List AV}{c:List AV}{R:d7}(l0:L b=6)(l1:L c=6)(h:H2 31 6 2 b 209 6 3 c λd e f=>a2F d e f R):Ct 165 [.a b, .a c] R:=z2 a9D aNH Tryz.func165 l0 l1 h
end
def aW8(p:xr)(t:Int)(s:ByteArray)(a b:Int)(f:PrB p):Ct 233 [.a p.c,iv t,st s,iv a,iv b] (λr=>∃k,r=iv k/\(k=0->a=5->b=5->0<=aOB p.A7 s)):=by refine bgO rfl λi h d g=>?_;simp+contextual only[a1l,u0,u1,d,gw,ar,Fa,aD6,f,aXX,a6n,↓uL];intro k e;(try simp only[mn,nl,bN,pk,aNS,aN2]);(repeat' (first|apply ai|intro _));all_goals first|omega|trivial|exact e (by omega)
def aOd:FT:=aTQ aW8
def bbQ{p t s a b Lw K}:=bbn aOd aW8 p t s a b Lw K (j:=by simp+contextual only[ij,Nb])
def aW0(e:fc)(f:∃n,C6 n e):Ct 252 [.a e.c] (λr=>aQ1 r):=by obtain⟨n,f⟩:=f;induction n generalizing e with|zero=>exact f.elim|succ n j=>have i:=f.len;refine bgE aN9 λp o g m=>?_;simp only[a0v];refine yh (λs:Int×Int×Nat=>[iv s.1,iv s.2.1,iv s.2.2]) 2 (L e.l) (λ_=>True) (1,0,0) trivial ?_;rintro⟨a,b,k⟩ _;simp only[a0w,aI,au,u0,u1,g,gw,aj,y9,bh,rr,jM,kU,jt,Fa,aO2,oe,o8,↓uL];intro h;have d:=aL h;refine⟨dJ d,aPW (j _ (f.2 _ (dB d))) (aV2 a6h) ?_⟩;rintro r ⟨x,y,rfl⟩;simp only[u0,u1,rr,aRW,lS];exact wN (enc:=λs:Int×Int×Nat=>[iv s.1,iv s.2.1,iv s.2.2]) (s:=(a,b,k)) (s':=(_,_,k+1)) (by rw[fX (by omega)]) rfl rfl d trivial
def aT6:FT:=om aW0
def bbI{e Lw K}:=qz aT6 aW0 e Lw K (j:=by simp+contextual only[ij,Nb])
def aWW(l:List eo)(d:∃n,shL n 8 l):Ct 174 [sl eo.c l] (λr=>isI r):=by obtain⟨n,d⟩:=d;induction n using Nat.strongRecOn generalizing l with|ind n f=>obtain⟨j,g⟩:=d;refine bgA λs0 o i=>?_;simp only[a0n,u0,u1,↓uL];refine yh (λs:Int×Nat=>[iv s.1,iv s.2]) 1 (L l) (λ_=>True) (L l,0) trivial ?_;rintro⟨a,k⟩ _;simp only[a0o,aI,au,u0,u1,y9,rr,gw,bh,jM,kU,jt,alg,aPG,oe,o8,↓uL];intro h;have b:=aL h;obtain⟨m,rfl,g1,e⟩:=(g _ (dB b)).body;refine⟨dJ b,aPW (f m (by omega) _ ⟨by have:=g1.1;omega,g1.2⟩) rfl ?_⟩;rintro r ⟨x,rfl⟩;simp only[u0,u1,AL,lS];refine⟨dJ b,aPW (f m (by omega) _ ⟨by have:=e.1;omega,e.2⟩) rfl ?_⟩;rintro r ⟨y,rfl⟩;simp only[u0,u1,AL,lS];exact wN (enc:=λs:Int×Nat=>[iv s.1,iv s.2]) (s:=(a,k)) (s':=(_,k+1)) (by rw[fX (by omega)]) rfl rfl b trivial
def aT4:FT:=om aWW
def bbE{l Lw K}:=qz aT4 aWW l Lw K (j:=by simp+contextual only[ij,Nb])
def aWS(e:fc)(g:∃n,C6 n e):Ct 249 [.a e.c] (λr=>isB r):=by obtain⟨n,g⟩:=g;induction n generalizing e with|zero=>exact g.elim|succ n o=>have m:=g.len;refine bgv aN9 λq u i s=>?_;have d:lR [iv 0] (aUR q (.p (1,1) 0 0) λr=>isB r):=(by refine C7 (L e.l) (λ_=>True) trivial λk t _=>?_;simp only[aUR,aI,au,u0,u1,i,gw,aj,y9,bh,rr,jM,kU,jt,Fa,aNP,oe,o8,↓uL];intro h;have f:=aL h;refine⟨dJ f,aPW (o _ (g.2 _ (dB f))) (aV2 a6h) ?_⟩;rintro r ⟨x,rfl⟩;simp only[u0,u1,AL,lS,oe];exactλ_=>gS f (by omega) trivial);have b:e.op=2\/e.op=3\/(e.op≠2/\e.op≠3):=(by omega);rcases b with b|b|⟨j,b⟩;simp+contextual only[aSt,u0,u1,i,gw,ar,aD6,aj,rr,aRB,aNP,oe,b,aNK,d,ya,Bool.and_self,↓jN,↓uL];simp+contextual only[aSt,u0,u1,i,gw,ar,aD6,aj,rr,aRB,aNP,oe,b,aNK,aB9,wY,d,Int.reduceEq,ya,Bool.and_self,↓jA,↓uL];simp+contextual only[aSt,u0,u1,i,gw,ar,aD6,aj,rr,aRB,aNP,oe,j,b,aB9,d,Aa,Bool.and_self,↓jA,↓jN,↓uL]
def aRh:FT:=om aWS
def bbA{e Lw K}:=qz aRh aWS e Lw K (j:=by simp+contextual only[ij,Nb])
def aXn(w:br)(i:lF):Ct 165 [.a w.c, .a i.c] (λr=>isB r):=by refine bha rfl rfl λg f b d e=>?_;simp+contextual (maxSteps:=2000000) only[a2J,a2N,a2I,a2M,a2H,a2L,a2G,a2K,a2F,f8,au,u0,u1,b,d,ix,rk,gw,ar,aD6,aj,rr,aNP,DR,oe,vg,↓uL];(try simp only[mn,nl,bN,pk,aNS,aN2]);(repeat' (first|apply ai|intro _));all_goals first|omega|trivial
def aUf:FT:=aRd aXn
def bb5{w i Lw K}:=aWg aUf aXn w i Lw K (j:=by simp+contextual only[ij,Nb])
def a7y:dO:=(233,aOd)::(252,aT6)::(174,aT4)::(249,aRh)::(165,aUf)::a7x
def aR1:eJ a7y:=it (bhJ aW8) (it (rj aW0 (λ_=>by simp only[Cs,aqG,aOW,Bool.and_self])) (it (rj aWW (λ_=>by simp only[Cs,aqG,aOW,Bool.and_self])) (it (rj aWS (λ_=>by simp only[Cs,aqG,aOW,Bool.and_self])) (it (aYm aXn) (aNH)))))
def aRO:=ai @bbQ<|ai @bbI<|ai @bbE<|ai @bbA<|ai @bb5<|@aD6
section
attribute[local irreducible] aX
def a9a:=bi 13 [(2,([7],[1,3,5])),(8,([7,8],[1,3,5]))]
def aUU b d h q R(p:cG)(g:fD) a:=∀_:Rg,ab 3 b d λr=>aJ b r λs=>aU (gt a 1) s λc=>fm c (gt a 0) λi=>az c (bf i (iv 0)) λj=>aD c j (bv I) λk=>ah k (aw 2 b h λl=>ab 3 b d λm=>ao 4 b m (gt a 1) λn=>aw 4 b n λo=>fV (cX 253) b [l,q,o] λe=>aV (gt a 1) (iv 1) λf=>p [e,f]/\g [e,f]<g a) (aE R b [(gt a 0)])
def a0P e a b d R c:=∀_:Rg,lR [(gt c 0),(iv 0)] (aUU e a b d R)
def a0Q a b c f(e:cG):=ab 0 a b λd=>bf d (iv 2) λg=>ah g (aw 2 a c λh=>ab 2 a b λi=>fV aOd a [h,f,i,(iv 8),(iv 1)] λj=>e [j]) (bf d (iv 3) λk=>ah k (aw 2 a c λl=>ab 2 a b λm=>fV aOd a [l,f,m,(iv 2),(iv 2)] λn=>e [n]) (e [(iv 0)]))
def a0O b c a d R:=jR 2 (a0P d a b c R) (a0Q d a b c)
def bgI{b:List AV}{d:AV}{c:List AV}{R:d7}(l0:L b=2)(g:L c=4)(h:H2 143 2 3 b 217 4 5 c λe f i=>a0O e d f i R):Ct 253 [.a b,d, .a c] R:=z2 a9a aR1 Tryz.func253 l0 g h
def a8Y:=bi 23 []
def aUS b a R:=ab 0 a b λt4=>aU t4 (iv 1) λt5=>bn t5 0 a b λbb=>aC t5 (aO .gtr bb (iv 15)) λbc=>aD t5 (bv U) bc λbd=>ah bd (aE R a [(bv I)]) (ab 0 a b λbe=>bf be (iv 2) λx=>bn x 0 a b λbg=>aC x (bf bg (iv 3)) λbi=>aD x (bv U) bi λy=>bn y 0 a b λbj=>aC y (bf bj (iv 7)) λbk=>aD y (bv U) bk λz=>bn z 0 a b λbl=>aC z (bf bl (iv 8)) λbm=>aD z (bv U) bm λu=>aT u 2 a b λbo=>az u (aO .neq bo (sv [])) λbp=>aD u bp (bv I) λm=>ic m u λbq=>aC m (cf bq) λbr=>ic m br λv=>aT v 2 a b λbs=>az v (fV aPd a [bs]) λbt=>az v (cf bt) λbu=>aC m (aD v bu (bv I)) λbw=>aD m (bv U) bw λbx=>ah bx (aE R a [(bv I)]) (ab 0 a b λbz=>bf bz (iv 15) λw=>aT w 3 a b λbA=>az w (fV aPd a [bA]) λbB=>az w (cf bB) λbC=>aD w bC (bv I) λn=>bn n 0 a b λA=>aC n (aO .neq A (iv 15)) λB=>ic n B λo=>aT o 3 a b λC=>az o (aO .neq C (sv [])) λD=>aC n (aD o D (bv I)) λE=>aD n (bv U) E λF=>ah F (aE R a [(bv I)]) (ab 4 a b λG=>aJ a G λH=>aO .gtr H (iv 1) λf=>bn f 0 a b λK=>aC f (aO .neq K (iv 1)) λM=>ic f M λj=>aT j 4 a b λN=>az j (aJ a N) λO=>az j (aO .gtr O (iv 0)) λP=>aC f (aD j P (bv I)) λS=>aD f (bv U) S λc=>bn c 4 a b λT=>aC c (aJ a T) λW=>aC c (bf W (iv 1)) λX=>ic c X λd=>aT d 4 a b λZ=>az d (ao 4 a Z (iv 0)) λaa=>az d (aw 4 a aa) λac=>az d (fV aRh a [ac]) λad=>az d (cf ad) λae=>aC c (aD d ae (bv I)) λaf=>aD c (bv U) af λag=>ah ag (aE R a [(bv I)]) (ab 0 a b λak=>bf ak (iv 1) λp=>bn p 0 a b λal=>aC p (bf al (iv 2)) λam=>aD p (bv U) am λq=>bn q 0 a b λan=>aC q (bf an (iv 3)) λap=>aD q (bv U) ap λr=>bn r 0 a b λaq=>aC r (bf aq (iv 14)) λar=>aD r (bv U) ar λe=>az e (aB 5 a b) λau=>az e (aw 4 a au) λav=>az e (fV aRh a [av]) λax=>az e (cf ax) λay=>aD e ay (bv I) λg=>ic g e λaA=>aC g (cf aA) λaF=>ic g aF λh=>az h (aB 5 a b) λaG=>az h (aw 4 a aG) λaI=>az h (fV aT2 a [aI]) λaK=>az h (cf aK) λaL=>aC g (aD h aL (bv I)) λaM=>aD g (bv U) aM λaN=>ah aN (aE R a [(bv I)]) (ab 0 a b λaP=>aO .geq aP (iv 2) λs=>aT s 0 a b λaQ=>az s (aO .leq aQ (iv 8)) λaR=>aD s aR (bv I) λaV=>cf aV λk=>aT k 9 a b λaW=>az k (aJ a aW) λaX=>az k (aO .gtr aX (iv 0)) λaY=>aD k aY (bv I) λi=>bn i 0 a b λaZ=>aC i (aO .neq aZ (iv 2)) λa0=>ic i a0 λl=>aT l 10 a b λa1=>az l (aJ a a1) λa2=>az l (aO .gtr a2 (iv 0)) λa3=>aC i (aD l a3 (bv I)) λa4=>aD i (bv U) a4 λa5=>ah a5 (aE R a [(bv I)]) (ab 9 a b λa6=>fV (cX 203) a [a6] λt=>aT t 10 a b λa7=>az t (fV (cX 203) a [a7]) λa8=>aD t a8 (bv I) λa9=>aE R a [a9]))))))
def bgw{b:List AV}{R:d7}(l0:L b=11)(h:H1 219 11 1 b λc d=>aUS c d R):Ct 230 [.a b] R:=z1 a8Y aR1 Tryz.func230 l0 h
def a8Z:=bi 10 [(3,([3],[0]))]
def a0h s0 b R(d:cG)(m1:fD) a:=∀_:Rg,aJ s0 b λe=>aU (gt a 0) e λt3=>ah t3 (ao 11 s0 b (gt a 0) λt4=>aw 11 s0 t4 λf=>fV (cX 230) s0 [f] λg=>cf g λh=>ah h (aE R s0 [(bv I)]) (aV (gt a 0) (iv 1) λc=>d [c]/\m1 [c]<m1 a)) (aE R s0 [(bv U)])
def a0g a s0 R:=lR [(iv 0)] (a0h s0 a R)
def bgx{a:AV}{R:d7}(h:H0 λs0=>a0g a s0 R):Ct 203 [a] R:=z0 a8Z aR1 Tryz.func203 h
def a9F:=bi 30 [(7,([8],[1,3,5,7])),(23,([11],[1,3,5,7,8,10]))]
def a2T a d r R g(q:aG)(h:bu) s(i:cG)(c:fD) b:=∀_:Rg,aJ a d λj=>aU (gt b 0) j λk=>ah k (ao 1 a d (gt b 0) λl=>aM a l λm=>ab 0 a r λn=>fV aN3 a [m,n] λo=>cf o λp=>ah p (aE R a [(bv I)]) (aV (gt b 0) (iv 1) λe=>i [e]/\c [e]<c b)) (aV (gt g 0) (iv 1) λf=>q [f] a/\h [f] a<h g s)
def a2S b m t7 o p R a1 am an ap a:=ab 0 a b λaq=>aU aq (iv 1) λn=>bn n 0 a b λar=>aC n (aO .gtr ar (iv 28)) λau=>aD n (bv U) au λe=>bn e 0 a b λav=>aC e (bf av (iv 28)) λax=>ic e (gt m 0) λay=>ic e t7 λaA=>aC e (aO .sub aA (iv 1)) λaB=>aC e (bf ay aB) λaF=>aC e (rV (wl .neq 1 [] ax aF)) λaG=>aD e (bv U) aG λj=>aC j (aw 6 a o) λaI=>aC j (aw 6 a b) λaK=>aC j (fV aUf a [aI,aK]) λaL=>aC j (cf aL) λaM=>aD j (bv U) aM λk=>bn k 1 a p λaN=>ic k (gt m 0) λaP=>aC k (fV aUe a [aN,aP]) λaQ=>aC k (cf aQ) λaR=>aD k (bv U) aR λq=>ah q (aE R a [(bv I)]) (ab 0 a b λr=>bf r (iv 28) λl=>aT l 5 a b λs=>az l (aO .neq s (iv (-1))) λt=>aD l t (bv I) λf=>bn f 0 a b λu=>aC f (aO .neq u (iv 28)) λv=>ic f v λc=>aT c 5 a b λw=>aT c 5 a o λx=>az c (aJ a x) λy=>az c (fV aN3 a [w,y]) λz=>az c (cf z) λA=>fm c A λd=>bn d 5 a o λB=>bn d 5 a b λC=>aC d (ao 3 a B C) λD=>bn d 0 a D λE=>ic d a1 λF=>aC d (aO .neq E F) λG=>az c (aD d (bv U) G) λH=>aC f (aD c H (bv I)) λK=>aD f (bv U) K λM=>ah M (aE R a [(bv I)]) (ab 0 a b λN=>bf N (iv 5) λg=>aT g 1 a b λO=>fm g t7 λP=>az g (fV aN3 a [O,P]) λS=>az g (cf S) λT=>aD g T (bv I) λh=>bn h 0 a b λW=>aC h (bf W (iv 10)) λX=>ic h X λi=>aT i 2 a b λZ=>fm i t7 λaa=>az i (fV aN3 a [Z,aa]) λac=>az i (cf ac) λad=>aC h (aD i ad (bv I)) λae=>aD h (bv U) ae λaf=>ah af (aE R a [(bv I)]) (aw 6 a b λag=>fV aRj a [ag] λak=>lR [(iv 0)] (a2T a ak p R m am an ap))))
def a2U l d m R n e f b a:=∀_:Rg,aU (gt b 0) l λh=>ah h (ab 1 a d λi=>ao 6 a i (gt b 0) λj=>aw 6 a j λk=>eV (bs 209 Py a 9) λc g=>sV (aK 6 g c k) (a2S c b l m d R n e f a)) (aE R a [(bv U)])
def a2R k l a b R:=ab 1 b a λm=>aJ b m λj=>ab 0 b a λn=>aU n (iv 0) λc=>bn c 0 b a λe=>aC c (aO .gtr e (iv 32)) λf=>aD c (bv U) f λd=>ic d j λg=>aC d (bf g (iv 0)) λh=>aD d (bv U) h λi=>ah i (aE R b [(bv I)]) (lV [(iv 0)] b (a2U j a k R l))
def bhb{b:List AV}{d:AV}{c:List AV}{R:d7}(l0:L b=6)(g:L c=2)(h:H2 31 6 3 b 192 2 5 c λe f i=>a2R e d f i R):Ct 116 [.a b,d, .a c] R:=z2 a9F aR1 Tryz.func116 l0 g h
end
def aW4(p:xr)(t:Int)(e:fc)(d:PrB p/\∃n,C6 n e):Ct 253 [.a p.c,iv t, .a e.c] (λr=>isI r):=by obtain⟨j,n,d⟩:=d;induction n generalizing e with|zero=>exact d.elim|succ n o=>have m:=d.len;refine bgI rfl aN9 λq v g i u=>?_;have f:∀x:Int,lR [iv x,iv 0] (aUU q (.p (5,1) 0 0) (.p (3,1) 0 0) (iv t) λr=>isI r):=(by intro x;refine yh (λs:Int×Nat=>[iv s.1,iv s.2]) 1 (L e.l) (λ_=>True) (x,0) trivial ?_;rintro⟨a,k⟩ _;simp+contextual only[aUU,aI,au,u0,u1,g,i,gw,aj,y9,bh,rr,jM,kU,jt,Fa,aPG,tW,oe,o8,↓uL];intro h;have b:k<L e.l:=(by simp at h;exact h.1);refine⟨dJ b,aPW (o _ (d.2 _ (dB b))) (by simp only[Cs,aqG,aOW,Bool.and_self]) ?_⟩;rintro r ⟨y,rfl⟩;simp only[AL,lS];exact wN (enc:=λs:Int×Nat=>[iv s.1,iv s.2]) (s:=(a,k)) (s':=(y,k+1)) (by rw[fX (by omega)]) rfl rfl b trivial);simp+contextual only[a0O,f8,a0Q,a0P,aI,au,u0,u1,g,i,gw,aj,aRO,j,aXX,AL,ar,Fa,f,oe,vg,↓uL]
def aT8:FT:=vn aW4
def bbM{p t e Lw K}:=zZ aT8 aW4 p t e Lw K (j:=by simp+contextual only[ij,Nb])
def aX1(n:Nat)(h:∀s,A5 n s->Ct 230 [.a s.c] isB)(l:List eo)(j:L l<=8)(e:∀s∈l,A5 n s):Ct 203 [sl eo.c l] isB:=by refine bgx λs0 f g=>?_;simp only[a0g];refine C7 (L l) (λ_=>True) trivial λk i _=>?_;simp only[a0h,aI,au,u0,u1,y9,bh,rr,gw,jM,kU,jt,Fa,aNP,oe,o8,↓uL];intro d;have b:=aL d;refine⟨dJ b,aPW (h _ (e _ (dB b))) (aV2 aS7) ?_⟩;rintro r ⟨x,rfl⟩;simp only[u0,u1,AL,lS,oe];exactλ_=>gS b (by omega) trivial
set_option maxHeartbeats 8000000 in
def a7f:∀(n:Nat) (s:eo),A5 n s->Ct 230 [.a s.c] isB:=by intro n;induction n with|zero=>intro s h;exact h.elim|succ n u=>intro s q;have o:=q.at;obtain⟨m,C,g1,l⟩:=q.body;obtain rfl:n=m:=(by omega);refine bgw WV λd B f A=>?_;have hI:Q ((L s.index:Int)=1)=U->∃n,C6 n (gd s.index 0):=λh=>⟨2,o.2.2.1 _ (dB (by simp at h;omega))⟩;have w:s.op=1\/s.op=2\/s.op=3\/s.op=14->∃n,C6 n s.expr:=λh=>⟨2,o.1 h⟩;have k:fW (cX 203) [sl eo.c s.body] (lo d [sl eo.c s.body]) (λb=>gR (gP U b) (λg=>g (AV.p (1,1) 0 10)) λt=>gR (gP U b) (λg=>rV (kb J d t) λv=>g v) λe=>gR (gP U b) (λg=>fW (cX 203) [dG d e] (lo d [e]) λv=>g v) λi=>rV (mL b i (bv I)) λj=>aE isB d [j]):=(by refine aPW (aX1 n u _ (by have:=g1.1;omega) g1.2) rfl ?_;rintro r ⟨x,rfl⟩;(cases x);simp only[u0,AL,Aa,aNP,u1,jN,lS];simp only[u0,u1,AL,lS,jA,f,gw,alg,ya];refine aPW (aX1 n u _ (by have:=l.1;omega) l.2) rfl ?_;rintro r ⟨y,rfl⟩;simp only[AL,u1,aNP,lS]);have cs:(Q (s.op<1)||Q (15<s.op))=U\/s.op=1\/s.op=2\/s.op=3\/s.op=4\/s.op=5\/s.op=6\/s.op=7\/s.op=8\/s.op=9\/s.op=10\/s.op=11\/s.op=12\/s.op=13\/s.op=14\/s.op=15:=(by simp only[fH,mn];omega);rcases cs with h|h|h|h|h|h|h|h|h|h|h|h|h|h|h|h;simp+contextual only[aUS,u0,u1,f,gw,aj,h,aNP,↓iC,↓uL];trace_state;all_goals(try have z:=w (by omega));simp+contextual only[aUS,u0,u1,f,rk,gw,ar,Fa,aRO,aj,rr,rg,y9,Int.toNat_zero,aRB,aNP,h,k,aNK,aB9,Int.reduceLT,Int.reduceEq,Int.reduceLE,aN2,be3,be7,ya,Aa,↓jA,↓jN,Bool.and_self,oe,o8,↓uL];(try simp only[aF,mn,nl,bN,fH,cP,pk,aNS,eH,fK]);(repeat' (first|apply ai|intro _));all_goals first|omega|trivial|exact hI (by simp;omega)
def a6L(s:eo)(b:∃n,A5 n s):Ct 230 [.a s.c] (λr=>isB r):=by obtain⟨n,b⟩:=b;exact a7f n s b
def a8a:FT:=om a6L
def aWT(l:List eo)(a:∃n,shL n 8 l):Ct 203 [sl eo.c l] (λr=>isB r):=by obtain⟨n,a⟩:=a;exact aX1 n (a7f n) l a.1 a.2
def aT1:FT:=om aWT
def bbB{l Lw K}:=qz aT1 aWT l Lw K (j:=by simp+contextual only[ij,Nb])
def aYh(c:A2):Prop:=0<=c.li/\c.li<=32/\∀k,k<L c.No->∀j∈A1 (gd c.No k),0<=j/\j<c.li
def aTv{P:Bool->Prop}{Q:d7}:(∀r,(∃b:Bool,r=bv b/\P b)->Q r)=∀b,P b->Q (bv b):=vb ⟨λh k a=>h _ ⟨k,rfl,a⟩,by rintro h r ⟨k,rfl,a⟩;exact h k a⟩
def aPA{a:Bool}{p:Bool->Prop}:(∃k,bv a=bv k/\p k)=p a:=vb ⟨by rintro⟨k,h,b⟩;simp at h;rw[h];exact b,λh=>⟨a,rfl,h⟩⟩
def bd5{l:List Int}{Q:d7}:(∀r,aRU l r->Q r)=∀t o,Q (.l (l.map ci) t o):=QS
def bdN{Y:ae}{x:lF}{r:AV}:lo Y [.a x.c] r=True:=by simp[lo,nA,eB,iR,lF.c]
def aXo(w:br)(t:Int)(c:A2)(P:L c.No<1000000):Ct 116 [.a w.c,iv t, .a c.c] (λr=>∃b,r=bv b/\(b=U->aYh c)):=by refine bhb rfl rfl λR N D m W=>?_;simp+contextual only[a2R,u0,u1,m,gw,ar,aj,aPA,eE,vp,oe,↓uL];intro l;refine yV (L c.No) (λk _ Y=>Fx R Y []/\∀C,C<k->∀j∈A1 (gd c.No C),0<=j/\j<c.li) ⟨Fx.refl _ _,by simp⟩ ?_;rintro k _ Y M ⟨F,hI⟩;have A:L Y=4096:=F.len.trans N;have G:=F.kq D;have n:=F.kq m;simp only[a2U,aI,au,u0,u1,n,rk,gw,aj,y9,bh,aPA,↓uL];refine⟨λh=>⟨bA h,anu A λv T g S E=>?_⟩,λh _=>?_⟩;(focus have B:=aL h;have H:=g.kq G;have p:=g.kq n;simp+contextual only[a2S,au,u0,u1,H,p,E,ix,rk,gw,ar,Fa,aRO,aj,rr,rg,aPA,bd5,bdN,P,eE,vp,oe,↓uL];refineλx y _=>⟨λh=>dX.1 (by simp at h;simpa using h.2.2),λ_ _ Z o=>?_⟩;refine C7 (L (A1 (gd c.No k))) (λi=>∀d,d<i->0<=gd (A1 (gd c.No k)) d/\gd (A1 (gd c.No k)) d<c.li) (by simp) λi X u=>?_;have O:L (A1 (gd c.No k))<=3:=(by unfold A1;simp only[cond_eq_ite];(repeat' split);all_goals simp);simp only[a2T,aI,au,u0,u1,gT,tf,rk,gw,p,bh,aj,ar,aRO,rr,aPA,eE,vp,oe,↓uL];refine⟨λe=>⟨bA e,λq=>gS (aL e) (by omega) (jf u (by simp[dh] at q;exact q))⟩,λe=>?_⟩;refine dR (mk:=λ(_:Unit) i=>[iv i]) (s:=()) (s':=()) (λ_ _=>rfl) B (by omega) ⟨F.trans g,jf hI λj K=>?_⟩;obtain⟨d,f,rfl⟩:=ou K;rw[<-bT f];exact u d (C3 f (bw e)));simp at l;have z:k=L c.No:=bP M (bw h);subst z;exact⟨by omega,by omega,hI⟩
def aUg:FT:=vn aXo
def bb6{w t c Lw K}:=zZ aUg aXo w t c Lw K (j:=by simp+contextual only[ij,Nb])
def a7z:dO:=(253,aT8)::(230,a8a)::(203,aT1)::(116,aUg)::a7y
def aTB:eJ a7z:=it (By aW4 (λ_ _ _=>by simp only[Cs,aqG,aOW,Bool.and_self])) (it (rj a6L (λ_=>by simp only[Cs,aqG,aOW,Bool.and_self])) (it (rj aWT (λ_=>by simp only[Cs,aqG,aOW,Bool.and_self])) (it (By aXo) (aR1))))
def aQT:=ai @bbM<|ai @bbB<|ai @bb6<|@aRO
section
attribute[local irreducible] aX
def a8W:=bi 27 [(3,([3],[1])),(11,([4],[1])),(18,([6],[1,4,5]))]
def a0j a b R e(j:aG)(f:bu) l(k:cG)(g:fD) c:=∀_:Rg,ab 2 a b λm=>aJ a m λn=>aU (gt c 0) n λo=>ah o (ab 2 a b λp=>ao 1 a p (gt c 0) λq=>aM a q λr=>fV aPd a [r] λs=>cf s λt=>ah t (aE R a [(bv I)]) (aV (gt c 0) (iv 1) λh=>k [h]/\g [h]<g c)) (ab 0 a b λu=>fV aPd a [u] λv=>cf v λd=>bn d 3 a b λw=>aC d (fV aT1 a [w]) λx=>aC d (cf x) λy=>aD d (bv U) y λz=>ah z (aE R a [(bv I)]) (aV (gt e 0) (iv 1) λi=>j [i] a/\f [i] a<f e l))
def a0i c R e f b a:=∀_:Rg,ab 1 a c λi=>aJ a i λj=>aU (gt b 0) j λk=>ah k (ab 1 a c λl=>ao 4 a l (gt b 0) λm=>aw 4 a m λn=>eV (bs 203 aPM a 5) λd g=>sV (aK 4 g d n) λh=>lR [(iv 0)] (a0j h d R b e f a)) (ab 1 a c λo=>aJ a o λp=>aO .gtr p (iv 0) λq=>aE R a [q])
def a0k a c R(j:cG)(e:fD) b:=∀_:Rg,ab 0 a c λk=>aJ a k λl=>aU (gt b 0) l λm=>ah m (ab 0 a c λn=>ao 6 a n (gt b 0) λf=>aw 6 a f λg=>fV aT3 a [g] λh=>cf h λi=>ah i (aE R a [(bv I)]) (aV (gt b 0) (iv 1) λd=>j [d]/\e [d]<e b)) (lV [(iv 0)] a (a0i c R))
def a0f a b R:=lR [(iv 0)] (a0k b a R)
def bgu{b:List AV}{R:d7}(l0:L b=2)(h:H1 143 2 1 b λc d=>a0f c d R):Ct 171 [.a b] R:=z1 a8W aTB Tryz.func171 l0 h
def a84:=bi 9 []
def a0r d n b a R:=aw 4 a b λo=>fV aRh a [o] λp=>cf p λq=>ah q (aE R a [(iv 3)]) (aw 4 a b λr=>fV aT6 a [r] λm=>rV (eO 0 m) λe=>rV (eO 1 m) λf=>aO .gtr e (iv 24) λc=>ic c f λg=>aC c (aO .gtr g (iv 6)) λh=>aD c (bv U) h λi=>ah i (aE R a [(iv 2)]) (aw 2 a d λj=>aw 4 a b λk=>fV aT8 a [j,n,k] λl=>aE R a [l]))
def bgC{b:List AV}{d:AV}{c:List AV}{R:d7}(l0:L b=2)(g:L c=4)(h:H2 143 2 3 b 217 4 5 c λe f i=>a0r e d f i R):Ct 234 [.a b,d, .a c] R:=z2 a84 aTB Tryz.func234 l0 g h
def a9p:=bi 13 [(6,([3],[1]))]
def a1O b c R(f:cG)(d:fD) a:=∀_:Rg,ab 6 b c λg=>aJ b g λh=>aU (gt a 0) h λi=>ah i (aB 0 b c λj=>aw 6 b j λk=>ab 6 b c λl=>ao 2 b l (gt a 0) λm=>aw 2 b m λn=>fV aUg b [k,(gt a 0),n] λo=>cf o λp=>ah p (aE R b [(bv I)]) (aV (gt a 0) (iv 1) λe=>f [e]/\d [e]<d a)) (aE R b [(bv U)])
def a1N c a R:=aB 0 a c λt3=>aw 6 a t3 λt4=>fV FC a [t4] λk=>cf k λb=>bn b 6 a c λd=>aC b (aJ a d) λe=>aC b (aB 0 a c) λf=>bn b 4 a f λg=>aC b (aJ a g) λh=>aC b (aO .neq e h) λi=>aD b (bv U) i λj=>ah j (aE R a [(bv I)]) (lR [(iv 0)] (a1O a c R))
def bgX{b:List AV}{R:d7}(l0:L b=7)(h:H1 92 7 1 b λc d=>a1N c d R):Ct 70 [.a b] R:=z1 a9p aTB Tryz.func70 l0 h
end
end Go.Ab
