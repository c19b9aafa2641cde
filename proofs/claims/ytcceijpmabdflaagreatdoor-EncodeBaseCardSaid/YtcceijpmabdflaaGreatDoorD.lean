/- Part of the proof of EncodeBase. -/
import Derived.Test.YtcceijpmabdflaaGreatDoorC
import Derived.Laws.RangeString
import Derived.Laws.RangeAny
set_option linter.all false
set_option maxRecDepth 100000
open And renaming intro->ai
open Bool renaming and_assoc->BI,and_eq_true->bN,and_true->ru,false->I,false_and->kM,false_eq_true->eE,false_or->lG,not_eq_false'->fK,not_eq_true'->eH,not_false->kN,not_true->fh,or_eq_false_iff->cP,or_eq_true->fH,or_false->kz,true->U,true_and->iw
open Decidable renaming decide->Q,not_not->aNS
open Eq renaming mpr->aND
open Go.Code renaming region->BM,ret->ET
open Go.IntKind renaming i64->dq
open Go.Proofs.Tryz renaming prog->aS
open Int renaming toNat_natCast->bh,toNat_of_nonneg->kA
open List renaming any_eq_true->tL,append_assoc->bje,append_inj->aqH,append_nil->cL,cons_append->zn,drop->aOz,drop_succ_cons->nM,drop_zero->iy,ext_getElem->biF,findIdx?_eq_none_iff->GB,findIdx?_eq_some_iff_getElem->RL,findIdx?_isSome->RM,getD_eq_getElem?_getD->eI,getElem?_eq_getElem->eC,getElem?_set_ne->oq,getElem_of_mem->ou,length->L,length_append->a6G,length_cons->bZ,length_filter_le->fZ,length_map->bJ,length_nil->aO1,length_pos_iff->aqS,length_replicate->oA,length_set->zq,length_singleton->GJ,map_append->dg,map_congr_left->ja,map_cons->ji,map_drop->GK,map_map->vA,map_nil->mU,mem_append->dF,mem_cons->eW,mem_filter->jW,mem_map->dN,mem_range->fq,mem_singleton->cE,nil_append->dW,not_mem_nil->ql,range->aH,range_succ->qn,replicate->er,take_length->gV,take_of_length_le->oB,take_succ_eq_append_getElem->iJ
open Nat renaming eq_zero_or_pos->oD,le_antisymm->bP,le_refl->dA,le_trans->gl,lt_of_le_of_lt->rC,lt_of_lt_of_le->bkb,lt_or_ge->jj,reduceAdd->dc,zero_add->aj
open Option renaming bind_some->aQd,getD_none->sD,getD_some->mi,isSome_iff_exists->zz,map_some->df,none->J,some->V,some.injEq->bE
namespace Go.Ab
open Go Go.RowKit Go.Proofs
def my(ns:List aH8)(x y:Nat):List (List Int):=if x<y then[[lB ns x y,lB ns y x]] else[]
def jy(ns:List aH8)(n x:Nat):List (List Int):=(aH n).flatMap<|my ns x
def kY(ns:List aH8)(w:am)(y:Nat):List (List Int):=if 0<=lw w.ac y then[[lB ns (lw w.ac y) y],[-lE ns y,lE ns<|lw w.ac y]] else[]
def mA(ns:List aH8)(w:am)(j:Nat):List (List Int):=if 0<=kr w j then[[-lE ns j,lE ns<|kr w j],[-lE ns j,lB ns (kr w j) j]] else[]
def bqD(ns:List aH8)(w:am):List (List Int):=(aH<|L w.ac).flatMap (jy ns<|L w.ac)++((aH<|L w.ac).flatMap (kY ns w)++(aH<|L w.ac).flatMap (mA ns w))
def sj(Y:ae)(b:Id)(w:am)(ns:List aH8)(out cl:List<|List Int)(n a:AV):be:=λr c=>∃a1,r= .t []/\cm c b w ns (out++cl) n a1/\Ad Y c b a a1
section
variable{Y:ae}{b:Id}{w:am}{ns:List aH8}{out:List (List Int)}{n a:AV}{d:Nat}{K:be}
def ub{fn:Nat}{xs:List AV}{cl:List (List Int)}(j:uQ.elem fn=I)(h:∃r c,sj Y b w ns out cl n a r c/\cZ aS GG fn xs Y r c)(i:∀e c,cm c b w ns (out++cl) n e->Ad Y c b a e->K (.t []) c):cB fn xs Y d K:=by refine jH j h ?_;rintro r c ⟨e,rfl,g,f⟩;exact⟨f.fx.len,i e c g f⟩
theorem aCP(B:cm Y b w ns out n a)(c:L ns<100000)(hw:L w.ac<=16)(Z:L out+L (bqD ns w)<1000000000):∃r C,sj Y b w ns out (bqD ns w) n a r C/\cZ aS GG 96 [.p b 0 0] Y r C:=by refine aMv B.le ?_;have bx:=B.bx;simp only[bqD,a6G] at Z;simp only[JI,aPF bx,u0,u1,bx,rkB,aj,cT,↓uL];refine yV (L w.ac) (λk _ Y'=>∃e,cm Y' b w ns (out++(aH k).flatMap (jy ns<|L w.ac)) n e/\Ad Y Y' b a e) (by grind [Ad.refl]) ?_;rintro k _ C u ⟨a1,O,M⟩;have l1:=fU (f:=jy ns<|L w.ac) u;simp+contextual only[qz 19,au,aI,u0,u1,cT,↓uL];refine⟨λh=>?_,λh=>?_⟩;have G:=aL h;rw[fX<|by omega];have H:=fU (f:=jy ns<|L w.ac) (show k+1<=L w.ac by omega);rw[aNG,a6G] at H;have ad:L ((aH<|L w.ac).flatMap<|my ns k)=L (jy ns (L w.ac) k):=rfl;refine AI (α:=Unit) (λ_ i=>[iv i]) 0 (L w.ac) (k+1) (by omega) (λj _ Y'=>∃e,cm Y' b w ns (out++(aH k).flatMap (jy ns<|L w.ac)++(aH j).flatMap (my ns k)) n e/\Ad Y Y' b a e/\k<j) (s0:=()) ⟨a1,by rw[aol (k:=k+1) (by grind [my]),cL];exact O,M,by omega⟩ ?_;rintro j _ P X ⟨D,o,s,ab⟩;have l2:=fU (f:=my ns k) X;simp+contextual only[qz 55,au,aI,u0,u1,cT,↓uL];refine⟨λq=>?_,λq=>?_⟩;refine kV o c _ _ ?_;simp only[qz 2,au,↓uL];refine kV o c _ _ ?_;simp only[qz 4,fi,bQ,qz 6,↓uL];refine fQ o (by grind) [_,_] λt E g m=>?_;simp only[qz 8,au,u0,u1,↓uL];refine yU (aL q) ⟨t,?_,s.trans m,by omega⟩;grind [aNG,my];refine yU G ⟨D,?_,s⟩;grind [aNG,jy];have l:k=L w.ac:=(by grind);subst l;refine yV (L w.ac) (λk _ Y'=>∃e,cm Y' b w ns (out++(aH<|L w.ac).flatMap (jy ns<|L w.ac)++(aH k).flatMap (kY ns w)) n e/\Ad Y Y' b a e) (by grind) ?_;rintro k _ P u ⟨D,o,s⟩;have l2:=fU (f:=kY ns w) u;simp+contextual only[qz 91,au,aI,u0,u1,di,qz 113,fsM,ar,cT,↓uL];refine⟨λh=>⟨⟨by omega,u7 h⟩,λq=>?_,λq=>?_⟩,λh=>?_⟩;have y:=fU (f:=kY ns w)<|show k+1<=L w.ac from aL h;have T:kY ns w k=[[lB ns (lw w.ac k) k],[-lE ns k,lE ns<|lw w.ac k]]:=(by grind [kY]);rw[aNG,T,a6G] at y;simp only[bZ,aO1] at y;refine kV o c _ _ ?_;simp only[qz 10,a5Y,bQ,qz 12,↓uL];refine fQ o (by grind) [_] λt E g m=>?_;simp only[qz 14,au,↓uL];refine bno g c _ ?_;simp only[qz 16,de c,aY,↓uL];refine bno g c _ ?_;simp only[qz 18,qy 20,qy 22,fi,bQ,↓uL];refine fQ g (by grind) [_,_] λF R v A=>?_;simp only[qz 111,au,aI,u0,u1,↓uL];refine yU (aL h) ⟨F,?_,(s.trans m).trans A⟩;grind [aNG];simp only[qz 111,au,aI,u0,u1,↓uL];refine yU (aL h) ⟨D,?_,s⟩;grind [aNG,kY];have l:k=L w.ac:=(by grind);subst l;refine yV (L w.ac) (λk _ Y'=>∃e,cm Y' b w ns (out++(aH<|L w.ac).flatMap (jy ns<|L w.ac)++(aH<|L w.ac).flatMap (kY ns w)++(aH k).flatMap (mA ns w)) n e/\Ad Y Y' b a e) (by grind) ?_;rintro k _ E u ⟨t,g,m⟩;have x:=g.bx;have l3:=fU (f:=mA ns w) u;simp+contextual only[qz 145,au,aI,u0,u1,di,qz 167,fsM,ar,aPF x,x,rkB,aj,↓uL];refine⟨λh=>⟨⟨by omega,u7 h⟩,λq=>?_,λq=>?_⟩,λh=>?_⟩;have z:=fU (f:=mA ns w)<|show k+1<=L w.ac from aL h;have W:mA ns w k=[[-lE ns k,lE ns<|kr w k],[-lE ns k,lB ns (kr w k) k]]:=(by grind [mA]);rw[aNG,W,a6G] at z;simp only[bZ,aO1] at z;refine bno g c _ ?_;simp only[qz 24,de c,aY,↓uL];refine bno g c _ ?_;simp only[qz 26,fi,bQ,qz 28,↓uL];refine fQ g (by grind) [_,_] λF R v A=>?_;simp only[qz 30,au,↓uL];refine bno v c _ ?_;simp only[qz 32,de c,aY,au,↓uL];refine kV v c _ _ ?_;simp only[qz 34,qy 36,qy 38,fi,bQ,↓uL];refine fQ v (by grind) [_,_] λS Y5 B5 N=>?_;simp only[qz 165,au,aI,u0,u1,↓uL];refine yU (aL h) ⟨S,?_,(m.trans A).trans N⟩;grind [aNG];simp only[qz 165,au,aI,u0,u1,↓uL];refine yU (aL h) ⟨t,?_,m⟩;grind [aNG,mA];have l:k=L w.ac:=(by grind);subst l;exact⟨t,rfl,by grind [bqD],m⟩
def aw6(B:cm Y b w ns out n a)(g:L ns<100000)(i:L w.ac<=16)(h:L out+L (bqD ns w)<1000000000)(f:∀e c,cm c b w ns (out++bqD ns w) n e->Ad Y c b a e->K (.t []) c):cB 96 [.p b 0 0] Y d K:=ub rfl (aCP B g i h) f
def jI(ns:List aH8)(e f c:Int):List (List Int):=
 if f<0 then[[-lE ns e,-lE ns c,-lB ns e c]] else[[-lE ns e,-lE ns c,-lB ns e c,lE ns f],[-lE ns e,-lE ns c,-lB ns e c,lB ns f c]]
theorem aCt(B:cm Y b w ns out n a)(c:L ns<100000)(ho:L out<999999990)(O z A S C R:Int)(N P:Bool):∃r i,sj Y b w ns out (jI ns z A C) n a r i/\cZ aS GG 173 [.p b 0 0, .a [iv O,iv z,iv A,bv N], .a [iv S,iv C,iv R,bv P]] Y r i:=by refine aMl B.le rfl rfl λM v4 v5 E X _ _ j G=>?_;have m:Fx Y M []:=E.fx [];have f:=B.kp m;have H:∀{p q s t:AV},aN J ([p,q,s,t].drop 1)=V q:=rfl;have y:∀{p q s t:AV},aN J ([p,q,s,t].drop 2)=V s:=rfl;simp only[Jq,u0,u1,j,G,H,aj,↓uL];refine bno f c _ ?_;simp only[qz 6,de c,aY,↓uL];refine bno f c _ ?_;simp only[qz 8,de c,aY,↓uL];refine kV f c _ _ ?_;simp only[qz 10,de c,aY,xA,bQ,↓uL];have u:∀{Y:ae} {p q s:Int} {K:cC},rV (cz 1 Y (.l ([p,q,s].map ci) U U)<|iv 0) K=K (.q [iv p]):=λ{Y p q s K}=>rfl;have v:∀{Y:ae} {p q s:Int} {K:cC},rV (cz 1 Y (.l ([p,q,s].map ci) U U)<|iv 1) K=K (.q [iv q]):=λ{Y p q s K}=>rfl;have x:∀{Y:ae} {p q s:Int} {K:cC},rV (cz 1 Y (.l ([p,q,s].map ci) U U)<|iv 2) K=K (.q [iv s]):=λ{Y p q s K}=>rfl;simp+contextual only[qz 12,qy 14,u0,u1,j,y,aj,u,v,x,iF,↓uL];refine⟨λh=>?_,λh=>?_⟩;refine fQ f (by omega) [_,_,_] λa1 i k g=>⟨a1,rfl,?_,Ad.pre m g⟩;grind [jI];refine bno (d:=46) f c _ ?_;simp only[qz 16,vR,bQ,qz 18,↓uL];refine fQ f (by omega) [_,_,_,_] λa1 i k g=>?_;have o:=g.keep j (by intro e;have:=B.sb;rw[<-e] at this;simp[sB] at this)<|f.nv j<|.inl rfl;simp only[qz 20,↓uL];refine dT ?_ ?_;obtain⟨T,W⟩:=b;have:=B.sb;simp only at this;subst this;simp[eL,okT,tok,lb,cq,gz,dC,dK];simp only[u0,u1,o,y,aj,u,v,x,iF,↓uL];refine kV (d:=0) k c _ _ ?_;simp only[qz 22,vR,bQ,qz 24,↓uL];refine fQ k (by simp;omega) [_,_,_,_] λF Y2 Z D=>?_;simp only[qz 26,↓uL];refine dT ?_ ⟨F,rfl,?_,Ad.pre m<|g.trans D⟩;simp[eL,okT,tok,lb,cq,gz,dC,dK];grind [jI]
end
def ao8:dO:=ao7
def Bu:eJ ao8:=Bt
def Dn:=@fsN
def IV a s0 R:=(.mk _:NS ao8 at1 Tryz.f174 [a] [] s0 R).p
def aLX{a:AV}{s0:ae}{R:be}(hs:L s0=4096)(h:IV a s0 R):EB 174 [a] s0 R:=zB at1 Bu Tryz.func174 h
def auW:=I5 25 [(1,([2],[0])),(7,([39],[0,2,3,37,38])),(13,([49],[0,2,3,5,37,38,39,47,48])),(16,([],[0,2,3,5,37,38,39,47,48,49]))]
def ahi a(e:aG)(b:bu) f(g:eQ) c:=Rg->aV (gt a 0) (iv 1) λd=>e [d] c/\b [d] c<b a f
def ag8 a l j m b f g k e h c(i:aG)(n:AV) d:=dH [lzz,lzz,y6 a,y6 l,cq U j,y6 m,lzz,y6 b,y6 f,y6 a,y6 g,cq U k,lb I [e,h] [],cq I c] [(0,4),(4,6),(4,7),(4,8),(4,9),(4,10),(0,11),(5,11),(0,12)]<|i [] d
def aha n c l j m b e f k d g i h a:=cB 103 [n,h] a 99<|ag8 c l j m b e f k d g a i
def ahb a m d k i l c f g j h b e:=eV (aX bH 2 e [(0,a),(1,b)])<|aha m d k i l c f g j a b h
def ahc b c k m l j f a:=rV (cR .neg f) λg=>aB 2 a b λd=>aM a d λh=>aB 1 a c λe=>aM a e λi=>cB 106 [k,h,i] a 97<|ahb g k c m l f b d e a j
def ahd a j g k c m h l n i f e(p:AV) b:=dH [lzz,lzz,y6 a,y6 j,cq U g,y6 k,lzz,y6 c,y6 m,cq U h,lb I [l,n] [],cq I i] [(0,4),(4,6),(4,7),(4,8),(0,9),(5,9),(0,10)] (aB 1 b a λd=>aM b d λo=>cB 105 [f,o] b 90<|ahc c a f d b e)
def ahe e c h f i b k g j l d m a:=cB 103 [e,m] a 85<|ahd c h f i b k g j l a e d
def ahf a l d i f j c k g e b h:=eV (aX bH 2 h [(0,a),(1,b)])<|ahe l d i f j c k g a b e
def ahg b g e i h f c a:=rV (cR .neg c) λj=>aB 2 a b λd=>aM a d λk=>cB 105 [g,k] a 83<|ahf j g e i h c b d a f
def ahh c b h(g:aG)(i:AV) a:=aw 4 a c λe=>aw 4 a b λf=>cB 173 [h,e,f] a 107 λj d=>g [] d
def Jv c b(e:aG) g a:=Qfl 0 a c λl=>Qfl 0 a b λm=>QbE l m λd=>bn d 3 a c λn=>Qcf d n λh=>aT h 3 a b λo=>aC d (aD h o<|bv I) λp=>aD d (bv U) p λf=>bn f 1 a b λq=>aC f (aU q<|iv 0) λr=>aD f (bv U) r λs=>ah s (e [] a) (Qfl 1 a c λt=>aU t (iv 0) λu=>ah u (aB 1 a b λi=>aM a i λv=>cB 105 [g,v] a 78<|ahg c g b i a e)<|aw 4 a c λj=>aw 4 a b λk=>cB 173 [g,j,k] a 103<|ahh b c g e)
def ahj b g d c j e:=ao 4 b g (gt d 0) λh=>aw 4 b h λi=>eV (alA 230 bsf b 7) λa f=>sV (aK 4 f a i)<|Jv c a e j
def ahl l k f n d(g:aG)(e:bu) j h i a b:=Rg->aU (gt a 0) l λm=>ah m (jV 16 (ahi a h i b)<|ahj b k a f n) (aV (gt d 0) (iv 1) λc=>g [c] b/\e [c] b<e d j)
def ag9 b h d k e f g a:=aV (gt b 0) (iv 1) λi=>rV (fo 4 a h (V i) J J) λc=>aJ a c λj=>lV [iv 0] a<|ahl j c d k b e f g
def ahm j e n f(I1:aG)(m1:bu) o g h b a:=Rg->aU (gt b 0) j λk=>ah k (ao 4 a e (gt b 0) λl=>aw 4 a l λm=>eV (alA 230 bsf a 5) λc i=>sV (aK 4 i c m)<|ag9 b e c n g h a) (aV (gt f 0) (iv 1) λd=>I1 [d] a/\m1 [d] a<m1 f o)
def ahk b R I1 m1 c a:=Rg->rV (cO a b) λt3=>aB 0 a t3 λt4=>aB 0 a t4 λr=>Qfl 1 a r λs=>aJ a s λt=>aO .leq (gt c 0) t λu=>ah u (rV (cO a b) λe=>aB 0 a e λf=>aB 0 a f λg=>aw 6 a g λh=>rV (cO a b) λi=>aB 0 a i λj=>aB 7 a j λk=>aB 0 a k λl=>aw 4 a l λm=>rV (cO a b) λn=>aB 0 a n λo=>Qfl 14 a o λp=>fV FX a [h,m,p,gt c 0] λd=>aJ a d λq=>lV [iv 0] a<|ahm q d b c I1 m1 a)<|aNN R a []
def Ju a s0 R:=lV [iv 0] s0<|ahk a R
def aMp{a:AV}{s0:ae}{R:be}(hs:L s0=4096)(h:Ju a s0 R):EB 97 [a] s0 R:=zB auW Bu Tryz.func97 h
def auY:=I5 85 [(3,([31],[0,2,29,30])),(6,([],[0,2,29,30,31])),(14,([78],[0,2,76,77])),(20,([88],[0,2,7,76,77,78,86,87])),(23,([],[0,2,7,76,77,78,86,87,88])),(28,([122],[0,2,120,121])),(34,([132],[0,2,11,120,121,122,130,131])),(37,([],[0,2,11,120,121,122,130,131,132])),(42,([179],[0,2,177,178])),(48,([16],[0,2,15,177,178,179])),(52,([16,209],[0,2,15,177,178,179,207,208])),(55,([16],[0,2,15,177,178,179,207,208,209])),(60,([261],[0,2,15,16,177,178,179,259,260])),(63,([],[0,2,15,16,177,178,179,259,260,261])),(67,([306],[0,2,304,305])),(70,([],[0,2,304,305,306])),(79,([338],[0,2,21,23,304,305,306,336,337])),(82,([],[0,2,21,23,304,305,306,336,337,338]))]
def Jx a s0 R:=(.mk _:NS ao8 auY Tryz.f98 [a] [] s0 R).p
theorem aMr{a:AV}{s0:ae}{R:be}(hs:L s0=4096)(h:Jx a s0 R):EB 98 [a] s0 R:=zB auY Bu Tryz.func98 h
structure WV(w:am):Prop where
 ok:kB w
 dp:∀k,k<L w.ac->L (gd w.ac k).dI<10000/\L (gd w.ac k).ep<10000
 th:∀k,k<L w.ac->aF (L w.init.count) (gd w.ac k).aq/\aF (L w.init.bW.ay) (gd w.ac k).aq
 ct:∀u:Int,aF (L w.init.count) u->0<=gd w.init.count u.toNat/\gd w.init.count u.toNat<=100000
 ts:L w.init.bW.ay<=4
 lk:L w.init.bW.ak=L w.aQ.ak/\L w.aQ.ak<=4
 rd:∀l∈w.init.bW.ak,L l.bk<=100
section
variable{Y:ae}{b:Id}{w:am}{ns:List aH8}{out:List (List Int)}{n a:AV}{d:Nat}{K:be}
def wu{l:List Int}{i:Int}{K:cC}{t o:Bool}:rV (cz 1 Y (.l (l.map ci) t o)<|iv i) K=(aF (L l) i/\K (.q [iv<|gd l i.toNat])):=aBz (Y:=Y) (f:=ci) λ_=>rfl
def iA(ns:List aH8)(p q:bp):List (List Int):=
 if p.aq=q.aq\/(p.read=U/\q.read=U)\/q.dD<0 then[]
 else if p.dD<0 then[[-lE ns q.dD,lE ns p.dY],[-lE ns q.dD,lB ns p.dY q.dD]]
 else jI ns p.dD p.dY q.dD++jI ns q.dD q.dY p.dD
def mw(ns:List aH8)(s:List bp)(i:Nat):List (List Int):=(aH<|L<|s.drop<|i+1).flatMap λj=>iA ns (gd s i)<|gd (s.drop<|i+1) j
def rL(ns:List aH8)(s:List bp):List (List Int):=(aH<|L s).flatMap<|mw ns s
def pE(ns:List aH8)(w:am)(k:Nat):List (List Int):=rL ns<|jE w.aQ w.init.bW w.ac k
def oH(ns:List aH8)(w:am):List (List Int):=(aH<|L w.aQ.ak+1).flatMap<|pE ns w
theorem axk{p q:bp}:L (iA ns p q)<=4:=by grind [iA,jI]
def AG{l:List bp}{i:Int}{K:cC}{t o:Bool}:rV (cz 4 Y (.l (l.map bp.c) t o)<|iv i) K=(aF (L l) i/\K (.q<|bp.c<|gd l i.toNat)):=aBz (Y:=Y) (f:=bp.c) λ_=>rfl
theorem slT{α:Type}{f:α->List AV}{l:List α}{z:Nat}{i:Int}{K:cC}{t o:Bool}(e:∀x,L (f x)=z):rV (fo z Y (.l (l.map f) t o) (V<|iv i) J J) K=((0<=i/\i<=L l)/\K (.l ((l.drop i.toNat).map f) t o)):=by simp only[fo,lM];by_cases c:0<=i;simp only[c,aNV,qY,sD,mi,bJ,dA,ip];grind [rV,GK,oB];simp[c,rV]
def slS{l:List bp}{i:Int}{K:cC}{t o:Bool}:rV (fo 4 Y (.l (l.map bp.c) t o) (V<|iv i) J J) K=((0<=i/\i<=L l)/\K (.l ((l.drop i.toNat).map bp.c) t o)):=slT λ_=>rfl
def aoj{x:bp}:aN J (bp.c x)=V (iv x.aq):=rfl
def En{x:bp}:aN J ((bp.c x).drop 1)=V (iv x.dD):=rfl
def Eo{x:bp}:aN J ((bp.c x).drop 2)=V (iv x.dY):=rfl
def aok{x:bp}:aN J ((bp.c x).drop 3)=V (bv x.read):=rfl
def Bj{x:bp}:aN (V 4) (bp.c x)=V (.a<|bp.c x):=rfl
def D2{x:bp}:vl (V 4) Y (.q<|bp.c x)=V (.a<|bp.c x):=rfl
def alE(B:cm Y b w ns out n a)(h:L ns<100000)(i:L out<999999990)(x y:bp)(g:∀f e,cm e b w ns (out++jI ns x.dD x.dY y.dD) n f->Ad Y e b a f->K (.t []) e):cB 173 [.p b 0 0, .a<|bp.c x, .a<|bp.c y] Y d K:=ub rfl (aCt B h i _ _ _ _ _ _ _ _) g
theorem aDh(B:cm Y b w ns out n a)(f:L ns<100000)(H:L out<999999900){A C:Nat}(p q:bp)(l:box Y (5,A)=V ⟨230,4,U,U,[bp.c p]⟩)(r:box Y (7,C)=V ⟨230,4,U,U,[bp.c q]⟩){e:aG}(z:∀y o,cm o b w ns (out++iA ns p q) n y->Ad Y o b a y->e [] o):Jv (.p (5,A) 0 0) (.p (7,C) 0 0) e (.p b 0 0) Y:=by have s:∀{k v:Nat},k≠sB->(k,v)≠b:=(by grind [cm.sb]);simp+contextual only[Jv,u0,u1,l,r,aoj,En,Eo,aok,Bj,aj,↓uL];refine⟨λh=>?_,λh=>⟨λE=>?_,λE=>?_⟩⟩;grind [Ad.refl,iA];have F:¬(p.aq=q.aq\/(p.read=U/\q.read=U)\/q.dD<0):=(by simp_all);refine bno (d:=0) B f _ ?_;simp only[ahg,de f,u0,u1,l,Eo,aj,↓uL];refine bno (d:=0) B f _ ?_;simp only[ahf,fi,bQ,ahe,↓uL];refine fQ B (by omega) [_,_] λa1 o m g=>?_;have i:=g.keep l (s<|by decide)<|B.nv l<|.inl rfl;have j:=g.keep r (s<|by decide)<|B.nv r<|.inl rfl;simp only[ahd,↓uL];refine dT (by simp[eL,okT,tok,lb,cq,gz,dC,dK]) ?_;simp only[u0,u1,i,j,En,aj,↓uL];refine bno (d:=0) m f _ ?_;simp only[ahc,de f,u0,u1,i,j,En,Eo,aj,↓uL];refine kV (d:=0) m f _ _ ?_;simp only[ahb,fi,bQ,aha,↓uL];refine fQ m (by simp;omega) [_,_] λx u D t=>?_;simp only[ag8,↓uL];refine dT (by simp[eL,okT,tok,lb,cq,gz,dC,dK])<|z x u ?_<|g.trans t;grind [iA];have F:¬(p.aq=q.aq\/(p.read=U/\q.read=U)\/q.dD<0):=(by simp_all);refine alE (d:=0) B f (by omega) p q λa1 o m g=>?_;have i:=g.keep l (s<|by decide)<|B.nv l<|.inl rfl;have j:=g.keep r (s<|by decide)<|B.nv r<|.inl rfl;have G:L (jI ns p.dD p.dY q.dD)<=2:=(by grind [jI]);simp only[ahh,u0,u1,i,j,Bj,aj,↓uL];refine alE (d:=0) m f (by simp;omega) q p λx u D t=>z x u ?_<|g.trans t;grind [iA]
theorem aCz(B:cm Y b w ns out n a)(hn:L ns<100000)(W:WV w)(ho:L out+L (oH ns w)<999999900):∃r x,sj Y b w ns out (oH ns w) n a r x/\cZ aS GG 97 [.p b 0 0] Y r x:=by refine aMp B.le ?_;have aE:=W.lk;simp only[Ju,↓uL];refine yV (L w.aQ.ak+1) (λk _ Y'=>∃e,cm Y' b w ns (out++(aH k).flatMap (pE ns w)) n e/\Ad Y Y' b a e) (by grind [Ad.refl]) ?_;rintro k _ x hk ⟨a1,v,C⟩;have bx:=v.bx;simp+contextual only[ahk,au,aI,aPF bx,u0,u1,bx,rkB,aj,dc,cT,ar,Dn,↓uL];refine⟨λh=>⟨⟨W.ts,W.ok.ev,λT=>?_⟩,λt=>?_⟩,λh=>?_⟩;have y:(k:Int)<=L w.aQ.ak:=qc h;have m:aF (L w.init.bW.ak) (k:Int):=⟨by omega,by omega⟩;grind [WV.rd,ii];have y:k<L w.aQ.ak+1:=(by grind);have A:=fU (f:=pE ns w) (show k+1<=L w.aQ.ak+1 by omega);rw[aNG,a6G] at A;simp only[oH] at ho;have aG:L (jE w.aQ w.init.bW w.ac k)<=4*101+16:=(by have:=Q4 (w:=w.aQ) (s:=w.init.bW) (l:=w.ac) (lock:=(k:Int)) (λT=>W.rd _<|ii<|show aF (L w.init.bW.ak) (k:Int) from⟨by omega,by omega⟩)<|L w.ac;have h3:=W.ts;have h4:=W.ok.ev;have o:L w.init.bW.ay*101<=4*101:=Nat.mul_le_mul_right _ h3;unfold jE;omega);have O:pE ns w k=rL ns (jE w.aQ w.init.bW w.ac k):=rfl;rw[O] at A;generalize jE w.aQ w.init.bW w.ac k=s at*;refine⟨.inl rfl,?_⟩;refine yV (L s) (λi _ Y'=>∃e,cm Y' b w ns (out++(aH k).flatMap (pE ns w)++(aH i).flatMap (mw ns s)) n e/\Ad Y Y' b a e) ⟨a1,by simpa using v,C⟩ ?_;rintro i _ Y2 hi ⟨a2,E,Z⟩;simp+contextual only[ahm,au,aI,u0,u1,AG,Bj,bh,D2,↓uL];refine⟨λm=>⟨u7 m,?_⟩,λm=>?_⟩;have R:=aL m;have u:=fU (f:=mw ns s) (show i+1<=L s by omega);rw[aNG,a6G] at u;have P:rL ns s=(aH<|L s).flatMap (mw ns s):=rfl;rw[P] at A;refine ic E.le λX Y3 F3 N3 b3=>?_;refine cy (cs:=bp.c<|gd s i) b3 rfl rfl (by decide) λH F4 b4=>?_;have aC:box H (5,X)=V ⟨230,4,U,U,[bp.c<|gd s i]⟩:=b4;have G:Fx Y2 H []:=(F3.trans F4).mono (by grind [bK.no]);have B4:=E.kp G;simp only[ag9,au,u0,u1,slS,gT,↓uL];rw[fX<|by omega];refine⟨(by omega),?_⟩;simp only[bh];have z:mw ns s i=(aH<|L<|s.drop<|i+1).flatMap λj=>iA ns (gd s i) (gd (s.drop<|i+1) j):=rfl;have aD:L (s.drop<|i+1)<=L s:=(by simp);rw[z] at u;generalize hq:s.drop (i+1)=q at*;refine yV (L q) (λj _ Y'=>∃e,cm Y' b w ns (out++(aH k).flatMap (pE ns w)++(aH i).flatMap (mw ns s)++(aH j).flatMap λj=>iA ns (gd s i)<|gd q j) n e/\Ad Y Y' b a e/\box Y' (5,X)=V ⟨230,4,U,U,[bp.c<|gd s i]⟩) (by grind [Ad.fxn]) ?_;rintro j _ Y5 hj ⟨a5,F,D,b5⟩;simp+contextual only[ahl,au,aI,u0,u1,di,ahj,AG,D2,bh,↓uL];refine⟨λo=>⟨u7 o,?_⟩,λo=>?_⟩;have lC:=fU (f:=λj=>iA ns (gd s i)<|gd q j) (by omega);refine ic F.le λv6 Y6 F6 N6 b6=>?_;refine cy (cs:=bp.c<|gd q j) b6 rfl rfl (by decide) λM F7 b7=>?_;have N:box M (7,v6)=V ⟨230,4,U,U,[bp.c<|gd q j]⟩:=b7;have g:Fx Y5 M []:=(F6.trans F7).mono (by grind [bK.no]);refine aDh (F.kp g) hn (by grind) (gd s i) (gd q j) (g.kq b5) N λa8 Y8 B8 A8=>?_;simp only[ahi,au,aI,u0,u1,↓uL];refine yU (aL o) ⟨a8,?_,(D.fxn g).trans A8,?_⟩;grind [aNG];grind [Ad.keep,Fx.keep,cm.sb,cm.nv];refine yU R ⟨a5,?_,D⟩;grind [aNG];refine yU y ⟨a2,?_,Z⟩;grind [aNG,rL];have y:¬(k:Int)<=L w.aQ.ak:=brD h;have S:k=L w.aQ.ak+1:=(by omega);subst S;exact⟨a1,rfl,v,C⟩
def awX(B:cm Y b w ns out n a)(g:L ns<100000)(W:WV w)(h:L out+L (oH ns w)<999999900)(f:∀e c,cm c b w ns (out++oH ns w) n e->Ad Y c b a e->K (.t []) c):cB 97 [.p b 0 0] Y d K:=ub rfl (aCz B g W h) f
end
def aEr{x y:bqR}:a6F .neq 2 [(0,0),(1,0),(2,0)] (.a<|bqR.c x) (.a<|bqR.c y)=V (bv<|Q<|x≠y):=by obtain⟨a,b,c⟩:=x;obtain⟨e,f,g⟩:=y;have h:∀p q:Int,sS 0 (.int .i64 p) (.int .i64 q)=V (Q<|p=q):=λp q=>rfl;simp[a6F,bqR.c,nW,h];grind
def PG(f g:br6)(l:f=g/\L f.lL<4611686018427387904/\L f.ug<4611686018427387904/\(∀c∈f.ug,L c<4611686018427387904)):Ct 10 [.a f.c, .a g.c] (·=bv U):=by obtain⟨rfl,o,p,q⟩:=l;refine aMa rfl rfl λs r e i m=>?_;simp+contextual only[afI,u0,u1,e,i,rk,aj,dc,↓uL];refine⟨λh=>by simp at h,λ_=>?_⟩;refine bhZ (L f.lL) (λ_=>True) trivial λk j _=>?_;simp+contextual only[qz 37,au,aI,u0,u1,ix,rk,e,i,aj,dc,bh,aEr,↓uL];refine⟨(by grind [dJ,gS]),λh=>?_⟩;refine bhZ (L f.ug) (λ_=>True) trivial λk j _=>?_;simp+contextual only[qz 91,au,aI,u0,u1,ix,rk,iF,cl,e,i,aj,dc,bh,Dn,ar,↓uL];grind [dJ,ig,gS]
def Co:FT:=aIc PG
def azs{f g Lw K}:=f210 Co PG f g Lw K
def Rl:dO:=(10,Co)::ao8
def jT:eJ Rl:=sz (aCb PG)<|Bu
def sY:=ai @azs<|@Dn
def avd:=I5 11 [(3,([6],[0,5]))]
def akc a s0 R:=(.mk _:NR Rl avd Tryz.f248 [a] [] s0 R).p
def aMG{a:AV}{R:cC}(h:H0 λs0=>akc a s0 R):Ct 248 [a] R:=z0 avd jT Tryz.func248 h
def S0 a a1 s0 R:=(.mk _:NR Rl at1 Tryz.f207 [a,a1] [] s0 R).p
def aJ1{a a1:AV}{R:cC}(h:H0 λs0=>S0 a a1 s0 R):Ct 207 [a,a1] R:=z0 at1 jT Tryz.func207 h
def asx:=I5 29 [(4,([4,5],[0])),(20,([52],[0,4,5,6,51]))]
def SC a s0 R:=(.mk _:NR Rl asx Tryz.f143 [a] [] s0 R).p
def aJY{a:AV}{R:cC}(h:H0 λs0=>SC a s0 R):Ct 143 [a] R:=z0 asx jT Tryz.func143 h
def asz:=I5 18 [(4,([3,4,10],[1,8,9])),(12,([3,4],[1,6,8,9,10]))]
def SV a b R:=(.mk _:NR Rl asz Tryz.f146 [.u] [a] b R).p
def aJ0{c0:List AV}{R:cC}(l0:L c0=6)(h:H1 31 6 1 c0 λia b=>SV ia b R):Ct 146 [.a c0] R:=z1 asz jT Tryz.func146 l0 h
def abM a a1 s0 R:=(.mk _:NR Rl at1 Tryz.f208 [a,a1] [] s0 R).p
def aLb{a a1:AV}{R:cC}(h:H0 λs0=>abM a a1 s0 R):Ct 208 [a,a1] R:=z0 at1 jT Tryz.func208 h
def abL a a1 b R:=(.mk _:NR Rl at1 Tryz.f255 [.u,a1] [a] b R).p
def aLa{c0:List AV}{a1:AV}{R:cC}(l0:L c0=3)(h:H1 138 3 2 c0 λia b=>abL ia a1 b R):Ct 255 [.a c0,a1] R:=z1 at1 jT Tryz.func255 l0 h
def avj:=I5 13 [(4,([3,10],[1,8,9]))]
def JZ a b R:=(.mk _:NR Rl avj Tryz.f75 [.u] [a] b R).p
def aMO{c0:List AV}{R:cC}(l0:L c0=15)(h:H1 43 15 1 c0 λia b=>JZ ia b R):Ct 75 [.a c0] R:=z1 avj jT Tryz.func75 l0 h
def avp:=I5 26 [(3,([11],[1,9,10])),(6,([],[1,9,10,11]))]
def Kc a b R:=(.mk _:NR Rl avp Tryz.f76 [.u] [a] b R).p
def aMU{c0:List AV}{R:cC}(l0:L c0=15)(h:H1 43 15 1 c0 λia b=>Kc ia b R):Ct 76 [.a c0] R:=z1 avp jT Tryz.func76 l0 h
def avm:=I5 11 [(3,([9],[1,7,8]))]
def J0 a b R:=(.mk _:NR Rl avm Tryz.f78 [.u] [a] b R).p
def aMR{c0:List AV}{R:cC}(l0:L c0=7)(h:H1 40 7 1 c0 λia b=>J0 ia b R):Ct 78 [.a c0] R:=z1 avm jT Tryz.func78 l0 h
def au9:=I5 11 [(3,([8],[0,1,7]))]
def JR a a1 s0 R:=(.mk _:NR Rl au9 Tryz.f169 [a,a1] [] s0 R).p
def aMC{a a1:AV}{R:cC}(h:H0 λs0=>JR a a1 s0 R):Ct 169 [a,a1] R:=z0 au9 jT Tryz.func169 h
def YD a b R:=(.mk _:NR Rl at1 Tryz.f167 [.u] [a] b R).p
def aKC{c0:List AV}{R:cC}(l0:L c0=7)(h:H1 62 7 1 c0 λia b=>YD ia b R):Ct 167 [.a c0] R:=z1 at1 jT Tryz.func167 l0 h
def YC a b R:=(.mk _:NR Rl at1 Tryz.f225 [.u] [a] b R).p
def aKB{c0:List AV}{R:cC}(l0:L c0=7)(h:H1 62 7 1 c0 λia b=>YC ia b R):Ct 225 [.a c0] R:=z1 at1 jT Tryz.func225 l0 h
def Zj a a1 b c R:=(.mk _:NR Rl auM Tryz.f226 [.u,a1,b] [a] c R).p
def aKF{c0:List AV}{a1 b:AV}{R:cC}(l0:L c0=15)(h:H1 43 15 3 c0 λia c=>Zj ia a1 b c R):Ct 226 [.a c0,a1,b] R:=z1 auM jT Tryz.func226 l0 h
def aku b a c R:=(.mk _:NR Rl auF Tryz.f211 [.u, .u] [b,a] c R).p
def aML{c0:List AV}{b:List AV}{R:cC}(l0:L c0=6)(l1:L b=7)(h:H2 31 6 2 c0 62 7 3 b λia c d=>aku ia c d R):Ct 211 [.a c0, .a b] R:=z2 auF jT Tryz.func211 l0 l1 h
def ald:=I5 24 [(5,([52],[4,5,8,51])),(15,([11,67],[4,5,8,51,52,65,66]))]
def JY c b a d R:=(.mk _:NR Rl ald Tryz.f212 [.u, .u, .u] [c,b,a] d R).p
def aMJ{c0:List AV}{b:List AV}{c:List AV}{R:cC}(l0:L c0=6)(l1:L b=7)(d:L c=7)(h:H3 31 6 3 c0 40 7 4 b 62 7 5 c λf g i e=>JY f g i e R):Ct 212 [.a c0, .a b, .a c] R:=z3 ald jT Tryz.func212 l0 l1 d h
def avh:=I5 36 [(9,([46],[2,3,13])),(16,([5,6,55],[3,53,54])),(19,([5,6],[3,53,54,55])),(28,([9,96],[3,94,95])),(31,([9],[3,94,95,96]))]
def akv b a c R:=(.mk _:NR Rl avh Tryz.f213 [.u, .u] [b,a] c R).p
def aMM{c0:List AV}{b:List AV}{R:cC}(l0:L c0=7)(l1:L b=7)(h:H2 40 7 2 c0 62 7 3 b λia c d=>akv ia c d R):Ct 213 [.a c0, .a b] R:=z2 avh jT Tryz.func213 l0 l1 h
def Jk a b R:=(.mk _:NS Rl auS Tryz.f42 [.u] [a] b R).p
def aMg{c0:List AV}{s0:ae}{R:be}(hs:L s0=4096)(l0:L c0=15)(h:HB1 43 15 1 c0 s0 λc b=>Jk c b R):EB 42 [.a c0] s0 R:=zB1 auS jT Tryz.func42 hs l0 h
def au0:=I5 57 [(3,([25],[0,2,23,24])),(6,([],[0,2,23,24,25])),(13,([5,45],[0,2,3,4,23,24,25,43,44])),(21,([77],[0,2,3,4,23,24,25,75,76])),(27,([],[0,2,3,4,9,10,23,24,25,75,76,77])),(32,([120],[0,2,3,4,9,10,23,24,25,75,76,77,118,119])),(38,([135],[0,2,3,4,9,10,23,24,25,75,76,77,134])),(41,([],[0,2,3,4,9,10,23,24,25,75,76,77,134,135])),(46,([189],[0,187,188])),(52,([204],[0,14,187,188,189,202,203]))]
def JG a s0 R:=(.mk _:NS ao7 au0 Tryz.f99 [a] [] s0 R).p
theorem aMt{a:AV}{s0:ae}{R:be}(hs:L s0=4096)(h:JG a s0 R):EB 99 [a] s0 R:=zB au0 Bt Tryz.func99 h
def bsh{B:aG}{A:(aG)->Prop}(Q:aG)(e:∀c,(∀vs Y',Q vs Y'->c vs Y')->A c)(f:∀vs Y',Q vs Y'->B vs Y'):A B:=e B f
def gA(Y:ae)(e:TypeId)(z:Nat)(a:AV)(bA:List<|List AV):Prop:=(∃o,a= .l bA U o)\/∃b,a= .m b (L bA)/\box Y b=V ⟨e,z,U,I,bA⟩
theorem gA.fx{Y Y':ae}{ks:List Id}{e:TypeId}{z:Nat}{a:AV}{bA:List (List AV)}(g:gA Y e z a bA)(f:Fx Y Y' ks)(i:∀b∈aA a,b∉ks):gA Y' e z a bA:=by rcases g with h|⟨b,rfl,c⟩;exact .inl h;exact .inr ⟨b,rfl,f.keep b _ (i b<|by simp[aA]) c⟩
def apT{Y:ae}{e:TypeId}{z d by':Nat}{zs:List AV}{a:AV}{bA new:List (List AV)}{t o:Bool}{K:be}(s:gA Y e z a bA)(A:L zs=z)(m:0<z)(f:d<L Y)(y:∀r∈bA,L r=z)(x:∀r∈new,L r=z)(u:(L bA+L new)*(by'+1)<=1099511627776)(i:∀c Y',gA Y' e z c (bA++new)->Fx Y Y' (aA a)->(∀b∈aA c,b∈aA a\/bK Y b)->K c Y'):eV (Gy e zs by' Y d a<|.l new t o) K:=by rcases s with⟨o',rfl⟩|⟨b,rfl,q⟩;unfold Gy;simp only[gL];by_cases j:L new=0;rw[f8 j];have k:new=[]:=(by simp_all);subst k;exact i _ _ (.inl ⟨o',by simp⟩) (Fx.refl _ _) (by simp[aA]);rw[dB j,f8 ⟨by omega,by simp[aRI,f],by simp_all⟩];rw[f8 ⟨by simp_all,by grind [lx]⟩];refine i _ _ (.inr ⟨zt Y d,by simp,?_⟩) ((kH f).mono<|by simp) (by grind [aA,qQ]);grind [be7];refine gD (.inr ⟨b,rfl,q⟩) A m f y x u λc Y' g F v _=>i c Y' ?_ F v;rcases g with⟨p,rfl⟩|h;exact .inl ⟨U,by rw[p]⟩;exact .inr h
def ali{Y:ae}{e:TypeId}{x:AV}{l:List Int}(h:gA Y e 1 x<|l.map ci):dG Y x=sl ci l:=by rcases h with⟨o,rfl⟩|⟨b,rfl,c⟩;rfl;simp[dG,eR,gi,c,nrm,gK,sl,oB]
def aCr(l:List Int)(j:L l<1000000):∃r c,bc c 3 1 r (l.map ci)/\cZ aS GG 174 [sl ci l] eK r c:=by refine aLX (oA ..) ?_;simp only[IV,qy 2,nS,bQ,↓uL];refine gD (e:=3) (new:=l.map ci) bc.nil rfl (by decide) (by rw[show L eK=4096 from oA ..];decide) (by simp) fF (by grind) λg Y' h f i _=>?_;grind [aNN,aoz]
def bup{Y:ae}{d:Nat}{K:be}{x:AV}{l:List Int}(q:gA Y 3 1 x<|l.map ci)(p:L l<1000000)(e:d<L Y)(f:∀c Y',bc Y' 3 1 c (l.map ci)->Fx Y Y' []->(∀k∈aA c,bK Y k/\k.1=d)->K c Y'):cN 174 [x] Y d K:=by obtain⟨r,j,g,h⟩:=aCr l p;have i:[x].map (dG Y)=[sl ci l]:=(by simp[ali q]);refine .inl ⟨by rw[i];rfl,by simp[aRI,e],r,j,by rw[i];exact h,?_⟩;rcases g with⟨m,rfl⟩|⟨b,rfl,o⟩;exact .inl ⟨rfl,f _ _ (.inl ⟨m,rfl⟩) (Fx.refl _ _) (by simp[aA])⟩;refine .inr ⟨b,_,_,rfl,o,?_,f _ _ (.inr ⟨zt Y d,rfl,be7 e⟩) (kH e)<|by simp[aA,zt,bK]⟩;simp[qA,gY]
section
variable{Y:ae}{b:Id}{w:am}{ns:List aH8}{out:List (List Int)}{n a:AV}{d:Nat}{K:be}
theorem Dd(B:cm Y b w ns out n a)(s:L out<1000000000){x:AV}(c:List Int)(z:gA Y 3 1 x<|c.map ci){i:ae}{q:AV}(A:Ad i Y b q a)(C:∀k∈aA x,bK i k)(r:∀f e,cm e b w ns (out++[c]) n f->Ad i e b q f->Fx Y e (b::(aA a++aA x))->K (.t []) e):cB 103 [.p b 0 0,x] Y d K:=by rcases z with⟨o,rfl⟩|⟨v,rfl,h⟩;exact fQ B s c λf e g l=>r f e g (A.trans l) (by simpa[aA] using l.fx);refine awM B s c (.inr ⟨v,rfl,h⟩) λf e g m u=>r f e g ⟨(A.fx.trans m).mono ?_,?_⟩ m;grind [Ad.id,bK.no];intro k y;rcases u k y with j|j;exact A.id k j;exact .inr<|j.old A.fx
abbrev lS(ns:List aH8)(r s:Int):Int:=dP ns ⟨4,r,s⟩
def bpl(ns:List aH8)(w:am)(r:Nat)(s:Int)(x:Nat):List (List Int):=
 if(x:Int)=s\/aTG (gd w.ac x) (gd w.ac r)=I then[] else if 0<=s then[[-lS ns r s,-lE ns x,lB ns x s,lB ns r x]] else[[-lS ns r s,-lE ns x,lB ns r x]]
def pD(ns:List aH8)(r:Nat)(s:Int)(l:List Int)(j:Nat):List (List Int):=[[-lS ns r s,lF ns<|gd l j]]
def kD(ns:List aH8)(w:am)(r:Nat)(s:Int):List (List Int):=
 if 0<=s then[[-lS ns r s,lE ns s],[-lS ns r s,lB ns s r]]++(aH<|L<|fg w (gd w.ac s.toNat).aq (gd w.ac s.toNat).ep).flatMap (pD ns r s<|fg w (gd w.ac s.toNat).aq (gd w.ac s.toNat).ep) else[]
def iP(ns:List aH8)(w:am)(r:Nat)(s:Int):List (List Int):=kD ns w r s++(aH<|L w.ac).flatMap (bpl ns w r s)
def gW(ns:List aH8)(w:am)(r:Nat):List (List Int):=
 if fR (gd w.ac r)=U then[[-lF ns r,lE ns r],-lF ns r::(dx w r).map (lS ns r)]++(aH<|L<|dx w r).flatMap (λj=>iP ns w r<|gd (dx w r) j) else[]
def qv(ns:List aH8)(i:Nat)(l:List Int)(j:Nat):List (List Int):=[[-lE ns i,lF ns<|gd l j]]
def kX(ns:List aH8)(w:am)(i:Nat):List (List Int):=(aH<|L<|fg w (gd w.ac i).aq (gd w.ac i).dI).flatMap<|qv ns i<|fg w (gd w.ac i).aq (gd w.ac i).dI
def rJ(ns:List aH8)(w:am):List (List Int):=(aH<|L w.ac).flatMap (gW ns w)++(aH<|L w.ac).flatMap (kX ns w)
def aCI(B:cm Y b w ns out n a)(o:L ns<100000)(W:WV w)(hC:∀r:Nat,∀s∈dx w r,0<=s->aF (L w.ac) s)(hL:∀r:Nat,L (dx w r)<=1000)(hI:∀u l,L (fg w u l)<=L l)(hP:∀r:Nat,r<L w.ac->((gd w.ac r).kind=23->aF (L w.init.bW.done) (gd w.ac r).bF/\aF (L w.init.bU) (gd w.ac r).bF)/\((gd w.ac r).kind=3->aF (L w.init.cells) (gd w.ac r).bF))(ho:L out+L (rJ ns w)<999999900):∃r Y1,sj Y b w ns out (rJ ns w) n a r Y1/\cZ aS GG 99 [.p b 0 0] Y r Y1:=by refine aMt B.le ?_;have bx:=B.bx;have hw:=W.ok.ev;have nb:∀{k v:Nat},k≠sB->(k,v)≠b:=λ{k v} h e=>h (by have:=B.sb;rw[<-e] at this;exact this);simp only[rJ,a6G] at ho;simp only[JG,aPF bx,u0,u1,bx,rkB,aj,cT,↓uL];refine yV (L w.ac) (λk _ Y'=>∃m,cm Y' b w ns (out++(aH k).flatMap (gW ns w)) n m/\Ad Y Y' b a m) ⟨a,by simpa using B,Ad.refl _ _ _⟩ ?_;rintro r _ Y1 hr ⟨a1,B1,A1⟩;simp+contextual only[qz 19,au,aI,u0,u1,cT,↓uL];refine⟨λh=>?_,λh=>?_⟩;have ae:=aL h;have lA:=fU (f:=gW ns w) (show r+1<=L w.ac by omega);rw[aNG,a6G] at lA;refine bsh (λvs Y'=>vs=[]/\∃m,cm Y' b w ns (out++(aH r).flatMap (gW ns w)++gW ns w r) n m/\Ad Y Y' b a m) (λg hJ=>?_) ?_;simp only[qz 41,qy 2,au,ix,u0,u1,rk,bh,↓uL];refine⟨dJ ae,?_⟩;refine ic B1.le λM Y2 F2 N2 b2=>?_;refine cy (cs:=aP.c<|gd w.ac r) b2 rfl rfl (by decide) λY3 F3 b3=>?_;have aZ:box Y3 (4,M)=V ⟨62,7,U,U,[aP.c<|gd w.ac r]⟩:=b3;have aW:Fx Y1 Y3 []:=F2.tn F3 N2.no;have B3:=B1.kp aW;have A3:=A1.fxn aW;have a3:=B3.bx;simp+contextual only[qz 4,u0,u1,aZ,rk,sY,ar,aj,↓uL];refine⟨λhx=>?_,λhx=>?_⟩;refine hJ [] Y3 ⟨rfl,a1,?_,A3⟩;have:¬fR (gd w.ac r)=U:=(by simpa using hx);rw[gW,dB this,cL];exact B3;have cd:fR (gd w.ac r)=U:=(by simpa using hx);rw[gW,f8 cd] at lA hJ;simp only[a6G,bZ,aO1] at lA;refine zS (d:=0) B3 o _ ?_;simp only[qz 6,de o,aY,a5Y,bQ,qz 8,aPF a3,u0,u1,a3,rkB,au,aj,sY,ar,↓uL];refine⟨⟨by omega,λ_=>by simpa using hP r ae⟩,λt=>?_⟩;have cH:=hL r;have bO:=hC r;generalize b0:dx w r=Lw at*;refine jD (α:=AV) (λa i=>[a,iv i]) 1 (L Lw) (λj c Y'=>gA Y' 3 1 c ((-lF ns r::(Lw.take j).map (lS ns r)).map ci)/\Fx Y3 Y' []/\∀k∈aA c,bK Y3 k) (s0:= .l ([-lF ns r].map ci) U U) ⟨.inl ⟨U,by simp⟩,Fx.refl _ _,by simp[aA]⟩ ?_;rintro j c Y4 hj ⟨g4,Z,N4⟩;have D:=B3.kp Z;simp+contextual only[qz 79,au,ck,aI,u0,u1,wu,iF,bh,↓uL];refine⟨λh4=>⟨u7 h4,?_⟩,λh4=>?_⟩;refine nc (d:=0) D o _ _ _ ?_;simp only[qz 10,qy 12,a5Y,bQ,au,↓uL];refine apT g4 rfl (by decide) (by rw[D.le];decide) fF fF (by simp only[bJ,bZ,aO1,List.length_take];omega) λc5 Y5 g5 F5 ca=>?_;simp only[qz 14,au,ck,u0,u1,↓uL];refine dR (mk:=λa i=>[a,iv i]) (s:=c) (λ_ _=>rfl) (aL h4) (by omega) ⟨?_,(Z.trans F5).mono<|by simp only[dW];exactλk C=> .inr (N4 k C).no,λk C=>(ca k C).elim (N4 k)<|λh=>h.old Z⟩;rw[iJ<|aL h4,dg,<-zn,dg,<-bT (aL h4)];exact g5;rw[oB<|bw h4] at g4;refine zS (d:=0) D o _ ?_;simp only[qz 16,de o,aY,au,↓uL];refine bno (d:=0) D o _ ?_;simp only[qz 18,fi,bQ,qz 20,↓uL];refine fQ D (by simp only[a6G];omega) [_,_] λa5 Y5 N A5=>?_;have bY:∀k∈aA c,k∉b::aA a1:=(by intro k C ax;rcases g4 with⟨o',rfl⟩|⟨b',rfl,H⟩;simp[aA] at C;simp only[aA,cE] at C;subst C;rcases eW.1 ax with rfl|ax;have:=D.bx;rw[H] at this;cases this;exact D.nv H (.inr<|show(3:Nat)≠38 by decide) ax);have g5:=g4.fx A5.fx bY;have bu:Ad Y Y5 b a a5:=(A3.fxn Z).trans A5;have a0:=Z.kq aZ;have ab:=A5.keep a0 (nb<|by decide)<|D.nv a0<|.inl rfl;simp only[qz 22,au,↓uL];refine Dd (d:=0) N (by simp only[a6G,bZ,aO1];omega) (-lF ns r::Lw.map (lS ns r)) g5 bu (λk C=>(N4 k C).old A3.fx) λa6 Y6 B6 A6 F6=>?_;have b5:(4,M)∉aA c:=(by intro C;rcases g5 with⟨o',rfl⟩|⟨b',rfl,H⟩;simp[aA] at C;simp only[aA,cE] at C;subst C;rw[H] at ab;cases ab);have bM:=F6.keep _ _ (by simp only[eW,dF,not_or];exact⟨nb (by decide),N.nv ab<|.inl rfl,b5⟩) ab;have ba:=B6.bx;simp only[qz 24,aPF ba,u0,u1,ba,rkB,au,aj,sY,ar,↓uL];refine⟨⟨by omega,λ_=>by simpa using hP r ae⟩,λt2=>?_⟩;rw[b0];have e6:out++(aH r).flatMap (gW ns w)++[[-lF ns r,lE ns r]]++[-lF ns r::Lw.map (lS ns r)]=out++(aH r).flatMap (gW ns w)++[[-lF ns r,lE ns r],-lF ns r::Lw.map (lS ns r)]:=(by simp);have aV:cm Y6 b w ns (out++(aH r).flatMap (gW ns w)++[[-lF ns r,lE ns r],-lF ns r::Lw.map (lS ns r)]) n a6:=e6▸B6;generalize hO:out++(aH r).flatMap (gW ns w)++[[-lF ns r,lE ns r],-lF ns r::Lw.map (lS ns r)]=O at aV;have cI:L O=L out+L ((aH r).flatMap<|gW ns w)+2:=(by rw[<-hO];simp only[a6G,bZ,aO1]);refine yV (L Lw) (λj _ Y'=>∃m,cm Y' b w ns (O++(aH j).flatMap λj=>iP ns w r<|gd Lw j) n m/\Ad Y Y' b a m/\box Y' (4,M)=V ⟨62,7,U,U,[aP.c<|gd w.ac r]⟩) ⟨a6,by simpa using aV,A6,bM⟩ ?_;rintro j _ Y7 hj ⟨a7,P,A7,b7⟩;simp+contextual only[qz 127,au,aI,u0,u1,wu,iF,bh,↓uL];refine⟨λh7=>⟨u7 h7,?_⟩,λh7=>?_⟩;have lC:L ((aH j).flatMap λj=>iP ns w r<|gd Lw j)+L (iP ns w r<|gd Lw j)<=L ((aH<|L Lw).flatMap λj=>iP ns w r<|gd Lw j):=(by have:=fU (f:=λj=>iP ns w r<|gd Lw j)<|show j+1<=L Lw from aL h7;rw[aNG,a6G] at this;exact this);have ce:gd Lw j∈Lw:=ig<|aL h7;have ay:=bO _ ce;refine nc (d:=0) P o _ _ _ ?_;simp only[qz 26,di,↓uL];generalize b6:gd Lw j=s at*;have b1:L (iP ns w r s)=L (kD ns w r s)+L ((aH<|L w.ac).flatMap<|bpl ns w r s):=(by rw[iP,a6G]);rw[b1] at lC;refine bsh (λvs Y'=>vs=[]/\∃m,cm Y' b w ns (O++((aH j).flatMap λj=>iP ns w r<|gd Lw j)++kD ns w r s) n m/\Ad Y Y' b a m/\box Y' (4,M)=V ⟨62,7,U,U,[aP.c<|gd w.ac r]⟩) (λJ2 ao=>?_) ?_;simp+contextual only[qz 167,u0,u1,de o,↓uL];refine⟨λhs=>?_,λhs=>ao [] Y7 ⟨rfl,a7,?_,A7,b7⟩⟩;have T:0<=s:=qc hs;have af:s.toNat<L w.ac:=(by have:=(ay T).2;omega);have bX:L (kD ns w r s)=2+L ((aH<|L<|fg w (gd w.ac s.toNat).aq (gd w.ac s.toNat).ep).flatMap<|pD ns r s<|fg w (gd w.ac s.toNat).aq (gd w.ac s.toNat).ep):=(by rw[kD,f8 T,a6G];rfl);rw[bX] at lC;rw[kD,f8 T] at ao;refine bno (d:=0) P o _ ?_;simp only[qz 28,fi,bQ,qz 30,↓uL];refine fQ P (by simp only[a6G];omega) [_,_] λa8 Y8 B8 A8=>?_;have b8:=A8.keep b7 (nb<|by decide)<|P.nv b7<|.inl rfl;simp only[qz 32,de o,aY,au,↓uL];refine kV (d:=0) B8 o _ _ ?_;simp only[qz 34,fi,bQ,qz 36,↓uL];refine fQ B8 (by simp only[a6G,bZ,aO1];omega) [_,_] λa9 Y9 A X=>?_;have G:=X.keep b8 (nb<|by decide)<|B8.nv b8<|.inl rfl;have bb:=A.bx;simp only[qz 38,aPF bb,u0,u1,bb,rkB,rk,ix,au,aj,sY,ar,↓uL];refine⟨ay T,ay T,⟨by omega,(W.dp _ af).2,(W.th _ af).1,W.ct _ (W.th _ af).1⟩,λt3=>?_⟩;have bR:=hI (gd w.ac s.toNat).aq (gd w.ac s.toNat).ep;have cK:=(W.dp _ af).2;generalize fg w (gd w.ac s.toNat).aq (gd w.ac s.toNat).ep=l at*;refine yV (L l) (λq _ Y'=>∃m,cm Y' b w ns (O++((aH j).flatMap λj=>iP ns w r<|gd Lw j)++([[-lS ns r s,lE ns s],[-lS ns r s,lB ns s r]]++(aH q).flatMap (pD ns r s l))) n m/\Ad Y Y' b a m/\box Y' (4,M)=V ⟨62,7,U,U,[aP.c<|gd w.ac r]⟩) ⟨a9,by simpa using A,(A7.trans A8).trans X,G⟩ ?_;rintro q _ F hq ⟨E,y,z,R⟩;have lD:=fU (f:=pD ns r s l) hq;simp+contextual only[qz 193,au,aI,u0,u1,wu,iF,bh,de o,↓uL];refine⟨λad=>⟨u7 ad,?_⟩,λad=>?_⟩;refine zS (d:=0) y o _ ?_;simp only[qz 40,fi,bQ,qz 42,↓uL];refine fQ y (by simp only[a6G,bZ,aO1];omega) [_,_] λbD cG bv aU=>?_;simp only[qz 44,au,u0,u1,↓uL];refine yU (aL ad) ⟨bD,?_,z.trans aU,aU.keep R (nb<|by decide)<|y.nv R<|.inl rfl⟩;rw[aNG,<-bje,<-bje];simpa[pD] using bv;rw[bP hq<|bw ad] at y;exact ao [] F ⟨rfl,E,y,z,R⟩;rw[kD,dB<|brD hs,cL];exact P;rintro vs Y8 ⟨rfl,a8,B8,A8,b8⟩;simp only[qz 165,aI,cT,u0,↓uL];refine yV (L w.ac) (λx _ Y'=>∃m,cm Y' b w ns (O++((aH j).flatMap λj=>iP ns w r<|gd Lw j)++kD ns w r s++(aH x).flatMap (bpl ns w r s)) n m/\Ad Y Y' b a m/\box Y' (4,M)=V ⟨62,7,U,U,[aP.c<|gd w.ac r]⟩) ⟨a8,by simpa using B8,A8,b8⟩ ?_;rintro x _ Y9 bd ⟨a9,A,X,G⟩;have lD:=fU (f:=bpl ns w r s) bd;simp+contextual only[qz 229,au,aI,u0,u1,↓uL];refine⟨λh9=>?_,λh9=>?_⟩;refine bsh (λvs Y'=>vs=[]/\∃m,cm Y' b w ns (O++((aH j).flatMap λj=>iP ns w r<|gd Lw j)++kD ns w r s++(aH x).flatMap (bpl ns w r s)++bpl ns w r s x) n m/\Ad Y Y' b a m/\box Y' (4,M)=V ⟨62,7,U,U,[aP.c<|gd w.ac r]⟩) (λJ3 ap=>?_) ?_;simp+contextual only[qz 251,au,u0,u1,ix,rk,G,sY,ar,aj,bh,de o,↓uL];refine⟨λ_=>u7 h9,λhc=>ap [] Y9 ⟨rfl,a9,?_,X,G⟩,λhc=>?_⟩;simp only[fH,j4,eH] at hc;rw[bpl,f8 hc,cL];exact A;have bc:¬((x:Int)=s\/aTG (gd w.ac x) (gd w.ac r)=I):=(by intro H;rcases H with H|H<;>simp[H] at hc);refine⟨λhs=>?_,λhs=>?_⟩;refine bno (d:=0) A o _ ?_;simp only[qz 46,de o,aY,au,↓uL];refine kV (d:=0) A o _ _ ?_;simp only[qz 48,au,↓uL];refine kV (d:=0) A o _ _ ?_;simp only[qz 50,qy 52,qy 54,vR,bQ,↓uL];refine fQ A (by simp only[a6G];omega) [_,_,_,_] λE F y z=>ap [] F ⟨rfl,E,?_,X.trans z,z.keep G (nb<|by decide)<|A.nv G<|.inl rfl⟩;rw[bpl,dB bc,f8<|qc hs];exact y;refine bno (d:=0) A o _ ?_;simp only[qz 56,de o,aY,au,↓uL];refine kV (d:=0) A o _ _ ?_;simp only[qz 58,qy 60,qy 62,xA,bQ,↓uL];refine fQ A (by simp only[a6G];omega) [_,_,_] λE F y z=>ap [] F ⟨rfl,E,?_,X.trans z,z.keep G (nb<|by decide)<|A.nv G<|.inl rfl⟩;rw[bpl,dB bc,dB<|brD hs];exact y;rintro vs F ⟨rfl,E,y,z,R⟩;simp only[qz 249,au,aI,u0,u1,↓uL];refine yU (aL h9) ⟨E,?_,z,R⟩;rw[aNG,<-bje];exact y;refine yU (aL h7) ⟨a9,?_,X,G⟩;rw[bP bd<|bw h9] at A;rw[aNG,b6,iP,<-bje,<-bje];exact A;rw[bP hj<|bw h7] at P;refine hJ [] Y7 ⟨rfl,a7,?_,A7⟩;rw[<-hO] at P;simpa using P;rintro vs Y' ⟨rfl,m,B',A'⟩;simp only[qz 39,au,aI,u0,u1,↓uL];refine yU ae ⟨m,?_,A'⟩;rw[aNG,<-bje];exact B';have cc:r=L w.ac:=bP hr<|bw h;subst cc;refine yV (L w.ac) (λk _ Y'=>∃m,cm Y' b w ns (out++(aH<|L w.ac).flatMap (gW ns w)++(aH k).flatMap (kX ns w)) n m/\Ad Y Y' b a m) ⟨a1,by simpa using B1,A1⟩ ?_;rintro i _ Y2 hi ⟨a2,B2,A2⟩;simp+contextual only[qz 277,qy 64,au,aI,u0,u1,ix,rk,bh,↓uL];refine⟨λh2=>⟨u7 h2,?_⟩,λh2=>?_⟩;have S:=aL h2;have lA:=fU (f:=kX ns w) (show i+1<=L w.ac by omega);rw[aNG,a6G] at lA;refine ic B2.le λM Y3 F3 N3 b3=>?_;refine cy (cs:=aP.c<|gd w.ac i) b3 rfl rfl (by decide) λY4 Z b4=>?_;have bL:box Y4 (15,M)=V ⟨62,7,U,U,[aP.c<|gd w.ac i]⟩:=b4;have aX:Fx Y2 Y4 []:=F3.tn Z N3.no;have D:=B2.kp aX;have A4:=A2.fxn aX;have a4:=D.bx;simp only[qz 66,aPF a4,u0,u1,a4,bL,rkB,rk,au,aj,sY,ar,↓uL];refine⟨⟨by omega,(W.dp _ S).1,(W.th _ S).1,W.ct _ (W.th _ S).1⟩,λt=>?_⟩;have bR:=hI (gd w.ac i).aq (gd w.ac i).dI;have cJ:=(W.dp _ S).1;have av:kX ns w i=(aH<|L<|fg w (gd w.ac i).aq (gd w.ac i).dI).flatMap (qv ns i<|fg w (gd w.ac i).aq (gd w.ac i).dI):=rfl;rw[av] at lA;generalize hl:fg w (gd w.ac i).aq (gd w.ac i).dI=l at*;refine yV (L l) (λj _ Y'=>∃m,cm Y' b w ns (out++(aH<|L w.ac).flatMap (gW ns w)++(aH i).flatMap (kX ns w)++(aH j).flatMap (qv ns i l)) n m/\Ad Y Y' b a m) ⟨a2,by simpa using D,A4⟩ ?_;rintro j _ Y5 hj ⟨a5,N,A5⟩;have cM:=fU (f:=qv ns i l) hj;simp+contextual only[qz 313,au,aI,u0,u1,wu,iF,bh,↓uL];refine⟨λh5=>⟨u7 h5,?_⟩,λh5=>?_⟩;refine bno (d:=0) N o _ ?_;simp only[qz 68,de o,aY,↓uL];refine zS (d:=0) N o _ ?_;simp only[qz 70,fi,bQ,qz 72,↓uL];refine fQ N (by simp only[a6G];omega) [_,_] λa6 Y6 B6 A6=>?_;simp only[qz 74,au,u0,u1,↓uL];refine yU (aL h5) ⟨a6,?_,A5.trans A6⟩;rw[aNG,<-bje];exact B6;refine yU S ⟨a5,?_,A5⟩;rw[aNG,<-bje,av];rw[bP hj<|bw h5] at N;exact N;rw[bP hi<|bw h2] at B2;exact⟨a2,rfl,by rw[rJ];simpa using B2,A2⟩
end
section
variable{Y:ae}{b:Id}{w:am}{ns:List aH8}{out:List (List Int)}{n a:AV}{d:Nat}{K:be}
end
def iW(ns:List aH8)(x:aH8):List (List Int):=[[-dP ns x,lE ns x.a]]++(if 0<=x.b then[[-dP ns x,lE ns x.b],[-dP ns x,lB ns x.b x.a]] else[])
def ju(ns:List aH8)(x y:aH8):List (List Int):=if x.b=y.b then[[-dP ns x,-dP ns y]] else[]
def lP(ns l:List aH8)(i:Nat):List (List Int):=(aH<|L<|l.drop<|i+1).flatMap λj=>ju ns (gd l i)<|gd (l.drop<|i+1) j
def jk(ns:List aH8)(w:am)(x y:aH8):List (List Int):=if x.a=y.a/\(gd w.ac x.a.toNat).kind=18 then[[-dP ns x,-dP ns y]] else[]
def lQ(ns:List aH8)(w:am)(l:List aH8)(i:Nat):List (List Int):=(aH<|L<|l.drop<|i+1).flatMap λj=>jk ns w (gd l i)<|gd (l.drop<|i+1) j

def aC4{Y:ae}:vl (V 22) Y (.q pI)=V (.a pI):=by kernel_rfl
def avT{k:Nat}(h:k<22):sI 22 1 J (.a pI) (iv k)=V (st<|gd ik k):=by have b:pI[k]?=V (st<|gd ik k):=(by have c:k<L ik:=h;grind [bT,eC]);grind [sI,yy]
def brJ(s:ByteArray):Ct 248 [st s] (·=bv (rZ s)):=by refine aMG λs0 _ e=>?_;simp only[akc,aC4,aY,↓uL];refine bhZ 22 (λk=>∀j,j<k->gd ik j≠s) (by simp) λk g b=>?_;simp+contextual only[qz 19,aI,u0,u1,au,↓uL];refine⟨λh=>?_,λh=>?_⟩;have a:k<22:=(by grind);rw[avT a];simp+contextual only[u0,u1,↓uL];refine⟨λf=>?_,by grind [gS]⟩;have:rZ s=U:=(by rw[rZ,tL];exact⟨gd ik k,ig (l:=ik) a,by simp_all⟩);rw[this];have a:k=22:=(by grind);have:rZ s=I:=(by rw[rZ,List.any_eq_false];intro x d;have:=(px (l:=ik) (p:=λx=>x≠s)).1 (λj c=>b j<|by rw[a];exact c) x d;simp_all);rw[this]
def Gg:FT:=lH brJ
def azB{s Lw K}:=np Gg brJ s Lw K
def NM(i n:Int):Ct 207 [iv i,iv n] (·=bv (dh i n)):=by refine aJ1 λs0 b a=>?_;simp+contextual only[S0,u0,u1,dh,↓uL]
def EZ:FT:=lI NM
def axZ{i n Lw K}:=f200 EZ NM i n Lw K
def OA(i n:Int):Ct 208 [iv i,iv n] (·=bv (dh i n)):=by refine aLb λs0 b a=>?_;simp+contextual only[abM,u0,u1,dh,↓uL]
def ry:FT:=lI OA
def ayx{i n Lw K}:=f200 ry OA i n Lw K
def Oz(t:aoC)(c:Int):Ct 255 [.a t.c,iv c] (·=bv (Q (t.cQ=3)&&Q (t.cond=c))):=by refine aLa rfl λs0 e b d=>?_;simp+contextual only[abL,u0,u1,b,rk,aj,↓uL]
def BV:FT:=lI Oz
def ayw{t c Lw K}:=f200 BV Oz t c Lw K
def btG(e:aP):Ct 167 [.a e.c] (·=bv (fR e)):=by refine aKC rfl λs0 f b d=>?_;simp+contextual only[YD,u0,u1,b,rk,aj,fR,↓uL]
def brV:FT:=lH btG
def ax5{e Lw K}:=np brV btG e Lw K
def NQ(e:aP):Ct 225 [.a e.c] (·=bv (pN e)):=by refine aKB rfl λs0 f b d=>?_;simp+contextual only[YC,u0,u1,b,rk,aj,pN,↓uL]
def aTR:FT:=lH NQ
def ax4{e Lw K}:=np aTR NQ e Lw K
def PU(w:J9)(e:aP):Ct 211 [.a w.c, .a e.c] (·=bv (!tA w e)):=by refine aML rfl rfl λs0 i b d g=>?_;simp+contextual only[aku,u0,u1,b,d,rk,ix,aj,tA,bdZ,bdT,↓uL];refine⟨λh=>?_,λh=>⟨λf=>dX.1 f,?_⟩⟩;simp;simp[dh,BI]
def Gl:FT:=lI PU
def azG{w e Lw K}:=f200 Gl PU w e Lw K
def oW(l:List Int)(n:Int):Int:=match l.findIdx? (λx=>Q<|x=n) with|some i=>i|none=> -1
theorem anR{l:List Int}{n:Int}{k:Nat}(b:k<L l)(h:∀j,j<k->gd l j≠n)(a:gd l k=n):oW l n=k:=by have:l.findIdx? (λx=>Q<|x=n)=V k:=(by grind [RL,bT]);rw[oW,this]
theorem anS{l:List Int}{n:Int}(h:∀j,j<L l->gd l j≠n):oW l n= -1:=by have:l.findIdx? (λx=>Q<|x=n)=J:=(by rw[GB];intro x a;have:=(px (p:=λx=>x≠n)).1 h x a;simp_all);rw[oW,this]
def PO(l:List Int)(n:Int)(e:L l<4611686018427387904):Ct 169 [sl ci l,iv n] (·=iv (oW l n)):=by refine aMC λs0 _ a=>?_;simp only[JR,aI,cT,aY,↓uL];refine bhZ (L l) (λk=>∀j,j<k->gd l j≠n) (by simp) λk d c=>?_;simp+contextual only[qz 19,JR,u0,u1,ix,rk,bh,au,aI,↓uL];refine⟨λh=>⟨u7 h,λb=>?_,by grind [gS,aL]⟩,λh=>?_⟩;grind [anR,aL];grind [anS,bkb,bw]
def Cq:FT:=aIc PO
def bvu{l n Lw K}:=f210 Cq PO l n Lw K
def PX(w:am)(q:L w.ac<1000000/\L w.init.count<1000000):Ct 75 [.a w.c] (·=bv (rM w)):=by refine aMO rfl λt o d n=>?_;simp only[JZ,u0,u1,d,rk,aj,dc,cT,↓uL];refine yh (λs:Int×Nat=>[iv s.1,iv s.2]) 1 (L w.init.count) (λs=>s.2<=L w.init.count/\s.1=bhL w.init.count s.2/\∀j,j<s.2->0<=gd w.init.count j/\gd w.init.count j<=400) (0,0) (by grind [bhL]) ?_;rintro⟨g,i⟩ ⟨e,k,b⟩;simp only at e k b;simp+contextual only[qz 25,JZ,u0,u1,ix,rk,d,aj,dc,bh,au,ck,aI,↓uL];have m:=aoN b e;have r:i<L w.init.count->(Q (gd w.init.count i<0)||Q (400<gd w.init.count i))=U->rM w=I:=(by grind [ig,rM]);refine⟨λh=>⟨u7 h,(by simp_all),λf=>?_⟩,λh=>?_⟩;have:=aL h;simp only[cP,j5,Int.not_lt] at f;refine wN (enc:=λs:Int×Nat=>[iv s.1,iv s.2]) (s:=(g,i)) (s':=(g+gd w.init.count i,i+1)) (i:=i) ?_ rfl rfl (aL h) ⟨aL h,?_,a6p b f⟩;grind [fX,eM];grind [Ra,aL];have l:i=L w.init.count:=(by grind);have hs:bhL w.init.count i=w.init.count.sum:=(by rw[l,bhL,gV]);have p:∀c∈w.init.count,0<=c/\c<=400:=px.1 (by simp_all);grind [eM,rM,decide_eq_true]
def aUv:FT:=mT PX
def azJ{w Lw K}:=oK aUv PX w Lw K
def aXJ(s:sA)(h:(∀j,j<L s.bU->L s.bW.done=L s.bU/\(gd s.bW.done j=I->gd s.bU j=0))/\L s.bU=L s.bW.done/\L s.bU<1000000):Ct 78 [.a s.c] (·=bv U):=by refine aMR rfl λs0 g b d=>?_;simp+contextual only[J0,u0,u1,b,rk,ix,aj,dc,cT,↓uL];refine bhZ (L s.bW.done) (λk=>True) trivial λk f e=>?_;simp+contextual only[qz 19,J0,u0,u1,b,ix,rk,bh,au,aI,aj,dc,↓uL];grind [dJ,aL,gS,eH,absurd]
def Gs:FT:=mT aXJ
def azM{s Lw K}:=oK Gs aXJ s Lw K
def Qb(w:am)(s:uZ w=U/\(∀j,j<L w.init.bW.ay->pX w j=U)/\L w.init.count=L w.init.bW.ay/\L w.init.bW.ay<1000000/\L w.init.bW.ak=L w.aQ.ak/\(∀c∈w.aQ.bC,aF (L w.aQ.ak) c.eg)):Ct 76 [.a w.c] (·=bv U):=by obtain⟨p1,t,y,z,A,B⟩:=s;refine aMU rfl λs0 r f u=>?_;simp+contextual only[Kc,u0,u1,f,rk,ix,aj,dc,cT,↓uL];refine pQ (L w.init.bW.ay) [4] (λk=>True) trivial λk Y x v i=>?_;have g:box Y (1,1)=_:=i.bt f;simp+contextual only[qz 19,di,qz 41,qy 4,u0,u1,g,ix,rk,bh,au,aI,aj,dc,↓uL];refine⟨λh=>⟨u7 h,?_⟩,λh=>trivial⟩;refine eF rfl rfl (by decide) (by rw[i.1,r];decide) λd n o=>?_;have p:box d (1,1)=_:=n.bt g;have nx:fI s0 [4] (L w.init.bW.ay) (λ_=>True) [iv<|dq.wrap<|(k:Int)+1] d/\fM (L w.init.bW.ay) [iv<|dq.wrap<|(k:Int)+1] d<fM (L w.init.bW.ay) [iv k] Y:=(by grind [oL,aL,Fr.trans]);have hs:=qc p1 k<|aL h;have e:=t k<|aL h;simp only[aOK,Eu,zX,bN,eH] at hs;simp only[pX,bN,eH] at e;simp+contextual only[qz 39,qz 6,qz 41,qy 4,qz 19,Kc,↓iC,↓iB,↓iS,u0,u1,p,o,ix,rk,bh,au,aI,aj,dc,↓uL];simp only[cP] at hs e;obtain⟨⟨⟨⟨C,D⟩,E⟩,F⟩,G,H⟩:=hs;obtain⟨_,K⟩:=e;refine⟨λq=>?_,λq=>⟨by grind [dJ,aL],λl=>?_,λl=>⟨λm=>⟨λb=>?_,λ_=>nx⟩,λm=>⟨λb=>?_,λb=>?_⟩⟩⟩⟩;grind;simp_all;simp_all;grind [decide,gd,dh];grind [decide,gd,aF,dX,ii]
def Gu:FT:=mT Qb
def azO{w Lw K}:=oK Gu Qb w Lw K
def brb{x y:Bool}:tY [bv I,bv I] 1 [(0,bv x),(1,bv y)]=V (.a [bv x,bv y]):=rfl
def brl{x y:List Int}:tY [.l [] U U, .l [] U U] 1 [(0,sl ci x),(1,sl ci y)]=V (.a [sl ci x,sl ci y]):=rfl
def ax2{a b:List Int}{k:Nat}(h:k<2):sI 2 1 J (.a [sl ci a,sl ci b]) (iv k)=V (sl ci<|if k=0 then a else b):=by match k,h with|0,_=>rfl|1,_=>rfl
def ia2{Y:ae}{b:Id}{x:bY}{k:Nat}(a:box Y b=V x)(h:k<2):wm 2 1 Y (.p b 0 0) (iv k)=V (.p b 0 k):=by grind [wm]
def ld2{x y:Bool}{k:Nat}(h:k<2):aN J ([bv x,bv y].drop k)=V (bv<|if k=0 then x else y):=by match k,h with|0,_=>rfl|1,_=>rfl
def PS(w:J9)(s:sA)(e:aP)(A:yM w e=I/\yN e=I/\lZ e.dI (gd s.count e.aq.toNat)/\lZ e.ep (gd s.count e.aq.toNat)/\aF (L s.count) e.aq/\(e.kind=3\/e.kind=4->aF (L w.cells) e.bF)/\vo e):Ct 212 [.a w.c, .a s.c, .a e.c] (·=bv U):=by obtain⟨p1,O,P,R,B,S,u⟩:=A;refine aMJ rfl rfl rfl λs0 N n o p D=>?_;simp+contextual only[JY,qy 8,u0,u1,n,o,p,rk,ix,aj,dc,cT,brb,↓uL];refine⟨(by simp_all),?_⟩;refine eF rfl rfl (by decide) (by omega) λY F g=>?_;have v:box Y (3,1)=_:=F.bt n;have q:box Y (4,1)=_:=F.bt o;have r:box Y (5,1)=_:=F.bt p;simp+contextual only[qz 10,u0,u1,v,q,r,g,rk,ix,aj,dc,cT,brl,↓uL];refine bhZ 2 (λ_=>True) trivial λk M _=>?_;simp+contextual only[qz 31,aI,au,u0,u1,uR,↓uL];refine⟨λh=>?_,λh=>trivial⟩;have j:k<2:=(by grind);rw[ax2 j];have x:lZ (if k=0 then e.dI else e.ep) (gd s.count e.aq.toNat):=(by grind);have z:L (if k=0 then e.dI else e.ep)<4611686018427387904:=(by split;exact u.1;exact u.2);have K:∀a b:Bool,a=(Q (e.kind=5)||(Q (e.kind=3)||Q (e.kind=4))&&Q ((gd w.cells e.bF.toNat).size≠0))->b=(Q (e.kind=4)||Q (e.kind=22))->(Q ((0:Int)<L (if k=0 then e.dI else e.ep))&&!(if k=0 then a else b))=I:=(by grind [yM,yN]);generalize(if k=0 then e.dI else e.ep)=l at*;simp+contextual only[u0,u1,cT,ia2 g j,g,aj,ld2 j,↓uL];refine⟨λt=>?_,λ_=>?_⟩;grind;refine yh (λa:Int×Nat=>[iv a.1,iv a.2]) 1 (L l) (λa=>a.2<=L l/\a.1=if a.2=0 then 0 else gd l (a.2-1)) (0,0) ⟨by simp,by simp⟩ ?_;rintro⟨C,i⟩ ⟨y,f⟩;simp only at y f;subst f;simp+contextual only[qz 91,aI,au,ck,u0,u1,ix,rk,q,r,aj,bh,↓uL];refine⟨λd=>⟨u7 d,λ_=>B,λt=>?_,λ_=>?_⟩,by grind [gS]⟩;have m:=x i<|aL d;exfalso;simp only[fH,j4] at t;have E:=m.2.2;have G:=m.1;have H:=m.2.1;omega;refine wN (enc:=λa:Int×Nat=>[iv a.1,iv a.2]) (i:=i) (s:=(_,i)) (s':=(gd l i,i+1)) ?_ rfl rfl (aL d) ⟨aL d,by simp⟩;grind [fX,aL]
def Gj:FT:=qe PS
def azE{w s e Lw K}:=f310 Gj PS w s e Lw K
def PV(s:sA)(e:aP)(A:aO8 s e=U/\L s.bW.ay<1000000/\(e.kind=3->aF (L s.cells) e.bF)/\(e.kind=23->aF (L s.bU) e.bF)):Ct 213 [.a s.c, .a e.c] (·=bv U):=by obtain⟨p1,H,K,M⟩:=A;refine aMM rfl rfl λs0 t x j E=>?_;simp only[akv,↓uL];simp+contextual only[a7i,qz 59,qz 57,au,aI,↓iC,↓iB,↓iS,u0,u1,x,j,rk,ix,aj,dc,cT,wl,asq,zp,↓uL];have D:∀v:aG,True:=λ_=>trivial;refine⟨λh=>⟨(by simp_all),?_⟩,λF=>⟨λh=>⟨(by simp_all),?_⟩,λC=>⟨λh=>?_,λG=>⟨λy=>⟨trivial,λh=>nomatch h⟩,λy=>⟨trivial,λB=>⟨λo=>?_,λo=>⟨λq=>?_,λq=>?_⟩⟩⟩⟩⟩⟩⟩;grind [aO8];grind [aO8];grind [aO8];have u:(bif Q ((L (fO s.bW e.bF):Int)=0) then Q (e.value= -1) else Q (0<=e.value)&&(Q (e.value<L s.bW.ay)&&Q (e.value∈fO s.bW e.bF)))=U:=(by grind [aO8]);refine jD (α:=Int×Bool) (λa i=>[iv a.1,bv a.2,iv i]) 2 (L s.bW.ay) (λk a Y'=>a=((L (eh s.bW e.bF k):Int),Q<|e.value∈eh s.bW e.bF k)/\Fr s0 Y' [8]) (s0:=(0,I)) ⟨by simp[eh],Fr.refl _ _⟩ ?_;rintro k _ Y z ⟨rfl,b⟩;have f:box Y (3,1)=_:=b.bt j;have w:=wU s.bW e.bF k;simp+contextual only[qz 97,di,qz 119,qy 6,u0,u1,f,ix,rk,bh,au,ck,nr,aI,aj,dc,↓uL];refine⟨λh=>⟨u7 h,?_⟩,λh=>?_⟩;refine eF rfl rfl (by decide) (by rw[b.1,t];decide) λg d l=>?_;have m:box g (3,1)=_:=d.bt f;simp+contextual only[qz 8,u0,u1,m,l,rk,aj,dc,au,ck,nr,qz 117,aI,↓uL];refine⟨λn=>?_,λn=>?_⟩;refine dR (mk:=λa i=>[iv a.1,bv a.2,iv i]) (p:=2) (s:=((L (eh s.bW e.bF k):Int),Q<|e.value∈eh s.bW e.bF k)) (s':=(dq.wrap ((L (eh s.bW e.bF k):Int)+1),Q (e.value∈eh s.bW e.bF k)||Q (e.value=(k:Int)))) (λ_ _=>rfl) (aL h) (by omega) ?_;refine⟨?_,b.trans d⟩;grind [pe,vc,fX];refine dR (mk:=λa i=>[iv a.1,bv a.2,iv i]) (p:=2) (s:=((L (eh s.bW e.bF k):Int),Q<|e.value∈eh s.bW e.bF k)) (s':=((L (eh s.bW e.bF k):Int),Q<|e.value∈eh s.bW e.bF k)) (λ_ _=>rfl) (aL h) (by omega) ?_;refine⟨?_,b.trans d⟩;grind [pe,vc];have r:k=L s.bW.ay:=(by grind);subst r;change(bif Q ((L (eh s.bW e.bF<|L s.bW.ay):Int)=0) then Q (e.value= -1) else Q (0<=e.value)&&(Q (e.value<L s.bW.ay)&&Q (e.value∈eh s.bW e.bF (L s.bW.ay))))=U at u;grind;have u:e.value=L (fO s.bW e.bF):=(by grind [aO8]);refine jD (α:=Int) (λa i=>[iv a,iv i]) 1 (L s.bW.ay) (λk a Y'=>a=(L (eh s.bW e.bF k):Int)/\Fr s0 Y' [11]) (s0:=0) ⟨by simp[eh],Fr.refl _ _⟩ ?_;rintro k _ Y z ⟨rfl,b⟩;have f:box Y (3,1)=_:=b.bt j;have w:=wU s.bW e.bF k;simp+contextual only[qz 169,di,qz 191,qy 10,u0,u1,f,ix,rk,bh,au,ck,nr,aI,aj,dc,↓uL];refine⟨λh=>⟨u7 h,?_⟩,λh=>?_⟩;refine eF rfl rfl (by decide) (by rw[b.1,t];decide) λg d l=>?_;have m:box g (3,1)=_:=d.bt f;simp+contextual only[qz 12,u0,u1,m,l,rk,aj,dc,au,ck,nr,qz 189,aI,↓uL];refine⟨λn=>?_,λn=>?_⟩;refine dR (mk:=λa i=>[iv a,iv i]) (s:=_) (s':=dq.wrap<|(L (eh s.bW e.bF k):Int)+1) (λ_ _=>rfl) (aL h) (by omega) ?_;refine⟨?_,b.trans d⟩;grind [pe,vc,fX];refine dR (mk:=λa i=>[iv a,iv i]) (s:=_) (s':=(L (eh s.bW e.bF k):Int)) (λ_ _=>rfl) (aL h) (by omega) ?_;refine⟨?_,b.trans d⟩;grind [pe,vc];grind [bP,bw,fO];grind [aO8]
def Gm:FT:=aIc PV
def azH{s e Lw K}:=f210 Gm PV s e Lw K
def NU(w:am)(c u:Int)(O:L w.ac<100000/\L w.init.bW.ay<100000):Ct 226 [.a w.c,iv c,iv u] (λr=>∃t,r= .l ((mR w c u).map ci) t U):=by refine aKF rfl λP D s M=>?_;simp+contextual only[Zj,u0,u1,s,ix,rk,aj,dc,↓uL];refine iu (λa i=>[a,iv i]) 1 [40,68] [40,68,9] 3 1 (L w.init.bW.ay) (λk=>(iH w c u k).map ci) (λ_=>True) trivial (.inl ⟨rfl,rfl⟩) λk a Y N _ C m=>?_;have B:box Y (3,1)=_:=m.bt s;have o:L Y=4096:=(by rw[m.1,D]);have K:=qX (vf w c u) k;simp only[qz 25,aI,di,u0,u1,qz 47,qy 4,ix,rk,bh,B,aj,↓uL];refine⟨λh=>⟨u7 h,?_⟩,λh=>?_⟩;refine eF rfl rfl (by decide) (by omega) λy b p=>?_;simp+contextual only[qz 6,qy 8,qy 10,u0,u1,p,rk,aj,iz,↓uL];have H:=aL h;rw[eM (x:= -1-(k:Int)) (by omega)<|by omega];refine⟨λd=>?_,λd=>?_⟩;refine fP (C.fr b<|by decide) rfl (by decide) (by decide) (by rw[b.1,o];decide) pU (by simp) (by grind [iH,bJ,a6G,bZ,aO1]) λA z v f=>?_;simp only[qz 45,aI,au,fE,cS,aY,↓uL];refine bcW (mk:=λa i=>[a,iv i]) (λ_ _=>rfl) (aL h) (by omega) trivial ?_ (m.trans<|(b.mono<|by decide).trans<|f.mono<|by decide);grind [vf,iH,yK];simp only[qz 45,aI,au,fE,cS,aY,↓uL];refine bcW (mk:=λa i=>[a,iv i]) (λ_ _=>rfl) (aL h) (by omega) trivial ?_ (m.trans<|b.mono<|by decide);have F:vf w c u k=I:=d;have e:iH w c u (k+1)=iH w c u k:=(by grind [iH,yK]);grind [Gr.fr];have j:k=L w.init.bW.ay:=(by grind);subst j;refine iu (λa i=>[a,iv i]) 1 [40,68] [40,68,11] 3 1 (L w.ac) (λk=>(iH w c u (L w.init.bW.ay)++fw (wV w c u) k).map ci) (λ_=>True) trivial (by grind [fw]) λk a Y' G _ n g=>?_;have q:L Y'=4096:=(by rw[g.1,o]);have E:=qX (wV w c u) k;simp only[qz 73,aI,di,u0,u1,qz 95,qy 12,ix,rk,bh,↓uL];refine⟨λh=>⟨u7 h,?_⟩,λh=>?_⟩;refine eF rfl rfl (by decide) (by omega) λy b p=>?_;simp+contextual only[qz 14,qy 16,qy 18,u0,u1,p,rk,aj,iz,↓uL];refine⟨λd=>?_,λd=>?_⟩;refine fP (n.fr b<|by decide) rfl (by decide) (by decide) (by rw[b.1,q];decide) pU (by simp) (by grind [iH,bJ,a6G,bZ,aO1]) λA z v f=>?_;simp only[qz 93,aI,au,fE,cS,aY,↓uL];refine bcW (mk:=λa i=>[a,iv i]) (λ_ _=>rfl) (aL h) (by omega) trivial ?_ (g.trans<|(b.mono<|by decide).trans<|f.mono<|by decide);rw[Bo d];exact v;simp only[qz 93,aI,au,fE,cS,aY,↓uL];refine bcW (mk:=λa i=>[a,iv i]) (λ_ _=>rfl) (aL h) (by omega) trivial ?_ (g.trans<|b.mono<|by decide);rw[yJ d];grind [Gr.fr];have j:k=L w.ac:=(by grind);subst j;exact qV n λt=>⟨t,rfl⟩
def aTS:FT:=vn NU
def ax7{w c u Lw K}:=f311 aTS NU w c u Lw K
def zV(l:List cA):List ByteArray:=(jv l (L l) 0 []).getD []
def aEq{x y:cA}:a6F .neq 2 [(0,2),(1,0),(2,0),(3,1),(4,0)] (.a x.c) (.a y.c)=V (bv<|Q<|x≠y):=by obtain⟨a,b,c,d,e⟩:=x;obtain⟨f,g,h,i,j⟩:=y;have hs:(a.toList==f.toList)=Q (a=f):=(by have:=alq (a:=a) (b:=f);grind [a6F,zP]);by_cases k:a=f<;>by_cases l:b=g<;>by_cases m:c=h<;>by_cases n:d=i<;>by_cases o:e=j<;>simp[a6F,cA.c,nW,sS,hs,k,l,m,n,o]
def NI(l:List cA)(hp:(jv l (L l) 0 []).isSome=U/\L l<=12):Ct 143 [sl cA.c l] (λr=>∃t o,r= .t [.l ((zV l).map cs) t o,bv U]):=by refine aJY λw hl h0=>?_;obtain⟨ns,D⟩:=zz.1 hp.1;have W:zV l=ns:=(by rw[zV,D];rfl);rw[W];have ar:=hp.2;simp only[SC,↓uL];refine⟨λvs Y=>∃(i f:Nat) (a:AV) (b:List ByteArray),vs=[a,iv i]/\i<=L l/\L b<=i/\L l-i<=f/\jv l f i b=V ns/\Gr Y [20] 9 1 a (b.map cs)/\Fr w Y [20,6],gM 1<|L l,⟨0,L l,_,[],rfl,by omega,by simp,by omega,D,Gr.nil,Fr.refl _ _⟩,?_⟩;rintro vs Y ⟨i,f,a,b,rfl,hi,ah,hf,g,H,T⟩;have C:L Y=4096:=(by rw[T.1,hl]);simp only[qz 25,qy 2,aI,u0,u1,rk,aj,ix,bh,au,ck,cT,↓uL];refine⟨λh=>⟨u7 h,?_⟩,λh=>?_⟩;refine eF rfl rfl (by decide) (by omega) λY2 u O=>?_;simp+contextual only[qz 4,qy 6,u0,u1,O,rk,aj,iz,au,↓uL];refine fP (H.fr u<|by decide) rfl (by decide) (by decide) (by rw[u.1,C];decide) (by simp) (by simp) (by grind) λq p g3 E=>?_;have P:box p (6,(aZ Y 6).I6+1)=_:=E.bt O;simp+contextual only[qz 8,↓iC,↓iB,↓iS,u0,u1,P,rk,aj,au,ck,cT,↓uL];have Z:=aL h;obtain⟨f,rfl⟩:∃f',f=f'+1:=⟨f-1,by omega⟩;rw[jv,f8 Z] at g;have next:∀j Y',a7d l i=V j->i<j->j<=L l->Gr Y' [20] 9 1 q ((b++[(gd l i).name]).map cs)->Fr w Y' [20,6]->(∃(i f:Nat) (a:AV) (b:List ByteArray),[q,iv (j:Int)]=[a,iv i]/\i<=L l/\L b<=i/\L l-i<=f/\jv l f i b=V ns/\Gr Y' [20] 9 1 a (b.map cs)/\Fr w Y' [20,6])/\gM 1 (L l) [q,iv (j:Int)] Y'<gM 1 (L l) [a,iv i] Y:=(by intro j Y' hs ap hj G' F';rw[hs] at g;refine⟨⟨j,f,q,b++[(gd l i).name],rfl,hj,by simp;omega,by omega,g,G',F'⟩,?_⟩;grind [gM,fE,au,bh]);have z:Gr p [20] 9 1 q ((b++[(gd l i).name]).map cs):=(by simp_all);have y:Fr w p [20,6]:=T.trans ((u.mono<|by decide).trans<|E.mono<|by decide);rw[fX (by omega),eM (x:=(L l:Int)-i) (by omega)<|by omega];have aq:a7d l i≠J:=(by grind);refine⟨λhs=>⟨λhx=>?_,λhx=>next (i+1) p ?_ (by omega) (by omega) z y⟩,λhs=>⟨λK=>?_,λK=>?_⟩⟩;grind [absurd,a7d];grind [decide_eq_false_iff_not,a7d];exfalso;simp only[j5] at hs;have ab:¬((gd l i).size<1\/4<(gd l i).size\/(L l:Int)-i<(gd l i).size):=(by grind [a7d]);have n:∀k,k<(gd l i).size.toNat->sM (gd l i) (gd l<|i+k) k=U:=(by grind [a7d]);have ao:=n 0 (by omega);grind [sM,eH,cP];simp only[j5] at hs;simp only[cP,j5] at K;obtain⟨⟨⟨q1,q2⟩,q3⟩,q4⟩:=K;have ab:¬((gd l i).size<1\/4<(gd l i).size\/(L l:Int)-i<(gd l i).size):=(by omega);have n:∀k,k<(gd l i).size.toNat->sM (gd l i) (gd l<|i+k) k=U:=(by grind [a7d]);have X:a7d l i=V (i+(gd l i).size.toNat):=(by grind [a7d]);refine yV (gd l i).size.toNat (λk _ Y'=>(∃m,box Y' (6,(aZ Y 6).I6+1)=V ⟨175,5,U,U,[cA.c {gd l i with index:=m}]⟩)/\Fr p Y' [6]) ⟨⟨(gd l i).index,P⟩,Fr.refl _ _⟩ ?_;rintro k _ N hk ⟨⟨m,R⟩,F⟩;have am:L N=4096:=(by rw[F.1,E.1,u.1,C]);simp only[qz 121,aI,u0,u1,R,rk,aj,au,ck,↓uL];refine⟨λG=>?_,λG=>?_⟩;simp only[j4] at G;have B:k<(gd l i).size.toNat:=(by omega);refine Ev R (by omega) rfl (by simp[cA.c]) λY5 F5 b5=>?_;have S:box Y5 (6,(aZ Y 6).I6+1)=V ⟨175,5,U,U,[cA.c {gd l i with index:=k}]⟩:=b5;simp only[qz 10,au,ck,u0,u1,↓uL];rw[show dq.wrap ((i:Int)+k)=((i+k:Nat):Int) by grind [eM]];simp only[ix,u0,u1,bh,rk,S,aEq,↓uL];refine⟨dJ (by omega),λA=>?_,λA=>?_⟩;exfalso;have:=n k B;simp only[sM,eH,cP,j5,aNS,brW] at this;obtain⟨⟨⟨⟨w1,w2⟩,w3⟩,w4⟩,w5⟩:=this;refine qc A ?_;generalize gd l (i+k)=x at*;obtain⟨x1,x2,x3,x4,x5⟩:=x;grind;exact yU B (by grind [Fr.trans]);simp only[j5] at G;have e:dq.wrap ((i:Int)+(gd l i).size)=((i+(gd l i).size.toNat:Nat):Int):=(by grind [eM]);rw[e];exact next _ N X (by omega) (by omega) (z.fr F<|by decide) (y.trans<|F.mono<|by decide);have M:ns=b:=(by have:=bw h;cases f<;>simp[jv,Nat.not_lt.2 this] at g<;>exact g.symm);subst M;obtain⟨x,o,e⟩:=sU H;have s:jS Y [a,bv U]= .t [.l (ns.map cs) x o,bv U]:=(by show AV.t [iZ Y a,bv U]=_;have:iZ Y a=dQ Y a:=(by rcases H with⟨_,rfl⟩|⟨d,v,rfl,_⟩<;>rfl);rw[this,e]);refine⟨?_,x,o,s⟩;rw[s];rfl
def EW:FT:=om NI
def axW{l Lw K}:=f111 EW NI l Lw K
def NK(w:J9)(z:(∀j,j<L w.dU->aOg w j=I)/\L w.dU<=60):Ct 146 [.a w.c] (·=bv U):=by refine aJ0 rfl λs0 v f H=>?_;simp+contextual only[SV,u0,u1,f,rk,ix,aj,dc,cT,↓uL];refine jD (α:=Int×Int) (λa i=>[iv a.1,iv a.2,iv i]) 2 (L w.dU) (λk a Y'=>(a=if k=0 then(0,0) else((gd w.dU<|k-1).aq,(gd w.dU<|k-1).stmt+1))/\(0<=a.2/\a.2<=k)/\Fr s0 Y' [6]) (s0:=(0,0)) (by grind [Fr.refl]) ?_;rintro k ⟨b,nx⟩ Y M ⟨K,n,m⟩;have g:box Y (1,1)=_:=m.bt f;simp+contextual only[qz 25,qy 4,u0,u1,g,ix,rk,bh,au,ck,nr,aI,aj,dc,↓uL];refine⟨λh=>⟨u7 h,?_⟩,λh=>trivial⟩;refine eF rfl rfl (by decide) (by rw[m.1,v];decide) λe q r=>?_;have t:box e (1,1)=_:=q.bt g;have hs:=z.1 k<|aL h;simp only[aOg,cP] at hs;obtain⟨⟨B,C⟩,N⟩:=hs;simp only[j5] at B C;have o:=aL h;simp only at n;have key:¬((gd w.dU k).aq<b)/\(b<(gd w.dU k).aq->(gd w.dU k).stmt=0)/\(¬b<(gd w.dU k).aq->(gd w.dU k).stmt=nx):=(by grind [eM]);obtain⟨E,F,G⟩:=key;have D:∀x y:Int,x=(gd w.dU k).aq->y=(gd w.dU k).stmt->0<=y->y<=k->yI (λ(a:Int×Int) i=>[iv a.1,iv a.2,iv i]) (L w.dU) (λk a Y'=>(a=if k=0 then(0,0) else((gd w.dU<|k-1).aq,(gd w.dU<|k-1).stmt+1))/\(0<=a.2/\a.2<=k)/\Fr s0 Y' [6]) [iv x,iv<|dq.wrap<|y+1,iv<|dq.wrap<|(k:Int)+1] e/\gM 2 (L w.dU) [iv x,iv<|dq.wrap<|y+1,iv<|dq.wrap<|(k:Int)+1] e<gM 2 (L w.dU) [iv b,iv nx,iv k] Y:=(by rintro x y rfl rfl l d;have A:dq.wrap ((gd w.dU k).stmt+1)=(gd w.dU k).stmt+1:=(by grind [eM]);rw[A];refine dR (mk:=λ(a:Int×Int) i=>[iv a.1,iv a.2,iv i]) (p:=2) (s:=(b,nx)) (s':=((gd w.dU k).aq,(gd w.dU k).stmt+1)) (λ_ _=>rfl) o (by omega) ?_;grind [Fr.trans]);simp+contextual only[qz 6,a7i,qz 77,qz 75,u0,u1,t,r,rk,aj,dc,au,ck,nr,aI,cT,↓uL];refine⟨λu=>?_,λu=>⟨λl=>⟨λd=>?_,λd=>?_⟩,λl=>⟨λd=>?_,λd=>?_⟩⟩⟩;grind;simp_all;grind;simp_all;grind
def EY:FT:=mT NK
def axY{w Lw K}:=oK EY NK w Lw K
def api:dO:=(248,Gg)::(207,EZ)::(208,ry)::(255,BV)::(167,brV)::(225,aTR)::(211,Gl)::(169,Cq)::(75,aUv)::(78,Gs)::(76,Gu)::(212,Gj)::(213,Gm)::(226,aTS)::(143,EW)::(146,EY)::Rl
def sf:eJ api:=sz (nH brJ)<|sz (nI NM)<|sz (nI OA)<|sz (nI Oz)<|sz (nH btG)<|sz (nH NQ)<|sz (nI PU)<|sz (aCb PO)<|sz (pg PX)<|sz (pg aXJ)<|sz (pg Qb)<|sz (tE PS)<|sz (aCb PV)<|sz (By NU)<|sz (rj NI)<|sz (pg NK)<|jT
def aQS:=ai @azB<|ai @axZ<|ai @ayx<|ai @ayw<|ai @ax5<|ai @ax4<|ai @azG<|ai @bvu<|ai @azJ<|ai @azM<|ai @azO<|ai @azE<|ai @azH<|ai @ax7<|ai @axW<|ai @axY<|@sY
def ave:=I5 14 [(6,([],[18]))]
def ake a s0 R:=(.mk _:NR api ave Tryz.f206 [a] [] s0 R).p
def aMH{a:AV}{R:cC}(h:H0 λs0=>ake a s0 R):Ct 206 [a] R:=z0 ave sf Tryz.func206 h
def aYG a a1 b c R:=(.mk _:NR api at1 Tryz.f145 [.u,a1,b] [a] c R).p
def aJX{c0:List AV}{a1 b:AV}{R:cC}(l0:L c0=6)(h:H1 31 6 3 c0 λia c=>aYG ia a1 b c R):Ct 145 [.a c0,a1,b] R:=z1 at1 sf Tryz.func145 l0 h
def bnX:=I5 14 [(6,([35],[2,33,34]))]
def Io b a c R:=(.mk _:NR api bnX Tryz.f147 [.u, .u] [b,a] c R).p
def aK4{c0:List AV}{b:List AV}{R:cC}(l0:L c0=6)(l1:L b=4)(h:H2 31 6 2 c0 36 4 3 b λia c d=>Io ia c d R):Ct 147 [.a c0, .a b] R:=z2 bnX sf Tryz.func147 l0 l1 h
def aa9 a a1 b c R:=(.mk _:NR api at3 Tryz.f249 [.u,a1,b] [a] c R).p
def aK5{c0:List AV}{a1 b:AV}{R:cC}(l0:L c0=6)(h:H1 31 6 3 c0 λia c=>aa9 ia a1 b c R):Ct 249 [.a c0,a1,b] R:=z1 at3 sf Tryz.func249 l0 h
def aj1 a a1 s0 R:=(.mk _:NR api at1 Tryz.f258 [a,a1] [] s0 R).p
def aMz{a a1:AV}{R:cC}(h:H0 λs0=>aj1 a a1 s0 R):Ct 258 [a,a1] R:=z0 at1 sf Tryz.func258 h
def aV0 a a1 s0 R:=(.mk _:NS api at1 Tryz.f148 [a,a1] [] s0 R).p
def aMT{a a1:AV}{s0:ae}{R:be}(hs:L s0=4096)(h:aV0 a a1 s0 R):EB 148 [a,a1] s0 R:=zB at1 sf Tryz.func148 h
def atz:=I5 26 [(7,([6,7],[1,2,5])),(17,([6,69],[1,5,7,67,68])),(20,([6],[1,5,7,67,68,69]))]
def aaH a a1 b R:=(.mk _:NR api atz Tryz.f259 [.u,a1] [a] b R).p
def aK0{c0:List AV}{a1:AV}{R:cC}(l0:L c0=15)(h:H1 43 15 2 c0 λia b=>aaH ia a1 b R):Ct 259 [.a c0,a1] R:=z1 atz sf Tryz.func259 l0 h
def NH(w:J9)(i:Int)(b:Bool):Ct 145 [.a w.c,iv i,bv b] (·=bv (dh i (L w.ak)&&((gd w.ak i.toNat).rw==b))):=by refine aJX rfl λs0 f d e=>?_;simp+contextual only[aYG,u0,u1,d,rk,ix,ar,aQS,cT,aj,DR,wl,asq,↓uL];done
def EV:FT:=za NH
def axV{w i b Lw K}:=f300 EV NH w i b Lw K
def Ow(w:J9)(s:aW)(f:lh w s=U/\L w.bC<=2):Ct 147 [.a w.c, .a s.c] (·=bv U):=by refine aK4 rfl rfl λs0 o b j u=>?_;obtain⟨n,q,r,t⟩:=iY f.1;have p:=f.2;simp+contextual only[Io,u0,u1,b,j,rk,ix,cT,aj,↓uL];refine⟨(by simp_all),λ_=>?_⟩;refine pQ (L w.bC) [6] (λk=>True) trivial λk Y x v e=>?_;have d:box Y (2,1)=_:=e.bt b;simp+contextual only[qz 37,qy 6,u0,u1,d,ix,rk,bh,au,aI,aj,↓uL];refine⟨λh=>⟨u7 h,?_⟩,λh=>trivial⟩;refine eF rfl rfl (by decide) (by rw[e.1,o];decide) λi g l=>?_;have m:box i (2,1)=_:=g.bt d;simp+contextual only[qz 8,qz 37,qy 6,Io,u0,u1,m,l,rk,ar,aQS,cT,aj,au,↓uL];have y:dh (gd w.bC k).eg (L w.ak)=U:=dX.2<|n _<|ig<|aL h;grind [oL,aL,Fr.trans]
def zf:FT:=aIc Ow
def ayt{w s Lw K}:=f210 zf Ow w s Lw K
def Ox(w:J9)(b bF:Int):Ct 249 [.a w.c,iv b,iv bF] (·=bv (named w b bF)):=by refine aK5 rfl λg f d e=>?_;simp only[aa9,↓uL];simp only[a7i,qz 23,iM,aY,sw,↓uL];simp only[qz 21,aI,au,↓uL];simp only[a7i,qz 71,iM,aY,sw,↓uL];simp only[qz 69,aI,au,↓uL];simp only[a7i,qz 89,iM,aY,sw,↓uL];simp only[qz 87,aI,au,↓uL];simp only[a7i,qz 107,iM,aY,sw,↓uL];simp only[qz 105,aI,au,↓uL];simp only[a7i,qz 137,iM,aY,sw,↓uL];simp only[qz 135,aI,au,↓uL];simp only[a7i,qz 167,iM,aY,sw,↓uL];simp only[qz 165,aI,au,↓uL];simp only[a7i,qz 185,iM,aY,sw,↓uL];simp only[qz 183,aI,au,↓uL];simp+contextual only[↓iC,↓iB,↓iS,u0,u1,aQS,ar,d,rk,ix,cT,aj,named,bdZ,bdT,DR,wl,asq,↓uL]
def Ft:FT:=za Ox
def ayu{w kind bF Lw K}:=f300 Ft Ox w kind bF Lw K
theorem aE7{l:List Int}{n:Int}:Q (0<=oW l n)=Q (n∈l):=by grind [oW,decide,RM,tL,zz,GB,decide_eq_false_iff_not]
def PN(l:List Int)(n:Int)(b:L l<4611686018427387904):Ct 258 [sl ci l,iv n] (·=bv (Q<|n∈l)):=by refine aMz λs0 _ a=>?_;simp+contextual only[aj1,u0,u1,ar,aQS,↓uL];grind [aE7]
def bpB:FT:=aIc PN
def azz{l n Lw K}:=f210 bpB PN l n Lw K
def aFl{s:ByteArray}{Y:ae}{d:Nat}{K:be}(a:d<L Y)(c:∀Y',Fr Y Y' [d]->box Y' (d,(aZ Y d).I6+1)=V ⟨0,0,U,I,[[st s,iv 0]]⟩->K (.g 1 (d,(aZ Y d).I6+1) 0 0) Y'):eV (tu Y d<|st s) K:=by have b:tu Y d (st s)=V (.g 1 (d,(aZ Y d).I6+1) 0 0,put Y d ⟨0,0,U,I,[[st s,iv 0]]⟩):=(by simp[tu,aRI,a,zt]);rw[b];exact c _ ⟨D3,λk f=>yk<|λe=>f<|by simp[e]⟩<|zQ a rfl
def aEA{s:ByteArray}{Y:ae}{b:Id}{p o n:Nat}{K:be}(a:box Y b=V ⟨0,0,U,I,[[st s,iv p]]⟩)(i:b.1<L Y)(c:p<s.size->∀Y',Fr Y Y' [b.1]->box Y' b=V ⟨0,0,U,I,[[st s,iv ((p+(Utf8.decode s p).2:Nat):Int)]]⟩->K (.t [bv U,iv p, .s<|.int .i32 (Utf8.decode s p).1]) Y')(d:s.size<=p->K (.t [bv I]) Y):eV (se Y<|.g 1 b o n) K:=by unfold se;simp only[a,asq,aNV,bh];by_cases h:p<s.size;rw[f8 h];exact c h _ ⟨uC,λk f=>wy<|λe=>f<|by simp[e]⟩<|lO a;rw[dB h];exact d (by omega)
def av3{a b:Int}:a6F .leq 0 [] (.s<|.int .i32 a) (.s<|.int .i32 b)=V (bv<|Q<|a<=b):=rfl
def avW{a b:Int}:a6F .eql 0 [] (.s<|.int .i32 a) (.s<|.int .i32 b)=V (bv<|Q<|a=b):=rfl
def DV(s:ByteArray)(b:Id):bu:=λ_ Y=>match box Y b with|some ⟨_,_,_,_,[[_, .s (.int _ p)]]⟩=>s.size-p.toNat|_=>0
def aB7{c:Int}(h:oO c=U):c<128:=by grind [oO,wx,zY]
def PQ(s:ByteArray)(w:aQt s=U):Ct 206 [st s] (·=bv U):=by refine aMH λs0 u C=>?_;have e:=w;simp only[aQt,bN,eH,j4,cP,fK,j5] at e;obtain⟨⟨⟨⟨p1,G⟩,H⟩,x⟩,y⟩:=e;simp+contextual only[ake,qy 2,u0,u1,Qm,ar,aQS,x,↓uL];refine⟨λh=>?_,λ_=>?_⟩;grind;refine aFl (by omega) λB n q=>?_;generalize(aZ s0 18).I6+1=v at*;refine⟨λvs Y=>∃p:Nat,vs=[]/\p<=s.size/\box Y (18,v)=V ⟨0,0,U,I,[[st s,iv p]]⟩/\L Y=4096,DV s (18,v),⟨0,rfl,by omega,q,by rw[n.1,u]⟩,?_⟩;rintro vs Y ⟨p,rfl,A,r,l⟩;simp only[qz 37,aI,↓uL];refine aEA r (by omega) (λa f o g=>?_) (λz=>?_);have b:=y p a;have k:rI s p=((s[p]'a).toNat:Int):=(by simp[rI,a]);have i:(s[p]'a).toNat<128:=(by have:=aB7 b;omega);have j:=decode_ascii s p a i;rw[j] at g⊢;simp only at g⊢;rw[<-k];have d:(∃p:Nat,True/\p<=s.size/\box f (18,v)=V ⟨0,0,U,I,[[st s,iv p]]⟩/\L f=4096)/\DV s (18,v) [] f<DV s (18,v) [] Y:=(by refine⟨⟨p+1,trivial,by omega,g,by rw[o.1,l]⟩,?_⟩;grind [DV,bh]);generalize F:rI s p=c at*;have m:p=0->wx c=U:=(by grind);simp+contextual only[qz 4,oJ,pG,KM,u0,u1,av3,avW,↓uL];refine⟨λ_=>⟨λ_=>d,λD=>⟨λ_=>d,λE=>?_⟩⟩,λh=>(nomatch h)⟩;exfalso;have t:oO c=U:=b;simp only[oO,wx,zY] at t m;grind;simp only[qz 4,oJ,u0,u1,↓uL];simp
def Gh:FT:=mT PQ
def azC{s Lw K}:=oK Gh PQ s Lw K
def Ot(w:am)(q:Int)(hp:L w.ac<100000/\(aF (L w.ac) q->((gd w.ac q.toNat).kind=23->aF (L w.init.bW.done) (gd w.ac q.toNat).bF/\aF (L w.init.bU) (gd w.ac q.toNat).bF)/\((gd w.ac q.toNat).kind=3->aF (L w.init.cells) (gd w.ac q.toNat).bF))):Ct 259 [.a w.c,iv q] (λr=>∃t,r= .l ((dx w q).map ci) t U):=by refine aK0 rfl λs2 hl F h0=>?_;simp+contextual only[aaH,qy 4,u0,u1,F,ix,rk,aj,ar,cT,↓uL];have N:(Q (q<0)||Q ((L w.ac:Int)<=q))=!dh q (L w.ac):=(by grind [dh]);rw[N];refine⟨λh=>?_,λh=>?_⟩;simp only[eH] at h;have:dx w q=[]:=(by simp[dx,h]);rw[this];exact⟨rfl,U,rfl⟩;simp only[fK] at h;have hi:=h;have X:=dX.1 h;obtain⟨ay,S⟩:=hp;obtain⟨T,W⟩:=S X;refine⟨X,eF rfl rfl (by decide) (by omega) λp D G=>?_⟩;have H:box p (2,1)=_:=D.bt F;have P:L p=4096:=(by rw[D.1,hl]);generalize(aZ s2 5).I6+1=v at*;have aa:∀b,oM w (gd w.ac q.toNat)=b->fR (gd w.ac q.toNat)=U->dx w q=(bif b then[-1] else[])++fw (mr w q) (L w.ac):=(by grind [dx]);simp only[qz 6,↓uL];refine bpD (λd=>∀a Y (o:List Int) (e:Int),L o<=1->dx w q=o++fw (mr w q) (L w.ac)->(((gd w.ac q.toNat).kind=3/\e=4)\/((gd w.ac q.toNat).kind=23/\e=22))->Fr p Y [105,40,65]->Gr Y [105,40,65] 3 1 a (o.map ci)->d [a,iv e] Y) ?_ λd u=>?_;(focus intro a Y o e az M ao f G4;have d1:box Y (2,1)=_:=f.bt H;have d3:box Y (5,v)=_:=f.bt G;simp only[qz 45,aI,u0,u1,d1,rk,aj,cT,au,↓uL];refine iu (λa i=>[a,iv i]) 1 [105,40,65] [105,40,65,9] 3 1 (L w.ac) (λk=>(o++fw (mr w q) k).map ci) (λ_=>True) trivial (by grind [fw]) λk a' Y' aw _ K s=>?_;have e3:box Y' (5,v)=_:=s.bt d3;have R:L Y'=4096:=(by rw[s.1,f.1,P]);simp only[qz 103,aI,di,u0,u1,qz 125,qy 16,ix,rk,bh,au,ck,↓uL];refine⟨λh=>⟨u7 h,?_⟩,λh=>?_⟩;(focus refine eF rfl rfl (by decide) (by omega) λY2 j b2=>?_;have f3:box Y2 (5,v)=_:=j.bt e3;have aA:=qX (mr w q) k;simp+contextual only[qz 18,qy 20,qy 22,u0,u1,f3,b2,rk,aj,ar,iz,au,ck,↓uL];have z:mr w q k=(!(Q ((gd w.ac k).kind≠e)||Q ((gd w.ac k).bF≠(gd w.ac q.toNat).bF)||Q ((gd w.ac k).value≠(gd w.ac q.toNat).value))&&(Q ((gd w.ac k).aq≠(gd w.ac q.toNat).aq)||Q ((k:Int)<q))):=(by rw[Bool.eq_iff_iff];have ax:(k:Int)=q->(gd w.ac k).kind=(gd w.ac q.toNat).kind:=(by grind);simp only[mr,aTG,bN,fH,j4,eH,cP,Bool.and_eq_false_iff,j5,brW,aNS];grind);refine⟨λm=>?_,λm=>⟨λy=>?_,λy=>?_⟩⟩;rotate_left;have x:mr w q k=U:=(by simp_all);refine fP (K.fr j<|by decide) rfl (by decide) (by decide) (by rw[j.1,R];decide) pU (by simp) (by grind) λa2 Y3 g3 E=>?_;simp only[qz 123,aI,au,ck,cS,aY,↓uL];refine bcW (mk:=λa i=>[a,iv i]) (λ_ _=>rfl) (aL h) (by omega) trivial ?_ (s.trans<|(j.mono<|by decide).trans<|E.mono<|by decide);grind [Bo];all_goals have x:mr w q k=I:=(by first|(rw[z,y];simp)|(rw[z,m];rfl));simp only[qz 123,aI,au,ck,cS,aY,↓uL];refine bcW (mk:=λa i=>[a,iv i]) (λ_ _=>rfl) (aL h) (by omega) trivial ?_ (s.trans<|j.mono<|by decide);rw[yJ x];exact K.fr j<|by decide);have O:k=L w.ac:=(by grind);subst O;rw[M];grind [qV]);simp+contextual only[qz 47,qy 8,qy 10,qy 12,qy 14,u0,u1,H,G,rk,ix,aj,dc,ar,iz,↓uL];refine⟨λZ=>?_,λZ=>⟨λA=>?_,λA=>?_⟩⟩;have n:=qc Z;refine⟨W n,λm=>?_,λm=>?_⟩;refine fP (bA:=[]) (ds:=[105,40,65]) (new:=[ci<|-1]) Gr.nil rfl (by decide) (by decide) (by omega) (by simp) (by simp) (by decide) λa C B f=>?_;exact u a C [-1] 4 (by simp) (by grind [oM,decide,gd,fR]) (.inl ⟨n,rfl⟩) f B;exact u _ p [] 4 (by simp) (by grind [oM,decide,gd,fR]) (.inl ⟨n,rfl⟩) (Fr.refl _ _) Gr.nil;have g:=qc A;obtain⟨o1,o2⟩:=T g;refine⟨o1,λ_=>o2,λm=>?_,λm=>?_⟩;refine fP (bA:=[]) (ds:=[105,40,65]) (new:=[ci<|-1]) Gr.nil rfl (by decide) (by decide) (by omega) (by simp) (by simp) (by decide) λa C B f=>?_;exact u a C [-1] 22 (by simp) (by grind [oM,fR]) (.inr ⟨g,rfl⟩) f B;exact u _ p [] 22 (by simp) (by grind [oM,fR]) (.inr ⟨g,rfl⟩) (Fr.refl _ _) Gr.nil;have hr:fR (gd w.ac q.toNat)=I:=(by grind [fR]);have:dx w q=[]:=(by simp[dx,hr]);rw[this];exact⟨rfl,U,rfl⟩
def Fq:FT:=pn Ot
def ayq{w q Lw K}:=f211 Fq Ot w q Lw K
structure jY where
 w:am
 ss:List aW
 deriving Inhabited,DecidableEq
def jY.c(x:jY):List AV:=x.w.c++[sl aW.c x.ss]
def j9{x y:jY}:(jY.c x=jY.c y)=(x=y):=by apply arm;constructor;intro h;obtain⟨d,xs⟩:=x;obtain⟨e,ys⟩:=y;have a:d.c=e.c:=(aqH h<|by simp[am.c]).1;have b:=(aqH h<|by simp[am.c]).2;simp only[bo0] at a;simp only[List.cons.injEq,zp,amV] at b;rw[a,b];intro h;rw[h]
def apj:dO:=(145,EV)::(147,zf)::(249,Ft)::(258,bpB)::(206,Gh)::(259,Fq)::api
def rf:eJ apj:=sz (Rs NH)<|sz (aCb Ow)<|sz (Rs Ox)<|sz (aCb PN)<|sz (pg PQ)<|sz (aN0 Ot)<|sf
def rW:=ai @axV<|ai @ayt<|ai @ayu<|ai @azz<|ai @azC<|ai @ayq<|@aQS
def asy:=I5 31 [(5,([5,19],[2,17,18])),(12,([5,32],[2,30,31])),(22,([53],[10,51,52]))]
def aYH a a1 b R:=(.mk _:NR apj asy Tryz.f144 [.u,a1] [a] b R).p
def aJZ{c0:List AV}{a1:AV}{R:cC}(l0:L c0=6)(h:H1 31 6 2 c0 λia b=>aYH ia a1 b R):Ct 144 [.a c0,a1] R:=z1 asy rf Tryz.func144 l0 h
def akI b a c R:=(.mk _:NR apj at1 Tryz.f74 [.u, .u] [b,a] c R).p
def aMP{c0:List AV}{b:List AV}{R:cC}(l0:L c0=6)(l1:L b=7)(h:H2 31 6 2 c0 40 7 3 b λia c d=>akI ia c d R):Ct 74 [.a c0, .a b] R:=z2 at1 rf Tryz.func74 l0 l1 h
def akt b a c R:=(.mk _:NR apj at1 Tryz.f209 [.u, .u] [b,a] c R).p
def aMK{c0:List AV}{b:List AV}{R:cC}(l0:L c0=6)(l1:L b=7)(h:H2 31 6 2 c0 40 7 3 b λia c d=>akt ia c d R):Ct 209 [.a c0, .a b] R:=z2 at1 rf Tryz.func209 l0 l1 h
def atH:=I5 35 [(9,([60],[2,4,5,6,11])),(22,([109],[2,4,5,6,11]))]
def abG b a c d e f R:=(.mk _:NR apj atH Tryz.f250 [.u, .u,c,d,e] [b,a] f R).p
def aK9{c0:List AV}{b:List AV}{c d e:AV}{R:cC}(l0:L c0=6)(l1:L b=4)(h:H2 31 6 5 c0 36 4 6 b λia f g=>abG ia f c d e g R):Ct 250 [.a c0, .a b,c,d,e] R:=z2 atH rf Tryz.func250 l0 l1 h
def avn:=I5 38 [(4,([17],[1,3,15,16])),(17,([6,54],[1,3,15,16,17,52,53])),(30,([89],[3,87,88]))]
def akU a b R:=(.mk _:NR apj avn Tryz.f77 [.u] [a] b R).p
def aMS{c0:List AV}{R:cC}(l0:L c0=15)(h:H1 43 15 1 c0 λia b=>akU ia b R):Ct 77 [.a c0] R:=z1 avn rf Tryz.func77 l0 h
def aD7{t:TypeId}{Y:ae}{d:Nat}{K:be}(a:d<L Y)(c:∀Y',Fr Y Y' [d]->box Y' (d,(aZ Y d).I6+1)=V ⟨t,0,U,U,[[]]⟩->K (.g 0 (d,(aZ Y d).I6+1) 0 0) Y'):eV (oS t Y d) K:=by have b:oS t Y d=V (.g 0 (d,(aZ Y d).I6+1) 0 0,put Y d ⟨t,0,U,U,[[]]⟩):=(by simp[oS,aRI,a,zt]);rw[b];exact c _ ⟨D3,λk f=>yk<|λe=>f<|by simp[e]⟩<|zQ a rfl
abbrev yG(l:List ByteArray):List (Value×Value):=l.map λn=>(.string n, .bool U)
theorem av7{a b:ByteArray}(h:a≠b):(a==b)=I:=by obtain⟨a⟩:=a;obtain⟨b⟩:=b;have:a≠b:=λe=>h (by rw[e]);show(a==b)=I;simp_all
def KU{s:ByteArray}:∀{l:List ByteArray} {i:Nat},s∉l->lg ⟨I,[], .bool I⟩ (.string s) (yG l) i=V J
 |[],_,_=>rfl
 |x::l,i,h=>by
  have a:(s==x)=I:=(by grind [av7])
  simp only[yG,ji,lg,pO,a]
  exact KU (by simp_all)
def aDr{Y:ae}{b:Id}{t:TypeId}{s:ByteArray}{l:List ByteArray}{o n:Nat}(a:box Y b=V ⟨t,0,U,U,[(yG l).map ent]⟩)(h:s∉l):oP ⟨I,[], .bool I⟩ Y (.g 0 b o n) (st s) I=V (bv I):=by simp only[oP,ww,a,aQd,ul,asq,aNV,KG,qR,KU h,eE,brx]
def aEb{Y:ae}{b:Id}{t:TypeId}{s:ByteArray}{l:List ByteArray}{o n:Nat}{K:ae->Prop}(a:box Y b=V ⟨t,0,U,U,[(yG l).map ent]⟩)(h:s∉l)(c:∀Y',Fr Y Y' [b.1]->box Y' b=V ⟨t,0,U,U,[(yG<|l++[s]).map ent]⟩->K Y'):sV (muA ⟨I,[], .bool I⟩ Y (.g 0 b o n) (st s)<|bv U) K:=by simp only[muA,ww,a,ul,asq,aNV,KG,qR,KU h];refine c _ ⟨uC,λk d=>wy<|λe=>d<|by simp[e]⟩ ?_;rw[lO a];simp
def aBJ{Y:ae}{ds:List Nat}{e:TypeId}{a:AV}{l:List ByteArray}{k:Nat}{K:cC}(b:Gr Y ds e 1 a<|l.map cs)(g:k<L l):(rV (cz 1 Y a<|iv k) λt=>rV (vl J Y t) K)=K (st<|gd l k):=by rcases b with⟨c,_⟩|⟨d,v,rfl,_,f⟩;simp_all;simp_all [cz,rV,vl,iE,aN,bT]
def avR{l:List ByteArray}{s:ByteArray}(h:¬0<=tX l s):s∉l:=by grind [decide,RM,tL,zz,tX]
def wB(w:J9)(vs:List ByteArray):List ByteArray:=vs++w.ak.map (·.name)++w.bC.map (·.name)++w.bU++w.ay
def NJ(w:J9)(vs:List ByteArray)(hp:(∀j,j<L (wB w vs)->yn (wB w vs) j=I)/\L (wB w vs)<=100):Ct 144 [.a w.c,sl cs vs] (·=bv U):=by refine aJZ rfl λs2 Z P h0=>?_;obtain⟨X,ag⟩:=hp;have ab:L vs+L w.ak+L w.bC+L w.bU+L w.ay<=100:=(by grind [wB,a6G,bJ]);simp only[aYH,↓uL];refine fP (bA:=[]) (ds:=[15,27,40,45,49]) (new:=vs.map cs) Gr.nil rfl (by decide) (by decide) (by omega) (by simp) oX (by simp;omega) λa0 N g0 z=>?_;have c0:box N (2,1)=_:=z.bt P;simp only[qz 4,u0,u1,c0,rk,aj,dc,cT,↓uL];refine iu (λa i=>[a,iv i]) 1 [15,27,40,45,49] [15,27,40,45,49,7] 9 1 (L w.ak) (λk=>(vs++(w.ak.take k).map (·.name)).map cs) (λ_=>True) trivial (by grind) λk a1 C ad _ g1 m=>?_;have F:box C (2,1)=_:=m.bt c0;have l1:L C=4096:=(by rw[m.1,z.1,Z]);simp only[qz 31,qy 6,aI,u0,u1,F,rk,aj,dc,ix,bh,au,ck,cT,↓uL];refine⟨λt=>⟨u7 t,?_⟩,λt=>?_⟩;refine eF rfl rfl (by decide) (by omega) λo d R=>?_;simp only[qz 8,qy 10,u0,u1,R,rk,aj,iz,au,↓uL];refine fP (g1.fr d<|by decide) rfl (by decide) (by decide) (by rw[d.1,l1];decide) oX (by simp) (by simp;omega) λO p H b=>?_;simp only[qz 12,au,ck,cS,aY,↓uL];refine bcW (mk:=λa i=>[a,iv i]) (λ_ _=>rfl) (aL t) (by omega) trivial ?_ (m.trans<|(d.mono<|by decide).trans<|b.mono<|by decide);grind [Ez,aL];obtain rfl:k=L w.ak:=(by grind);rw[gV] at g1;refine iu (λa i=>[a,iv i]) 1 [15,27,40,45,49] [15,27,40,45,49,9] 9 1 (L w.bC) (λk=>(vs++w.ak.map (·.name)++(w.bC.take k).map (·.name)).map cs) (λ_=>True) trivial (by grind) λk a2 o ae _ s d=>?_;have G:box o (2,1)=_:=d.bt F;have y:L o=4096:=(by rw[d.1,l1]);simp only[qz 73,qy 14,aI,u0,u1,G,rk,aj,dc,ix,bh,au,ck,↓uL];refine⟨λu=>⟨u7 u,?_⟩,λu=>?_⟩;refine eF rfl rfl (by decide) (by omega) λp b S=>?_;simp only[qz 16,qy 18,u0,u1,S,rk,aj,iz,au,↓uL];refine fP (s.fr b<|by decide) rfl (by decide) (by decide) (by rw[b.1,y];decide) oX (by simp) (by simp;omega) λD q K n=>?_;simp only[qz 20,au,ck,cS,aY,↓uL];refine bcW (mk:=λa i=>[a,iv i]) (λ_ _=>rfl) (aL u) (by omega) trivial ?_ (d.trans<|(b.mono<|by decide).trans<|n.mono<|by decide);grind [Ez,aL];obtain rfl:k=L w.bC:=(by grind);rw[gV] at s;refine fP (new:=w.bU.map cs) s rfl (by decide) (by decide) (by omega) oX oX (by simp;omega) λO p H b=>?_;have T:box p (2,1)=_:=b.bt G;simp only[qz 22,qy 24,u0,u1,T,rk,aj,↓uL];refine fP (new:=w.ay.map cs) H rfl (by decide) (by decide) (by rw[b.1,y];decide) (by grind) oX (by simp;omega) λD q K n=>?_;have l4:L q=4096:=(by rw[n.1,b.1,y]);refine aD7 (by omega) λr A b5=>?_;have f:=K.fr A (by decide);rw[<-dg,<-dg] at f;change Gr r _ 9 1 D ((wB w vs).map cs) at f;have af:L r=4096:=(by rw[A.1,l4]);generalize wB w vs=g at*;generalize(aZ q 50).I6+1=v at*;simp only[qz 26,aDk f,aY,bJ,↓uL];refine yV (L g) (λk _ Y'=>box Y' (50,v)=V ⟨283,0,U,U,[(yG<|g.take k).map ent]⟩/\Fr r Y' [50]) (by grind [Fr.refl]) ?_;rintro k _ Y6 hk ⟨E,B⟩;have W:=f.fr B (by decide);simp only[qz 133,aI,au,u0,u1,↓uL];refine⟨λh=>?_,λh=>trivial⟩;have e:=aL h;have x:=X k e;simp only[yn,cP,fK,j5] at x;have l:=avR x.2;rw[aBJ W e];simp+contextual only[u0,u1,ar,rW,x.1,aDr E l,ip,↓uL];refine⟨λh=>(nomatch h),?_⟩;intro _;refine aEb E l λY7 M b7=>?_;simp only[qz 28,au,u0,u1,↓uL];refine yU e ⟨?_,B.trans M⟩;grind [iJ,bT]
def EX:FT:=aIc NJ
def axX{w vs Lw K}:=f210 EX NJ w vs Lw K (j:=by simp+contextual only[ij,j9])
def PY(w:J9)(s:sA)(d:fN w s=U/\L w.bC<=2):Ct 74 [.a w.c, .a s.c] (·=bv U):=by refine aMP rfl rfl λs0 l e f k=>?_;have b:=d.1;simp only[fN,bN,j4] at b;obtain⟨g,h,i,j⟩:=b;simp+contextual only[akI,u0,u1,e,f,rk,ix,cT,aj,dc,ar,rW,g,h,i,j,d.2,asq,ip,↓uL];simp
def Gp:FT:=aIc PY
def azK{w s Lw K}:=f210 Gp PY w s Lw K (j:=by simp+contextual only[ij,j9])
def PT(w:J9)(s:sA)(d:fN w s=U/\L w.bC<=2):Ct 209 [.a w.c, .a s.c] (·=bv U):=by refine aMK rfl rfl λs0 l e f k=>?_;have b:=d.1;simp only[fN,bN,j4] at b;obtain⟨g,h,i,j⟩:=b;simp+contextual only[akt,u0,u1,e,f,rk,ix,cT,aj,dc,ar,rW,g,h,i,j,d.2,asq,ip,↓uL];simp
def Gk:FT:=aIc PT
def azF{w s Lw K}:=f210 Gk PT w s Lw K (j:=by simp+contextual only[ij,j9])
def QO(w:J9)(s:aW)(t a bF:Int):Bool:=
 bif Q (a=6) then Q<|(gd s.ak bF.toNat).awG= -1
 else bif Q (a=10) then Q ((gd s.ak bF.toNat).awG= -1)&&Q (L (gd s.ak bF.toNat).bk=0)
 else bif Q (a=8) then Q ((gd s.ak bF.toNat).awG= -1)&&!Q (t∈(gd s.ak bF.toNat).bk)
 else bif Q (a=7)||Q (a=11) then Q ((gd s.ak bF.toNat).awG=t)
 else bif Q (a=9) then Q<|t∈(gd s.ak bF.toNat).bk
 else bif Q (a=12) then Q<|s.tx= -1
 else bif Q (a=13) then Q<|s.tx=t
 else bif Q (a=14) then !(gd s.ay t.toNat).atomic
 else bif Q (a=15) then(gd s.ay t.toNat).atomic
 else bif Q (a=16)||(Q (a=18)||Q (a=19)) then Q ((gd s.ak (gd w.bC bF.toNat).eg.toNat).awG=t)
 else bif Q (a=20) then Q (bF≠t)&&Q ((gd s.ay bF.toNat).cQ=0)
 else bif Q (a=21) then Q (bF≠t)&&Q ((gd s.ay bF.toNat).cQ=5)
 else bif Q (a=22) then !(gd s.done bF.toNat)
 else bif Q (a=23) then gd s.done bF.toNat
 else U
def axG{w:J9}{s:aW}{t a bF:Int}:lc w s t a bF=bif Q (a=1) then Q ((gd s.ay t.toNat).cQ=1)
 else bif Q (a=17) then Q ((gd s.ay t.toNat).cQ=4)&&(Q ((gd s.ay t.toNat).cond=bF)&&Q ((gd s.ak (gd w.bC bF.toNat).eg.toNat).awG= -1))
 else bif Q ((gd s.ay t.toNat).cQ≠2) then I else QO w s t a bF:=rfl
structure KF(w:J9)(s:aW)(kind bF:Int):Prop where
 mI:aF (L w.bC) bF->aF (L s.ak) (gd w.bC bF.toNat).eg
 lk:6<=kind->kind<=11->aF (L s.ak) bF
 cd:16<=kind->kind<=19->aF (L w.bC) bF
 th:20<=kind->kind<=21->aF (L s.ay) bF
 dn:22<=kind->kind<=23->aF (L s.done) bF
def D0{w:J9}{s:aW}{a bF:Int}(d:lh w s=U)(g:named w a bF=U):KF w s a bF:=by obtain⟨b,c,e,f⟩:=iY d;exact⟨λh=>by rw[c];exact b _<|ii h,(by grind [mJ]),(by grind [oT]),(by grind [Eb]),by grind [oU]⟩
def Oy(w:J9)(s:aW)(t b bF:Int)(p:lh w s=U/\named w b bF=U/\aF (L s.ay) t/\(∀l∈s.ak,L l.bk<100000)):Ct 250 [.a w.c, .a s.c,iv t,iv b,iv bF] (·=bv (QO w s t b bF)):=by refine aK9 rfl rfl λF D k m C=>?_;obtain⟨n,o,g,z⟩:=p;obtain⟨x,E,A,G,B⟩:=D0 n o;have q:Q (b=6)=U->aF (L s.ak) bF:=(by simp_all);have h:Q (b=10)=U->aF (L s.ak) bF:=(by simp_all);have u:Q (b=8)=U->aF (L s.ak) bF:=(by simp_all);have v:Q (b=9)=U->aF (L s.ak) bF:=(by simp_all);have r:(Q (b=7)||Q (b=11))=U->aF (L s.ak) bF:=(by grind);have d:(Q (b=16)||(Q (b=18)||Q (b=19)))=U->aF (L w.bC) bF:=(by grind);have i:Q (b=20)=U->aF (L s.ay) bF:=(by simp_all);have j:Q (b=21)=U->aF (L s.ay) bF:=(by simp_all);have e:Q (b=22)=U->aF (L s.done) bF:=(by simp_all);have f:Q (b=23)=U->aF (L s.done) bF:=(by simp_all);have y:aF (L s.ak) bF->L (gd s.ak bF.toNat).bk<4611686018427387904:=(by grind [ii]);have e0:(L (gd s.ak bF.toNat).bk:Int)=0↔L (gd s.ak bF.toNat).bk=0:=(by omega);simp only[abG,↓uL];simp+contextual (maxSteps:=3000000) only[a7i,qz 137,qz 135,qz 59,qz 57,sw,aI,au,↓iC,↓iB,↓iS,u0,u1,rW,ar,k,m,rk,ix,cT,aj,↓uL];simp+contextual (maxSteps:=3000000) only[QO,bdZ,bdT,x,q,r,u,v,h,d,i,j,e,f,y,e0,g,ip,zp,wl,asq,Bool.true_or,lG,Bool.or_true,kz,Bool.true_eq_false,eE,aPy];done
def Fu:FT:=bpg Oy
def ayv{w s t kind bF Lw K}:=KQ Fu Oy w s t kind bF Lw K (j:=by simp+contextual only[ij,j9])
structure nK(x:jY):Prop where
 wo:kB x.w
 ss:x.ss=(aH<|L x.w.ac).map λk=>(cY x.w k).bW
def nK.at{x:jY}(h:nK x){k:Nat}(a:k<L x.w.ac):gd x.ss k=(cY x.w k).bW/\k<L x.ss:=by grind [nK.ss,bT]
def qI{n:Nat}{i:Int}(h:aF n i):i.toNat<n:=by have:=h.1;have:=h.2;omega
def nK.ix{x:jY}(h:nK x){i:Int}(a:aF (L x.w.ac) i):aF (L x.ss) i/\gd x.ss i.toNat=(cY x.w i.toNat).bW:=by have b:=h.at (qI a);refine⟨⟨a.1,?_⟩,b.1⟩;omega
def nK.kf{x:jY}(h:nK x){i j:Int}(b:aF (L x.w.ac) i)(c:aF (L x.w.ac) j):KF x.w.aQ (cY x.w j.toNat).bW (gd x.w.ac i.toNat).kind (gd x.w.ac i.toNat).bF:=by have a:=(h.wo.st _<|qI c).2;simp only[fN,bN] at a;exact D0 a.1 (h.wo.named<|qI b).1
def slE{l:List aP}{i j:Int}{Y:ae}{K:cC}:rV (fo 7 Y (sl aP.c l) (V<|iv i) (V<|iv j) J) K=((0<=i/\i<=j/\j<=L l)/\K (sl aP.c<|(l.take j.toNat).drop i.toNat)):=by simp only[fo,lM,sl];by_cases a:0<=i;by_cases d:0<=j;simp only[a,d,aNV,qY,sD,mi,bJ,ip];by_cases e:i<=j/\j<=L l;have b:i.toNat<=j.toNat/\j.toNat<=L l:=(by omega);rw[f8 ⟨b.1,b.2,by simp[aP.c]⟩];simp only[aNV,rV,e,asq,ip,kM];grind [aP.c,GK,List.map_take,List.drop_take];grind [rV];grind [rV];simp[a,rV]
def Dq{b:Bool}{A:(be)->Prop}{Y:ae}{K:be}(a:b=U->A K)(c:b=I->K (.t []) Y):gF b A Y K:=by(cases b);exact c rfl;exact a rfl
def Bc{a:AV}{b:Bool}:mL (bv I) a (bv b)=V (bv b):=rfl
def Dc{Y:ae}{d:Nat}{K:be}{b:Id}{w:am}{t:Int}(g:box Y b=V ⟨43,15,U,U,[w.c]⟩)(i:L Y=4096)(e:K (bv<|nO w t) Y):cF (.f 148 [] [.p b 0 0]) [iv t] Y d K:=by simp only[cF,rn];rw[dB (show¬GG.nw 148=U by decide),f8<|show GG.imp 148=U by decide];refine(aS2 rfl (aMT i ?_) e:cB 148 [iv t, .p b 0 0] Y d K);simp+contextual only[aV0,u0,u1,g,rk,ix,cT,aj,dc,aNN,aoz,↓uL];refine⟨λh=>?_,?_,Fx.refl _ _⟩;intro a;exact⟨by simpa using h,by simpa using a⟩;simp[nO,dh,BI]
def Qa(w:am)(X:ny w=U/\L w.init.bW.ak=L w.aQ.ak/\L w.aQ.ak<=4/\L w.init.bW.ay<=4/\(∀l∈w.init.bW.ak,L l.bk<=100)):Ct 77 [.a w.c] (·=bv U):=by refine aMS rfl λs2 W M h0=>?_;obtain⟨z,Z,aa,ab,B⟩:=X;simp only[ny,bN,j4,eH] at z;obtain⟨R,o,S⟩:=z;simp+contextual only[akU,u0,u1,M,rk,aj,dc,cT,↓uL];refine pQ (L w.init.bW.ak) [5] (λk=>True) trivial λk Y hk hc P=>?_;have r:box Y (1,1)=V ⟨43,15,U,U,[w.c]⟩:=(by grind [Fr.box]);have f:L Y=4096:=(by rw[P.1,W]);simp+contextual only[qz 25,qy 4,u0,u1,r,ix,rk,bh,au,aI,aj,dc,cT,↓uL];refine⟨λh=>⟨u7 h,?_⟩,λh=>?_⟩;(focus refine eF rfl rfl (by decide) (by omega) λq F y=>?_;have t:box q (1,1)=V ⟨43,15,U,U,[w.c]⟩:=(by grind [Fr.box]);have j:L q=4096:=(by rw[F.1,f]);have A:=R k<|aL h;obtain⟨e,C⟩:=A;simp only[AM,cP] at e;simp+contextual only[qz 6,u0,u1,y,rk,aj,au,↓uL];have ac:L (gd w.init.bW.ak k).bk<=100:=B _<|ig<|aL h;have E:Q (0<(L (gd w.init.bW.ak k).bk:Int))=U->aF (L w.aQ.ak) (k:Int):=(by grind [dJ,aL]);have n:=e.2;refine Dq (λb=>Dc t j ?_) (λb=>?_);all_goals simp+contextual only[u0,u1,y,t,rk,ix,aj,au,cT,b,jN,Bc,↓uL];rw[b] at e n;refine⟨λg=>?_,λ_=>⟨E,λg=>?_,λ_=>?_⟩⟩;(first|cases g|simp[g] at e);(try simp only[kz] at n);rw[bh] at g;rw[g] at n;cases n;refine jD (α:=Int) (λa i=>[iv a,iv i]) 1 (L (gd w.init.bW.ak k).bk) (λi a Y'=>(a=if i=0 then-1 else gd (gd w.init.bW.ak k).bk (i-1))/\Y'=q) (s0:= -1) ⟨by simp,rfl⟩ ?_;rintro i _ _ T ⟨rfl,rfl⟩;simp+contextual only[qz 103,aI,u0,u1,ix,rk,bh,au,ck,↓uL];refine⟨λd=>⟨u7 d,?_⟩,λd=>?_⟩;obtain⟨v,r2⟩:=C i<|aL d;have u:Q (gd (gd w.init.bW.ak k).bk i<=if i=0 then-1 else gd (gd w.init.bW.ak k).bk (i-1))=I:=(by simp only[nO,bN] at v;have:=(dX.1 v.1).1;grind);refine Dq (λb=>Dc t j ?_) (by grind);simp+contextual only[u0,u1,au,ck,u,v,fh,kN,jA,qE,kz,eE,aPy,aYF,ip,↓uL];refine dR (mk:=λa i=>[iv a,iv i]) (p:=1) (s:=if i=0 then-1 else gd (gd w.init.bW.ak k).bk (i-1)) (s':=gd (gd w.init.bW.ak k).bk i) (λ_ _=>rfl) (aL d) (by omega) ?_;simp;grind [oL,aL,Fr.trans]);(focus simp only[yS] at o;refine Dq (λb=>Dc r f ?_) (λb=>?_);all_goals rw[b] at o;(try simp only[iw,fK] at o);simp+contextual only[u0,u1,r,rk,aj,dc,cT,b,o,fh,jN,Bc,eE,aPy,aYF,ip,↓uL];refine pQ (L w.init.bW.ay) [10] (λk=>True) trivial λi H T _ x=>?_;have e1:box H (1,1)=V ⟨43,15,U,U,[w.c]⟩:=(by grind [Fr.box]);simp+contextual only[qz 181,qy 14,aI,u0,u1,ix,rk,bh,au,↓uL];refine⟨λd=>⟨u7 d,?_⟩,λ_=>trivial⟩;refine eF rfl rfl (by decide) (by rw[x.1,f];decide) λK G N=>?_;have O:box K (1,1)=V ⟨43,15,U,U,[w.c]⟩:=(by grind [Fr.box]);have D:=S i<|aL d;simp only[pX,bN,eH] at D;have m:=D.1;simp+contextual only[qz 16,u0,u1,N,rk,aj,au,↓uL];refine Dq (λb=>Dc O (by rw[G.1,x.1,f]) ?_) (λb=>?_);rw[b] at m;simp only[iw,fK] at m;simp+contextual only[u0,u1,b,m,fh,eE,aPy,aYF,ip,↓uL];grind [oL,aL,Fr.trans];simp+contextual only[u0,u1,b,jN,Bc,eE,aPy,aYF,ip,↓uL];grind [oL,aL,Fr.trans])
def Gt:FT:=mT Qa
def azN{w Lw K}:=oK Gt Qa w Lw K (j:=by simp+contextual only[ij,j9])
def apk:dO:=(144,EX)::(74,Gp)::(209,Gk)::(250,Fu)::(77,Gt)::apj
def Rd:eJ apk:=sz (aCb NJ)<|sz (aCb PY)<|sz (aCb PT)<|sz (Rt Oy)<|sz (pg Qa)<|rf
def aBm:=ai @axX<|ai @azK<|ai @azF<|ai @ayv<|ai @azN<|@rW
def Sv a s0 R:=(.mk _:NR apk at1 Tryz.f310 [a] [] s0 R).p
def aJV{a:AV}{R:cC}(h:H0 λs0=>Sv a s0 R):Ct 310 [a] R:=z0 at1 Rd Tryz.func310 h
def atx:=I5 11 [(1,([0,2],[])),(4,([0,2],[])),(7,([0,2],[]))]
def aaz a s0 R:=(.mk _:NR apk atx Tryz.f293 [a] [] s0 R).p
def aKY{a:AV}{R:cC}(h:H0 λs0=>aaz a s0 R):Ct 293 [a] R:=z0 atx Rd Tryz.func293 h
def brH(x:Int):Ct 310 [iv x] (·=bv I):=by refine aJV λs0 b a=>?_;simp only[Sv,u0,u1,brW,byJ,boY,↓uL]
def BO:FT:=lH brH
def axT{x Lw K}:=np BO brH x Lw K
def avZ{a b:Int}:a6F .geq 0 [] (.s<|.int .u64 a) (.s<|.int .u64 b)=V (bv<|Q<|b<=a):=rfl
def Oo(n:Int)(g:0<=n/\n<=12):Ct 293 [.s<|.int .u64 n] (λr=>∃k:Int,r=iv k):=by refine aKY λs0 f e=>?_;obtain⟨m,rfl⟩:∃m:Nat,n=m:=⟨n.toNat,by omega⟩;have d:m<=12:=(by omega);have a:Q (4294967296<=(m:Int))=I:=(by simp;omega);have b:Q (65536<=(m:Int))=I:=(by simp;omega);have c:Q (256<=(m:Int))=I:=(by simp;omega);simp+contextual only[qz 45,qz 47,qz 27,qz 29,qz 9,qz 11,aaz,a7i,u0,avZ,au,ck,a,b,c,aI,↓iB,eE,aPy,aYF,ip,↓uL];match m,d with|0,_=>exact⟨rfl,_,rfl⟩|1,_=>exact⟨rfl,_,rfl⟩|2,_=>exact⟨rfl,_,rfl⟩|3,_=>exact⟨rfl,_,rfl⟩|4,_=>exact⟨rfl,_,rfl⟩|5,_=>exact⟨rfl,_,rfl⟩|6,_=>exact⟨rfl,_,rfl⟩|7,_=>exact⟨rfl,_,rfl⟩|8,_=>exact⟨rfl,_,rfl⟩|9,_=>exact⟨rfl,_,rfl⟩|10,_=>exact⟨rfl,_,rfl⟩|11,_=>exact⟨rfl,_,rfl⟩|12,_=>exact⟨rfl,_,rfl⟩
def Fo:FT:=om Oo
def ayo{n Lw K}:=f111 Fo Oo n Lw K
def apm:dO:=(310,BO)::(293,Fo)::apk
def Re:eJ apm:=sz (nH brH)<|sz (rj Oo)<|Rd
def La:=ai @axT<|ai @ayo<|@aBm
def Su a a1 s0 R:=(.mk _:NR apm at1 Tryz.f289 [a,a1] [] s0 R).p
def aJU{a a1:AV}{R:cC}(h:H0 λs0=>Su a a1 s0 R):Ct 289 [a,a1] R:=z0 at1 Re Tryz.func289 h
def atw:=I5 4 []
def aay a s0 R:=(.mk _:NR apm atw Tryz.f254 [a] [] s0 R).p
def aKX{a:AV}{R:cC}(h:H0 λs0=>aay a s0 R):Ct 254 [a] R:=z0 atw Re Tryz.func254 h
def NE(x y:Int):Ct 289 [iv x,iv y] (·=bv (Q<|x<y)):=by refine aJU λs0 b a=>?_;simp+contextual only[Su,u0,u1,ar,La,kN,kM,lG,jN,jA,qE,Bc,↓uL]
def BN:FT:=lI NE
def axS{x y Lw K}:=f200 BN NE x y Lw K
def Om(n:Int)(a:0<=n/\n<=12):Ct 254 [.s<|.int .u64 n] (λr=>∃k:Int,r=iv k):=by refine aKX λs0 c b=>?_;simp+contextual only[aay,u0,u1,ar,La,eE,aPy,aYF,ip,↓uL];refine⟨a,?_⟩;rintro r ⟨k,rfl⟩;exact⟨.inl rfl,rfl,k,rfl⟩
def Fm:FT:=om Om
def ayn{n Lw K}:=f111 Fm Om n Lw K
def apn:dO:=(289,BN)::(254,Fm)::apm
def wR:eJ apn:=sz (nI NE)<|sz (rj Om)<|Re
def ut:=ai @axS<|ai @ayn<|@La
def au5:=I5 23 [(6,([3],[0])),(14,([3,5],[0,4])),(17,([3],[0,4,5]))]
def JN a s0 R:=(.mk _:NS apn au5 Tryz.f217 [a] [] s0 R).p
def aMy{a:AV}{s0:ae}{R:be}(hs:L s0=4096)(h:JN a s0 R):EB 217 [a] s0 R:=zB au5 wR Tryz.func217 h
def avb:=I5 10 [(1,([6],[0,1,2])),(6,([7],[0,1,2,6]))]
def JT a a1 b s0 R:=(.mk _:NS apn avb Tryz.f283 [a,a1,b] [] s0 R).p
def aME{a a1 b:AV}{s0:ae}{R:be}(hs:L s0=4096)(h:JT a a1 b s0 R):EB 283 [a,a1,b] s0 R:=zB avb wR Tryz.func283 h
def JQ a a1 s0 R:=(.mk _:NS apn au9 Tryz.f113 [a,a1] [] s0 R).p
def aMB{a a1:AV}{s0:ae}{R:be}(hs:L s0=4096)(h:JQ a a1 s0 R):EB 113 [a,a1] s0 R:=zB au9 wR Tryz.func113 h
def Ij a a1 s0 R:=(.mk _:NS apn at1 Tryz.f219 [a,a1] [] s0 R).p
def aK2{a a1:AV}{s0:ae}{R:be}(hs:L s0=4096)(h:Ij a a1 s0 R):EB 219 [a,a1] s0 R:=zB at1 wR Tryz.func219 h
def atF:=I5 13 [(4,([7,13],[1,2,3,11,12])),(7,([7],[1,2,3,11,12,13])),(10,([],[7]))]
def Ir a a1 b c R:=(.mk _:NS apn atF Tryz.f220 [.u,a1,b] [a] c R).p
def aK7{c0:List AV}{a1 b:AV}{s0:ae}{R:be}(hs:L s0=4096)(l0:L c0=4)(h:HB1 36 4 3 c0 s0 λd c=>Ir d a1 b c R):EB 220 [.a c0,a1,b] s0 R:=zB1 atF wR Tryz.func220 hs l0 h
def atG:=I5 12 [(4,([5,11],[1,2,9,10])),(7,([5],[1,2,9,10,11]))]
def Is a a1 b R:=(.mk _:NS apn atG Tryz.f221 [.u,a1] [a] b R).p
def aK8{c0:List AV}{a1:AV}{s0:ae}{R:be}(hs:L s0=4096)(l0:L c0=4)(h:HB1 36 4 2 c0 s0 λc b=>Is c a1 b R):EB 221 [.a c0,a1] s0 R:=zB1 atG wR Tryz.func221 hs l0 h
theorem axp(n c:Nat)(w:World)(R:Ending->World->Prop)(a:R (.returned<|.slice J 0 0) w):Calls aS 94 #[.slice J n c] w R:=by have b:=λ(W:World)=>run_eql_slice_nil (P:=aS) W 38 3 J n c (by kernel_rfl);go_enter Tryz.func94,Tryz.ntmps94;go_wp2;exact a
theorem axt(A:Addr)(n c:Nat)(w:World)(R:Ending->World->Prop)(b:(nU Tryz.f94).wp aS (bodyPost aS Tryz.f94 R) {tmps:=#[.slice (V A) n c,undef, .slice J 0 0, .slice (V A) n c, .bool I,undef,undef,undef],defers:=[]} w):Calls aS 94 #[.slice (V A) n c] w R:=by have d:=λ(W:World)=>run_eql_slice_nil (P:=aS) W 38 3 (V A) n c (by kernel_rfl);go_enter Tryz.func94,Tryz.ntmps94;generalize a:(BM 3 _ I).seq ET=T;go_wp2;subst a;exact b
def aCM{bA:List (List AV)}(g:∀r∈bA,L r=1)(q:L bA<1000000):∃r a,bc a 3 1 r bA/\cZ aS GG 94 [.l bA I I] eK r a/\(bA=[]->r= .l [] U U):=by have h:=DX (fn:=94) (f:=Tryz.f94) (an:=[J,J]) Tryz.func94 rfl rfl (by grind [axp]) (by grind [axt]) (by kernel_rfl) (by kernel_rfl) (bA:=bA) (R:=λr a=>bc a 3 1 r bA/\(bA=[]->r= .l [] U U/\a=eK)) (aND (show iV aS GG [] [J,J] (nU Tryz.f94) 0 (tO aS Tryz.f94 λr a=>bc a 3 1 r bA/\(bA=[]->r= .l [] U U/\a=eK)) (gt<|xE<|.l bA I I) eK=(eV (aX bH 0 eK []) λk i=>eV (Gy 3 fB 8 i 7 k<|.l bA I I) λt4 j=>aNN (λr a=>bc a 3 1 r bA/\(bA=[]->r= .l [] U U/\a=eK)) j [t4]) by kernel_rfl) ?_) (λr a h=>h.2);obtain⟨r,a,b,d⟩:=h;exact⟨r,a,b.1,d,λe=>(b.2 e).1⟩;simp only[nS,bQ];by_cases c:bA=[];subst c;simp only[Gy,gL,aO1,aNV,eV,aNN,aoz];grind [bc.nil];refine gD (e:=3) (new:=bA) bc.nil rfl (by decide) (by rw[show L eK=4096 from oA ..];decide) (by simp) g (by grind) λn Y' o m p _=>?_;grind [aNN,aoz,absurd]
def Kr{Y:ae}{d:Nat}{K:be}{bA:List (List AV)}{x:AV}(p:dG Y x= .l bA I I)(o:∀r∈bA,L r=1)(n:L bA<1000000)(q:bA.all (λr=>r.all gY)=U)(c:d<L Y)(e:∀a Y',bc Y' 3 1 a bA->Fx Y Y' []->(∀k∈aA a,bK Y k/\k.1=d)->K a Y'):cN 94 [x] Y d K:=by obtain⟨r,i,g,h,_⟩:=aCM o n;have f:[x].map (dG Y)=[.l bA I I]:=(by simp[p]);refine .inl ⟨by rw[f];rfl,by simp[aRI,c],r,i,by rw[f];exact h,?_⟩;rcases g with⟨j,rfl⟩|⟨b,rfl,m⟩;exact .inl ⟨rfl,e _ _ (.inl ⟨j,rfl⟩) (Fx.refl _ _) (by simp[aA])⟩;refine .inr ⟨b,_,_,rfl,m,?_,e _ _ (.inr ⟨zt Y d,rfl,be7 c⟩) (kH c)<|by simp[aA,zt,bK]⟩;grind [qA]
theorem axo(n c:Nat)(w:World)(R:Ending->World->Prop)(a:R (.returned<|.slice J 0 0) w):Calls aS 251 #[.slice J n c] w R:=by have b:=λ(W:World)=>run_eql_slice_nil (P:=aS) W 33 4 J n c (by kernel_rfl);go_enter Tryz.func251,Tryz.ntmps251;go_wp2;exact a
theorem axs(A:Addr)(n c:Nat)(w:World)(R:Ending->World->Prop)(b:(nU Tryz.f251).wp aS (bodyPost aS Tryz.f251 R) {tmps:=#[.slice (V A) n c,undef, .slice J 0 0, .slice (V A) n c, .bool I,undef,undef,undef],defers:=[]} w):Calls aS 251 #[.slice (V A) n c] w R:=by have d:=λ(W:World)=>run_eql_slice_nil (P:=aS) W 33 4 (V A) n c (by kernel_rfl);go_enter Tryz.func251,Tryz.ntmps251;generalize a:(BM 3 _ I).seq ET=T;go_wp2;subst a;exact b
def aCL{bA:List (List AV)}(g:∀r∈bA,L r=1)(q:L bA<1000000):∃r a,bc a 4 1 r bA/\cZ aS GG 251 [.l bA I I] eK r a/\(bA=[]->r= .l [] U U):=by have h:=DX (fn:=251) (f:=Tryz.f251) (an:=[J,J]) Tryz.func251 rfl rfl (by grind [axo]) (by grind [axs]) (by kernel_rfl) (by kernel_rfl) (bA:=bA) (R:=λr a=>bc a 4 1 r bA/\(bA=[]->r= .l [] U U/\a=eK)) (aND (show iV aS GG [] [J,J] (nU Tryz.f251) 0 (tO aS Tryz.f251 λr a=>bc a 4 1 r bA/\(bA=[]->r= .l [] U U/\a=eK)) (gt<|xE<|.l bA I I) eK=(eV (aX BD 0 eK []) λk i=>eV (Gy 4 BE 1 i 7 k<|.l bA I I) λt4 j=>aNN (λr a=>bc a 4 1 r bA/\(bA=[]->r= .l [] U U/\a=eK)) j [t4]) by kernel_rfl) ?_) (λr a h=>h.2);obtain⟨r,a,b,d⟩:=h;exact⟨r,a,b.1,d,λe=>(b.2 e).1⟩;simp only[nS,bQ];by_cases c:bA=[];subst c;simp only[Gy,gL,aO1,aNV,eV,aNN,aoz];grind [bc.nil];refine gD (e:=4) (new:=bA) bc.nil rfl (by decide) (by rw[show L eK=4096 from oA ..];decide) (by simp) g (by grind) λn Y' o m p _=>?_;grind [aNN,aoz,absurd]
def aw2{Y:ae}{d:Nat}{K:be}{bA:List (List AV)}{x:AV}(p:dG Y x= .l bA I I)(o:∀r∈bA,L r=1)(n:L bA<1000000)(q:bA.all (λr=>r.all gY)=U)(c:d<L Y)(e:∀a Y',bc Y' 4 1 a bA->Fx Y Y' []->(∀k∈aA a,bK Y k/\k.1=d)->K a Y'):cN 251 [x] Y d K:=by obtain⟨r,i,g,h,_⟩:=aCL o n;have f:[x].map (dG Y)=[.l bA I I]:=(by simp[p]);refine .inl ⟨by rw[f];rfl,by simp[aRI,c],r,i,by rw[f];exact h,?_⟩;rcases g with⟨j,rfl⟩|⟨b,rfl,m⟩;exact .inl ⟨rfl,e _ _ (.inl ⟨j,rfl⟩) (Fx.refl _ _) (by simp[aA])⟩;refine .inr ⟨b,_,_,rfl,m,?_,e _ _ (.inr ⟨zt Y d,rfl,be7 c⟩) (kH c)<|by simp[aA,zt,bK]⟩;grind [qA]
theorem axn(n c:Nat)(w:World)(R:Ending->World->Prop)(a:R (.returned<|.slice J 0 0) w):Calls aS 252 #[.slice J n c] w R:=by have b:=λ(W:World)=>run_eql_slice_nil (P:=aS) W 34 138 J n c (by kernel_rfl);go_enter Tryz.func252,Tryz.ntmps252;go_wp2;exact a
theorem axr(A:Addr)(n c:Nat)(w:World)(R:Ending->World->Prop)(b:(nU Tryz.f252).wp aS (bodyPost aS Tryz.f252 R) {tmps:=#[.slice (V A) n c,undef, .slice J 0 0, .slice (V A) n c, .bool I,undef,undef,undef],defers:=[]} w):Calls aS 252 #[.slice (V A) n c] w R:=by have d:=λ(W:World)=>run_eql_slice_nil (P:=aS) W 34 138 (V A) n c (by kernel_rfl);go_enter Tryz.func252,Tryz.ntmps252;generalize a:(BM 3 _ I).seq ET=T;go_wp2;subst a;exact b
def aCK{bA:List (List AV)}(g:∀r∈bA,L r=3)(q:L bA<1000000):∃r a,bc a 138 3 r bA/\cZ aS GG 252 [.l bA I I] eK r a/\(bA=[]->r= .l [] U U):=by have h:=DX (fn:=252) (f:=Tryz.f252) (an:=[J,J]) Tryz.func252 rfl rfl (by grind [axn]) (by grind [axr]) (by kernel_rfl) (by kernel_rfl) (bA:=bA) (R:=λr a=>bc a 138 3 r bA/\(bA=[]->r= .l [] U U/\a=eK)) (aND (show iV aS GG [] [J,J] (nU Tryz.f252) 0 (tO aS Tryz.f252 λr a=>bc a 138 3 r bA/\(bA=[]->r= .l [] U U/\a=eK)) (gt<|xE<|.l bA I I) eK=(eV (aX btP 0 eK []) λk i=>eV (Gy 138 btu 24 i 7 k<|.l bA I I) λt4 j=>aNN (λr a=>bc a 138 3 r bA/\(bA=[]->r= .l [] U U/\a=eK)) j [t4]) by kernel_rfl) ?_) (λr a h=>h.2);obtain⟨r,a,b,d⟩:=h;exact⟨r,a,b.1,d,λe=>(b.2 e).1⟩;simp only[nS,bQ];by_cases c:bA=[];subst c;simp only[Gy,gL,aO1,aNV,eV,aNN,aoz];grind [bc.nil];refine gD (e:=138) (new:=bA) bc.nil rfl (by decide) (by rw[show L eK=4096 from oA ..];decide) (by simp) g (by grind) λn Y' o m p _=>?_;grind [aNN,aoz,absurd]
def aw1{Y:ae}{d:Nat}{K:be}{bA:List (List AV)}{x:AV}(p:dG Y x= .l bA I I)(o:∀r∈bA,L r=3)(n:L bA<1000000)(q:bA.all (λr=>r.all gY)=U)(c:d<L Y)(e:∀a Y',bc Y' 138 3 a bA->Fx Y Y' []->(∀k∈aA a,bK Y k/\k.1=d)->K a Y'):cN 252 [x] Y d K:=by obtain⟨r,i,g,h,_⟩:=aCK o n;have f:[x].map (dG Y)=[.l bA I I]:=(by simp[p]);refine .inl ⟨by rw[f];rfl,by simp[aRI,c],r,i,by rw[f];exact h,?_⟩;rcases g with⟨j,rfl⟩|⟨b,rfl,m⟩;exact .inl ⟨rfl,e _ _ (.inl ⟨j,rfl⟩) (Fx.refl _ _) (by simp[aA])⟩;refine .inr ⟨b,_,_,rfl,m,?_,e _ _ (.inr ⟨zt Y d,rfl,be7 c⟩) (kH c)<|by simp[aA,zt,bK]⟩;grind [qA]
theorem axq(n c:Nat)(w:World)(R:Ending->World->Prop)(a:R (.returned<|.slice J 0 0) w):Calls aS 214 #[.slice J n c] w R:=by have b:=λ(W:World)=>run_eql_slice_nil (P:=aS) W 37 2 J n c (by kernel_rfl);go_enter Tryz.func214,Tryz.ntmps214;go_wp2;exact a
theorem axu(A:Addr)(n c:Nat)(w:World)(R:Ending->World->Prop)(b:(nU Tryz.f214).wp aS (bodyPost aS Tryz.f214 R) {tmps:=#[.slice (V A) n c,undef, .slice J 0 0, .slice (V A) n c, .bool I,undef,undef,undef],defers:=[]} w):Calls aS 214 #[.slice (V A) n c] w R:=by have d:=λ(W:World)=>run_eql_slice_nil (P:=aS) W 37 2 (V A) n c (by kernel_rfl);go_enter Tryz.func214,Tryz.ntmps214;generalize a:(BM 3 _ I).seq ET=T;go_wp2;subst a;exact b
def aCN{bA:List (List AV)}(g:∀r∈bA,L r=1)(q:L bA<1000000):∃r a,bc a 2 1 r bA/\cZ aS GG 214 [.l bA I I] eK r a/\(bA=[]->r= .l [] U U):=by have h:=DX (fn:=214) (f:=Tryz.f214) (an:=[J,J]) Tryz.func214 rfl rfl (by grind [axq]) (by grind [axu]) (by kernel_rfl) (by kernel_rfl) (bA:=bA) (R:=λr a=>bc a 2 1 r bA/\(bA=[]->r= .l [] U U/\a=eK)) (aND (show iV aS GG [] [J,J] (nU Tryz.f214) 0 (tO aS Tryz.f214 λr a=>bc a 2 1 r bA/\(bA=[]->r= .l [] U U/\a=eK)) (gt<|xE<|.l bA I I) eK=(eV (aX yW 0 eK []) λk i=>eV (Gy 2 EN 8 i 7 k<|.l bA I I) λt4 j=>aNN (λr a=>bc a 2 1 r bA/\(bA=[]->r= .l [] U U/\a=eK)) j [t4]) by kernel_rfl) ?_) (λr a h=>h.2);obtain⟨r,a,b,d⟩:=h;exact⟨r,a,b.1,d,λe=>(b.2 e).1⟩;simp only[nS,bQ];by_cases c:bA=[];subst c;simp only[Gy,gL,aO1,aNV,eV,aNN,aoz];grind [bc.nil];refine gD (e:=2) (new:=bA) bc.nil rfl (by decide) (by rw[show L eK=4096 from oA ..];decide) (by simp) g (by grind) λn Y' o m p _=>?_;grind [aNN,aoz,absurd]
def alG{Y:ae}{d:Nat}{K:be}{bA:List (List AV)}{x:AV}(p:dG Y x= .l bA I I)(o:∀r∈bA,L r=1)(n:L bA<1000000)(q:bA.all (λr=>r.all gY)=U)(c:d<L Y)(e:∀a Y',bc Y' 2 1 a bA->Fx Y Y' []->(∀k∈aA a,bK Y k/\k.1=d)->K a Y'):cN 214 [x] Y d K:=by obtain⟨r,i,g,h,_⟩:=aCN o n;have f:[x].map (dG Y)=[.l bA I I]:=(by simp[p]);refine .inl ⟨by rw[f];rfl,by simp[aRI,c],r,i,by rw[f];exact h,?_⟩;rcases g with⟨j,rfl⟩|⟨b,rfl,m⟩;exact .inl ⟨rfl,e _ _ (.inl ⟨j,rfl⟩) (Fx.refl _ _) (by simp[aA])⟩;refine .inr ⟨b,_,_,rfl,m,?_,e _ _ (.inr ⟨zt Y d,rfl,be7 c⟩) (kH c)<|by simp[aA,zt,bK]⟩;grind [qA]
def jC(l:List Int):Prop:=∀i,i+1<L l->gd l i<gd l (i+1)
def AD{l:List Int}(h:jC l):∀{i j:Nat},i<j->j<L l->gd l i<gd l j:=by intro i j c a;induction j with|zero=>omega|succ j e=>have d:=h j a;grind
section
variable{Y:ae}{b:Id}{l:List Int}{n:Nat}{K:cC}
theorem mx{e:TypeId}{i:Int}{o v:Bool}{bA:List (List AV)}(d:box Y b=V ⟨e,1,o,v,bA⟩)(h:aF n i):rV (cz 1 Y (.m b n)<|iv i) K=K (.p b i.toNat 0):=by have a:0<=i:=h.1;have c:i.toNat<n:=(by have:=h.1;have:=h.2;omega);grind [cz,rV]
theorem ml{e:TypeId}{o v:Bool}{k:Nat}(a:box Y b=V ⟨e,1,o,v,l.map ci⟩)(c:k<L l):vl J Y (.p b k 0)=V (iv<|gd l k):=by grind [vl,iE,aN,bT]
end
theorem aIh{l:List Int}{k:Nat}{x:Int}:(l.map ci).set k ((ci<|gd l k).set 0<|iv x)=(l.set k x).map ci:=by simp
def Qo{Y:ae}{b:Id}{l:List Int}{k:Nat}{x:Int}{K:ae->Prop}(c:box Y b=V ⟨3,1,U,I,l.map ci⟩)(d:k<L l)(a:∀Y',Fx Y Y' [b]->box Y' b=V ⟨3,1,U,I,(l.set k x).map ci⟩->K Y'):sV (aK 1 Y (.p b k 0)<|iv x) K:=by have e:(l.map ci)[k]?=V (ci<|gd l k):=(by grind [eC,bT]);grind [wL,aIh]
def Dt{a b:List Int}{k:Nat}(h:k<L a):gd (a++b) k=gd a k:=by grind [bT,List.getElem_append_left]
def aBD{a:List Int}{j k:Nat}(h:k<j)(c:k<L a):gd (a.take j) k=gd a k:=by grind [bT]
def aBB{a d:List Int}{t:Int}:gd (a++t::d) (L a)=t:=by grind [bT]
def aIA{r:List Int}{t:Int}{j:Nat}(c:0<j)(g:j<=L r):((r.take j++t::r.drop j).set j<|gd r<|j-1).set (j-1) t=r.take (j-1)++t::r.drop (j-1):=by obtain⟨i,rfl⟩:∃i,j=i+1:=⟨j-1,by omega⟩;have a:i<L r:=(by omega);have d:r.take (i+1)=r.take i++[gd r i]:=(by rw[iJ a,bT a]);have e:r.drop i=gd r i::r.drop (i+1):=(by rw[List.drop_eq_getElem_cons a,bT a]);have f:L (r.take i)=i:=(by simp;omega);simp_all
def aCw{Y:ae}{b:Id}{r:List Int}{t:Int}(q:jC r)(ht:t∉r)(hn:L r<12)(M:box Y b=V ⟨3,1,U,I,(r++[t]).map ci⟩)(hl:L Y=4096):∃y f,(y= .t []/\box f b=V ⟨3,1,U,I,(fk r t).map ci⟩/\Fx Y f [b])/\cZ aS GG 283 [.m b<|L r+1,iv 0,iv ((L r+1:Nat):Int)] Y y f:=by refine aME hl ?_;simp only[JT,cS,aY,↓uL];rw[show dq.wrap (0+1)=((1:Nat):Int) from rfl];refine AI (α:=Unit) (λ_ i=>[iv i]) 0 (L r+1) 1 (by omega) (λi _ Y'=>1<=i/\box Y' b=V ⟨3,1,U,I,(if i<L r+1 then r++[t] else fk r t).map ci⟩/\Fx Y Y' [b]) (s0:=()) ⟨by omega,?_,Fx.refl _ _⟩ ?_;split;exact M;have:r=[]:=(by simp_all);subst this;exact M;rintro i _ f hi ⟨ac,p,F1⟩;simp only[qz 7,aI,au,u0,u1,↓uL];refine⟨λh=>?_,λh=>?_⟩;have x:=aL h;rw[f8 x] at p;have e:∀{k:Nat},k<L r+1->k<L (r++[t]):=λh=>(by simp;omega);have nx:∀g,box g b=V ⟨3,1,U,I,(if i+1<L r+1 then r++[t] else fk r t).map ci⟩->Fx Y g [b]->yI (λ(_:Unit) i=>[iv i]) (L r+1) (λi _ Y'=>1<=i/\box Y' b=V ⟨3,1,U,I,(if i<L r+1 then r++[t] else fk r t).map ci⟩/\Fx Y Y' [b]) [iv<|dq.wrap<|(i:Int)+1] g/\gM 0 (L r+1) [iv<|dq.wrap<|(i:Int)+1] g<gM 0 (L r+1) [iv i] f:=λg N z=>yU x ⟨by omega,N,z⟩;have R:Q ((0:Int)<(i:Int))=U:=(by simp;omega);have C:∀j:Nat,0<j->j<100->dq.wrap ((j:Int)-1)=((j-1:Nat):Int):=(by grind [eM]);rcases jj i (L r) with u|u;refine⟨λvs Y'=>vs=[iv i]/\Y'=f,λ_ _=>0,⟨rfl,rfl⟩,?_⟩;rintro vs Y' ⟨rfl,rfl⟩;have T:Q (gd (r++[t]) i<gd (r++[t]) (i-1))=I:=(by rw[Dt u,Dt<|by omega];have:=AD q (show i-1<i by omega) u;simp;omega);simp only[qz 37,aI,au,u0,u1,R,jA,qE,C i (by omega) (by omega),mx p<|dJ<|show i<L r+1 by omega,mx p<|dJ<|show i-1<L r+1 by omega,bh,ml p<|e<|show i<L r+1 by omega,ml p<|e<|show i-1<L r+1 by omega,ar,ut,T,uO,bdZ,eE,aPy,aYF,ip,AL,↓uL];simp_all;obtain rfl:i=L r:=(by omega);refine⟨λvs Y'=>∃j:Nat,j<=L r/\vs=[iv j]/\box Y' b=V ⟨3,1,U,I,(r.take j++t::r.drop j).map ci⟩/\(∀k,j<=k->k<L r->t<gd r k)/\Fx Y Y' [b],λvs _=>match gt vs 0 with| .s (.int _ i)=>i.toNat|_=>0,(by grind),?_⟩;rintro vs Y' ⟨j,S,rfl,o,Z,D⟩;have w:L (r.take j++t::r.drop j)=L r+1:=(by simp;omega);have G:(∀k,k<j->gd r k<t)->box Y' b=V ⟨3,1,U,I,(if L r+1<L r+1 then r++[t] else fk r t).map ci⟩:=λA=>(by rw[dB (by omega),o];congr 3;rw[QJ r t j S A (by grind),dB];grind);rcases oD j with rfl|v;simp only[qz 37,aI,au,u0,u1,Int.lt_irrefl,Int.ofNat_eq_natCast,Int.natCast_zero,boY,jN,Bc,eE,aPy,aYF,ip,↓uL];simp_all;have B:Q ((0:Int)<(j:Int))=U:=(by simp;omega);have O:gd (r.take j++t::r.drop j) j=t:=(by have:=aBB (a:=r.take j) (d:=r.drop j) (t:=t);simp_all);have P:gd (r.take j++t::r.drop j) (j-1)=gd r (j-1):=(by rw[Dt (by simp;omega),aBD (by omega)<|by omega]);simp only[qz 37,aI,au,u0,u1,B,jA,qE,C j v (by omega),mx o<|dJ<|show j<L r+1 by omega,mx o<|dJ<|show j-1<L r+1 by omega,bh,ml o (show j<_ by rw[w];omega),ml o (show j-1<_ by rw[w];omega),ar,ut,O,P,uO,bdZ,aYF,ip,AL,↓uL];refine⟨λc=>?_,λc=>?_⟩;have ab:=qc c;refine Qo o (by omega) λg z E=>?_;simp only[qz 2,mx E<|dJ<|show j-1<L r+1 by omega,bh,↓uL];refine Qo E (by simp;omega) λY3 W F=>?_;simp only[qz 4,↓uL];refine dT rfl ?_;simp only[au,u0,u1,C j v (by omega),↓uL];rw[aIA v S] at F;refine⟨⟨j-1,by omega,rfl,F,λk X h2=>?_,(D.trans<|z.trans W).mono<|by simp⟩,by omega⟩;grind;have ad:=brD c;refine nx _ (G λk hk=>?_) D;have X:gd r (j-1)<t:=(by grind [gd,ig]);rcases jj k (j-1) with H|H;have:=AD q H (by omega);omega;grind;grind [bP,bw,aNN,aoz]
def aCq{Y:ae}{b:Id}{l:List Int}(f:jC l)(c:box Y b=V ⟨3,1,U,I,l.map ci⟩)(o:L Y=4096)(s:L l<1000):∃e g,(e= .m b (L l)/\g=Y)/\cZ aS GG 217 [.m b<|L l] Y e g:=by refine aMy o ?_;have d:fS Y (.m b<|L l)=V (iv<|L l):=(by simp[fS,c]);simp only[JN,d,u0,u1,↓uL];refine⟨λh=>by simp[aNN,aoz],λh=>?_⟩;show lV [iv ((1:Nat):Int)] _ _;refine AI (α:=Unit) (λ_ i=>[iv i]) 0 (L l) 1 (by grind) (λi _ Y'=>1<=i/\Y'=Y) (s0:=()) ⟨by omega,rfl⟩ ?_;rintro i _ Y' r ⟨q,rfl⟩;simp only[qz 37,aI,au,d,u0,u1,↓uL];refine⟨λj=>?_,λj=>by simp[aNN,aoz]⟩;have a:=aL j;have p:dq.wrap ((i:Int)-1)=((i-1:Nat):Int):=(by grind [eM]);have k:Q (gd l i=gd l (i-1))=I:=(by have:=AD f (show i-1<i by omega) a;simp;omega);simp only[mx c<|dJ a,bh,ml c a,u0,u1,p,mx c<|dJ<|show i-1<L l by omega,ml c (show i-1<L l by omega),k,eE,aPy,aYF,ip,↓uL];exact yU a ⟨by omega,rfl⟩
def alB{Y:ae}{d:Nat}{K:be}{b:Id}{t x:Int}{e:TypeId}(c:box Y b=V ⟨e,1,U,U,[[iv t]]⟩)(g:L Y=4096)(a:K (bv<|Q<|x=t) Y):cF (.f 219 [] [.p b 0 0]) [iv x] Y d K:=by simp only[cF,rn];rw[dB (show¬GG.nw 219=U by decide),f8<|show GG.imp 219=U by decide];refine(aS2 rfl (aK2 g ?_) a:cB 219 [iv x, .p b 0 0] Y d K);simp only[Ij,u0,u1,c,iF,aNN,aoz,iy,↓uL];grind [Fx.refl]
def aCv{Y:ae}{b c:Id}{l:List Int}{t:Int}{e:TypeId}(g:box Y b=V ⟨3,1,U,I,l.map ci⟩)(r:box Y c=V ⟨e,1,U,U,[[iv t]]⟩)(o:L Y=4096)(w:L l<1000):∃d i,(d=iv (oW l t)/\Fx Y i [])/\cZ aS GG 113 [.m b<|L l, .f 219 [] [.p c 0 0]] Y d i:=by refine aMB o ?_;have q:fS Y (.m b<|L l)=V (iv<|L l):=(by simp[fS,g]);simp only[JQ,q,u0,u1,↓uL];refine yV (L l) (λk _ Y'=>Y'=Y/\∀j,j<k->gd l j≠t) ⟨rfl,by simp⟩ ?_;rintro k _ Y' v ⟨rfl,u⟩;simp only[qz 19,aI,au,u0,u1,↓uL];refine⟨λh=>?_,λh=>?_⟩;have a:=aL h;simp only[mx g<|dJ a,bh,ml g a,aY,↓uL];refine alB r o ?_;simp only[u0,u1,↓uL];refine⟨λs=>?_,λs=>yU a<|by grind⟩;grind [aNN,aoz,anR,Fx.refl];grind [aNN,aoz,anS,bkb,bw,Fx.refl]
def gH(s:aW)(bF amt:Int)(k:Nat):Int:=if eh s bF k=[] then-1 else if amt∈eh s bF k then amt else gd (eh s bF k) 0
theorem AN{s:aW}{bF x:Int}{k:Nat}:x∈eh s bF k↔∃i:Nat,i<k/\pe s bF i=U/\x=i:=by grind [eh]
theorem Li{s:aW}{bF:Int}{k:Nat}(h:eh s bF k≠[]):0<=gd (eh s bF k) 0/\gd (eh s bF k) 0<k:=by grind [ig,eh,aqS,AN]
def axd{s:aW}{bF amt:Int}{k:Nat}(h:0<=gH s bF amt k):gH s bF amt k<k/\eh s bF k≠[]:=by grind [gH,AN,Li]
def axe{s:aW}{bF amt:Int}{k:Nat}:gH s bF amt (k+1)=if(pe s bF k&&(Q (gH s bF amt k<0)||Q ((k:Int)=amt)))=U then(k:Int) else gH s bF amt k:=by have hs:=vc s bF k;cases i:pe s bF k with|false=>grind [eE,gH]|true=>rw[i,f8 rfl] at hs;simp only[iw];by_cases c:eh s bF k=[];have e:gH s bF amt k= -1:=(by grind [gH]);rw[e,f8 (by simp),gH,hs,c];simp only[dW,List.cons_ne_nil,brx,cE];split;omega;rfl;have j:¬gH s bF amt k<0:=(by rw[gH,dB c];split;grind [AN];simp_all [Li]);rw[show Q (gH s bF amt k<0)=I by grind,lG];rw[gH,hs,dB<|by simp];by_cases g:(k:Int)=amt;simp_all;rw[dB (show¬Q ((k:Int)=amt)=U by simpa using g),gH,dB c];have d:amt∈eh s bF k++[(k:Int)]↔amt∈eh s bF k:=(by grind);have f:gd (eh s bF k++[(k:Int)]) 0=gd (eh s bF k) 0:=Dt<|aqS.2 c;by_cases a:amt∈eh s bF k;rw[f8<|d.2 a,f8 a];rw[dB<|λh=>a<|d.1 h,dB a,f]
def giT{Y:ae}{a:AV}{l:List aoC}{k:Nat}{K:cC}(d:bc Y 138 3 a<|l.map aoC.c)(g:k<L l):(rV (cz 3 Y a<|iv k) λt=>rV (vl (V 3) Y t) K)=K (.a (gd l k).c):=by rcases d with⟨e,_⟩|⟨b,rfl,f⟩;simp_all;simp_all [cz,rV,vl,iE,aN,bT,aoC.c]
def DB{Y:ae}{a:AV}{l:List aoC}{i:Int}{j:Nat}{x:Value}{K:AV->be}(r:bc Y 138 3 a<|l.map aoC.c)(e:aF (L l) i)(y:j<3)(g:aoC)(v:(gd l i.toNat).c.set j (.s x)=g.c)(t:∀b Y',aA a=[b]->Fx Y Y' (aA a)->bc Y' 138 3 a ((l.set i.toNat g).map aoC.c)->K (.p b i.toNat 0) (.p b i.toNat j) Y'):rV (cz 3 Y a<|iv i) λp=>rV (iQ j Y p) λq=>sV (aK 1 Y q<|.s x) (K p q):=by have o:i.toNat<L l:=(by have:=e.1;have:=e.2;omega);rcases r with⟨w,_⟩|⟨b,rfl,d⟩;simp_all;have f:cz 3 Y (.m b<|L<|l.map aoC.c) (iv i)=V (.p b i.toNat 0):=(by simp[cz,e.1,d,o]);rw[f];simp only[rV,rR,d,df,aj];have u:(l.map aoC.c)[i.toNat]?=V (gd l i.toNat).c:=(by grind [eC,bT]);refine wL d u (by grind [aoC.c]) λY' h k=>t b Y' rfl h ?_;rw[v] at k;refine .inr ⟨b,by simp,?_⟩;simp_all
def aCD(s:aW)(bF amt:Int){x1 x2 g:AV}{Y:ae}(E:L Y=4096)(hn:L s.ay<1000)(W:bc Y 138 3 g<|s.ay.map aoC.c):∃r e,(r=iv (gH s bF amt<|L s.ay)/\bc e 138 3 g ((if 0<=gH s bF amt (L s.ay) then s.ay.set (gH s bF amt<|L s.ay).toNat {gd s.ay (gH s bF amt<|L s.ay).toNat with cQ:=4} else s.ay).map aoC.c)/\Fx Y e (aA g))/\cZ aS GG 220 [.a [x1,iv s.tx,x2,g],iv bF,iv amt] Y r e:=by refine aK7 E rfl λt v3 v ad nf x=>?_;have u:=v.fx [];have A:=W.fx u (by simp);have H:L t=4096:=v.len.trans E;simp only[Ir,u0,u1,x,aj,iF,nM,iy,lnI A,bJ,↓uL];refine jD (α:=Int) (λa i=>[iv a,iv i]) 1 (L s.ay) (λk a Y'=>a=gH s bF amt k/\Fx t Y' []) (s0:= -1) ⟨by simp[gH,eh],Fx.refl _ _⟩ ?_;rintro k _ e hk ⟨rfl,f⟩;have B:=A.fx f (by simp);have G:L e=4096:=f.len.trans H;have S:=f.kq x;simp only[qz 25,aI,au,ck,u0,u1,di,↓uL];refine⟨λh=>?_,λh=>?_⟩;have o:=aL h;refine bsK (λd=>∀(a:Int) (y:ae),a=gH s bF amt (k+1)->Fx t y []->d [iv a] y) ?_ λd nx=>?_;rintro a y rfl F;simp only[qz 45,aI,au,ck,u0,u1,↓uL];exact dR (mk:=λa i=>[iv a,iv i]) (p:=1) (s:=gH s bF amt k) (s':=gH s bF amt<|k+1) (λ_ _=>rfl) o (by omega) ⟨rfl,F⟩;simp only[qz 47,qy 4,au,ck,giT B o,↓uL];refine ic G λZ Y2 O N2 T=>?_;refine cy (cs:=aoC.c<|gd s.ay k) T rfl rfl (by decide) λw P z=>?_;have q:box w (9,Z)=V ⟨138,3,U,U,[aoC.c<|gd s.ay k]⟩:=z;have j:Fx e w []:=(O.trans P).mono (by grind [bK.no]);have ab:=axe (s:=s) (bF:=bF) (amt:=amt) (k:=k);have M:(Q ((gd s.ay k).cQ=3)&&Q ((gd s.ay k).cond=bF))=pe s bF k:=rfl;simp+contextual only[qz 6,u0,u1,q,rk,ar,ut,aj,au,ck,M,↓uL];refine⟨λX=>nx _ _ ?_<|f.trans j,λX=>nx _ _ ?_<|f.trans j⟩;simp_all;simp_all;obtain rfl:k=L s.ay:=(by grind);have R:Fx Y e []:=(u.trans f).mono (by simp);simp only[qz 65,qy 8,au,ck,u0,u1,↓uL];refine⟨λD=>?_,λD=>?_⟩;have m:=qc D;have C:=(axd m).1;simp only[S,u0,u1,aj,iF,nM,iy,↓uL];refine DB B ⟨m,C⟩ (by decide) {gd s.ay (gH s bF amt<|L s.ay).toNat with cQ:=4} rfl λb Y' ac N g'=>?_;simp only[qz 63,aI,au,aNN,aoz,↓uL];refine⟨trivial,?_,(R.trans N).mono<|by simp_all⟩;simp_all;simp only[qz 63,aI,au,aNN,aoz,↓uL];grind [Fx.mono]
abbrev mH(s:aW)(l:List Int):aW:=l.foldl (λs u=>ni s u {fA s u with cQ:=4}) s
def anr:∀(l:List Int) (s:aW),L (mH s l).ay=L s.ay
 |[],s=>rfl
 |u::l,s=>by
  show L (mH (ni s u _) l).ay=_
  rw[anr l];simp[ni]
theorem anq:∀(l:List Int) (s:aW) (k:Nat),(∀u∈l,u.toNat≠k)->gd (mH s l).ay k=gd s.ay k
 |[],s,k,_=>rfl
 |u::l,s,k,h=>by
  show gd (mH (ni s u _) l).ay k=_
  rw[anq l _ k<|by simp_all]
  grind [ni,gd]
def aD2(s:aW)(l:List Int)(u:Int):mH s (l++[u])=ni (mH s l) u {fA (mH s l) u with cQ:=4}:=by simp[mH]
def aCE(s:aW)(bF:Int){x1 x2 d:AV}{Y:ae}(F:L Y=4096)(hn:L s.ay<1000)(u:bc Y 138 3 d<|s.ay.map aoC.c):∃r f,(r=iv (L<|fO s bF)/\bc f 138 3 d ((mH s<|fO s bF).ay.map aoC.c)/\Fx Y f (aA d))/\cZ aS GG 221 [.a [x1,iv s.tx,x2,d],iv bF] Y r f:=by refine aK8 F rfl λO v3 z ah nf o=>?_;have y:=z.fx [];have C:=u.fx y (by simp);have H:L O=4096:=z.len.trans F;have v:∀{P:ae} {l:List aoC} {w:Id} {x:bY},bc P 138 3 d (l.map aoC.c)->box P w=V x->x.var=U->w∉aA d:=λu hw hx hm=>(by rcases u with⟨_,rfl⟩|⟨b,rfl,m⟩;simp[aA] at hm;grind [aA,cE]);simp only[Is,u0,u1,o,aj,iF,nM,iy,lnI C,bJ,↓uL];refine jD (α:=Int) (λa i=>[iv a,iv i]) 1 (L s.ay) (λk a Y'=>a=(L (eh s bF k):Int)/\bc Y' 138 3 d ((mH s<|eh s bF k).ay.map aoC.c)/\Fx O Y' (aA d)) (s0:=0) (by grind [eh,Fx.refl]) ?_;rintro k _ f hk ⟨rfl,t,g⟩;have G:L f=4096:=g.len.trans H;have W:=g.keep _ _ (v C o rfl) o;have M:=anr (eh s bF k) s;have ag:=wU s bF k;simp only[qz 25,aI,au,ck,u0,u1,di,↓uL];refine⟨λh=>?_,λh=>?_⟩;have j:=aL h;have E:gd (mH s<|eh s bF k).ay k=gd s.ay k:=(by grind [anq,AN]);simp only[qz 47,qy 4,au,ck,giT t (by rw[M];exact j),E,↓uL];refine ic G λv9 Y2 S N2 Z=>?_;refine cy (cs:=aoC.c<|gd s.ay k) Z rfl rfl (by decide) λA T B=>?_;have q:box A (7,v9)=V ⟨138,3,U,U,[aoC.c<|gd s.ay k]⟩:=B;have e:Fx f A []:=(S.trans T).mono (by grind [bK.no]);have D:=t.fx e (by simp);have X:=e.kq W;have hs:=vc s bF k;have N:(Q ((gd s.ay k).cQ=3)&&Q ((gd s.ay k).cond=bF))=pe s bF k:=rfl;simp+contextual only[qz 6,qy 8,u0,u1,q,rk,ar,ut,aj,au,ck,N,↓uL];refine⟨λm=>?_,λm=>?_⟩;rw[m,f8 rfl] at hs;simp only[X,u0,u1,aj,iF,nM,iy,↓uL];refine DB D (by grind [dJ]) (by decide) {fA (mH s<|eh s bF k) k with cQ:=4} rfl λb Y' af R g'=>?_;simp only[qz 45,aI,au,ck,u0,u1,↓uL];refine dR (mk:=λa i=>[iv a,iv i]) (p:=1) (s:=(L (eh s bF k):Int)) (s':=dq.wrap<|(L (eh s bF k):Int)+1) (λ_ _=>rfl) j (by omega) ?_;refine⟨?_,?_,(g.trans<|e.trans R).mono<|by simp_all⟩;grind [fX];rw[hs,aD2];exact g';rw[m] at hs;simp only[eE,brx,cL] at hs;simp only[qz 45,aI,au,ck,u0,u1,↓uL];refine dR (mk:=λa i=>[iv a,iv i]) (p:=1) (s:=(L (eh s bF k):Int)) (s':=(L (eh s bF k):Int)) (λ_ _=>rfl) j (by omega) ?_;rw[hs];exact⟨rfl,D,(g.trans e).mono<|by simp_all⟩;obtain rfl:k=L s.ay:=(by grind);simp only[aNN,aoz];exact⟨rfl,t,(y.trans g).mono<|by simp_all⟩
def apl:dO:=apn
def yR:eJ apl:=wR
def aBn:=@ut
def atE:=I5 13 [(4,([13],[1,2,3,11,12]))]
def Iq a b R:=(.mk _:NS apl atE Tryz.f215 [.u] [a] b R).p
def aK6{c0:List AV}{s0:ae}{R:be}(hs:L s0=4096)(l0:L c0=4)(h:HB1 36 4 1 c0 s0 λc b=>Iq c b R):EB 215 [.a c0] s0 R:=zB1 atE yR Tryz.func215 hs l0 h
def avc:=I5 34 [(2,([1,2,3,8,9],[0])),(10,([3],[0,1,2,8,9,10])),(14,([11,12],[0,1,2,3,8,9,10])),(18,([],[0,1,2,3,8,9,10,11]))]
def JU a a1 b c s0 R:=(.mk _:NS apl avc Tryz.f253 [a,a1,b,c] [] s0 R).p
def aMF{a a1 b c:AV}{s0:ae}{R:be}(hs:L s0=4096)(h:JU a a1 b c s0 R):EB 253 [a,a1,b,c] s0 R:=zB avc yR Tryz.func253 h
def ava:=I5 1 []
def JS a s0 R:=(.mk _:NS apl ava Tryz.f216 [a] [] s0 R).p
def aMD{a:AV}{s0:ae}{R:be}(hs:L s0=4096)(h:JS a s0 R):EB 216 [a] s0 R:=zB ava yR Tryz.func216 h
def au7:=I5 16 [(7,([5,6],[0,1])),(10,([5],[0,1,6]))]
def JO a a1 s0 R:=(.mk _:NS apl au7 Tryz.f218 [a,a1] [] s0 R).p
def aMA{a a1:AV}{s0:ae}{R:be}(hs:L s0=4096)(h:JO a a1 s0 R):EB 218 [a,a1] s0 R:=zB au7 yR Tryz.func218 h
def atB:=I5 12 []
def In b a c d e f R:=(.mk _:NR apl atB Tryz.f210 [.u, .u,c,d,e] [b,a] f R).p
def aK3{c0:List AV}{b:List AV}{c d e:AV}{R:cC}(l0:L c0=6)(l1:L b=4)(h:H2 31 6 5 c0 36 4 6 b λia f g=>In ia f c d e g R):Ct 210 [.a c0, .a b,c,d,e] R:=z2 atB yR Tryz.func210 l0 l1 h
def aCG{Y:ae}{b:Id}{r:List Int}{t d:Int}(e:jC r)(k:t∉r)(j:L r<12)(i:box Y b=V ⟨3,1,U,I,(r++[t]).map ci⟩)(f:L Y=4096):∃a c,(a= .t []/\box c b=V ⟨3,1,U,I,(fk r t).map ci⟩/\Fx Y c [b])/\cZ aS GG 253 [.m b<|L r+1,iv 0,iv ((L r+1:Nat):Int),iv d] Y a c:=by refine aMF f ?_;simp only[JU,↓uL];refine⟨λvs Y'=>vs=[iv 0,iv ((L r+1:Nat):Int),iv d,bv U,bv U]/\Y'=Y,λ_ _=>0,⟨rfl,rfl⟩,?_⟩;rintro vs Y' ⟨rfl,rfl⟩;have g:Q (((L r+1:Nat):Int)<=12)=U:=(by simp;omega);simp only[qz 13,qy 2,aI,au,ck,u0,u1,Int.sub_zero,eM (x:=((L r+1:Nat):Int)) (by omega) (by omega),g,↓iC,↓uL];refine jH rfl (aCw e k j i f) ?_;rintro a c ⟨rfl,l,h⟩;exact⟨h.len,by grind [aNN,aoz]⟩
def aCO{Y:ae}{b:Id}{r:List Int}{t:Int}(d:jC r)(l:t∉r)(j:L r<12)(e:box Y b=V ⟨3,1,U,I,(r++[t]).map ci⟩)(g:L Y=4096):∃a c,(a= .t []/\box c b=V ⟨3,1,U,I,(fk r t).map ci⟩/\Fx Y c [b])/\cZ aS GG 216 [.m b<|L r+1] Y a c:=by refine aMD g ?_;have h:fS Y (.m b<|L r+1)=V (iv ((L r+1:Nat):Int)):=(by simp[fS,e]);have f:sO (V .u64) (iv ((L r+1:Nat):Int))=V (.s<|.int .u64 ((L r+1:Nat):Int)):=(by show V (AV.s<|.int .u64<|IntKind.u64.wrap _)=_;grind [IntKind.wrap_u64]);simp only[JS,qy 2,h,aY,f,ar,ut,jM,↓uL];refine⟨by omega,?_⟩;rintro k ⟨n,rfl⟩;refine⟨.inl rfl,?_⟩;refine jH rfl (aCG d l j e g) ?_;rintro a c ⟨rfl,o,i⟩;exact⟨i.len,by grind [aNN,aoz]⟩
def apJ{l:List Int}{t:Int}{j:Nat}(h:j<L l):fJ (l.take<|j+1) t=fJ (l.take j) t++if gd l j≠t then[gd l j] else[]:=by grind [fJ,iJ,bT]
def aE6{l:List Int}{t:Int}(h:t∈l):∃i:Nat,oW l t=i/\i<L l/\gd l i=t/\∀j,j<i->gd l j≠t:=by have hs:(l.findIdx? λx=>Q<|x=t).isSome=U:=(by simp_all);grind [zz,RL,oW,bT]
def aCs{Y:ae}{b c:Id}{l:List Int}{t:Int}{e:TypeId}(hm:t∈l)(B:box Y b=V ⟨3,1,U,I,l.map ci⟩)(D:box Y c=V ⟨e,1,U,U,[[iv t]]⟩)(z:L Y=4096)(hn:L l<1000):∃x n,(x= .m b (L<|fJ l t)/\box n b=V ⟨3,1,U,I,(fJ l t++er (L l-L (fJ l t)) 0).map ci⟩/\Fx Y n [b])/\cZ aS GG 218 [.m b<|L l, .f 219 [] [.p c 0 0]] Y x n:=by refine aMA z ?_;have C:c≠b:=(by grind);simp only[JO,↓uL];refine aS2 rfl (aCv B D z hn) ?_;obtain⟨v,hp,N,M,ac⟩:=aE6 hm;rw[hp];have R:Q ((v:Int)= -1)=I:=(by simp);simp only[qz 2,u0,u1,R,eE,aPy,aYF,ip,↓uL];rw[fX<|by omega];have X:fJ (l.take<|v+1) t=l.take v:=(by rw[apJ N,dB (by simp[M]),cL,fJ,List.filter_eq_self];grind [ou,bT]);refine AI (α:=Nat) (λa i=>[iv (a:Int),iv i]) 1 (L l) (v+1) (by omega) (λj a Y'=>∃d:List Int,a=L (fJ (l.take j) t)/\a<j/\L d=L l/\d.take a=fJ (l.take j) t/\d.drop j=l.drop j/\box Y' b=V ⟨3,1,U,I,d.map ci⟩/\Fx Y Y' [b]) (s0:=v) ⟨l,?_,by omega,rfl,?_,rfl,B,Fx.refl _ _⟩ ?_;grind;rw[X];rintro j a n hj ⟨d,A,ak,F,W,K,o,r⟩;have O:L n=4096:=r.len.trans z;have c1:=r.keep _ _ (by simpa using C) D;have P:fS n (.m b<|L l)=V (iv<|L l):=(by simp[fS,o]);simp only[qz 43,aI,au,ck,P,u0,u1,↓uL];refine⟨λh=>?_,λh=>?_⟩;have q:=aL h;have H:gd d j=gd l j:=(by have h1:(d.drop j)[0]?=(l.drop j)[0]?:=(by rw[K]);grind [eC,bT]);have w:=apJ (t:=t) q;simp only[di,qz 65,qy 6,au,ck,mx o<|dJ q,bh,ml o (show j<L d by omega),aY,H,↓uL];refine alB c1 O ?_;simp only[u0,u1,↓uL];refine⟨λhv=>?_,λhv=>?_⟩;have u:gd l j≠t:=(by grind);rw[f8 u] at w;simp only[mx o<|dJ<|show a<L l by omega,bh];refine Qo o (by omega) λY2 Z b2=>?_;simp only[qz 63,aI,au,ck,u0,u1,↓uL];rw[fX (k:=a)<|by omega];refine dR (mk:=λ(a:Nat) i=>[iv (a:Int),iv i]) (p:=1) (s:=a) (s':=a+1) (λ_ _=>rfl) q (by omega) ?_;refine⟨d.set a<|gd l j,by simp_all,by omega,by simp[F],?_,?_,b2,(r.trans Z).mono<|by simp⟩;grind [iJ,List.take_set_of_le];rw[List.drop_set_of_lt<|by omega];have:d.drop (j+1)=(d.drop j).drop 1:=(by simp);simp_all;have u:gd l j=t:=(by grind);rw[dB (by simp[u]),cL] at w;simp only[qz 63,aI,au,ck,u0,u1,↓uL];refine dR (mk:=λ(a:Nat) i=>[iv (a:Int),iv i]) (p:=1) (s:=a) (s':=a) (λ_ _=>rfl) q (by omega) ?_;refine⟨d,by simp_all,by omega,F,by simp_all,?_,o,r⟩;have:d.drop (j+1)=(d.drop j).drop 1:=(by simp);simp_all;obtain rfl:j=L l:=(by grind);rw[gV] at A W;have T:fo 1 n (.m b<|L l) (V<|iv (a:Int)) J J=V (.g 2 b a<|L l-a):=(by simp only[fo,lM];grind [qY,bh]);simp only[T,aY,↓uL];have E:pA (.int .i64 0) n (.g 2 b a<|L l-a)=V (wr n b ⟨3,1,U,I,(d.take a++er (L l-a) 0++d.drop (L l)).map ci⟩):=(by simp only[pA,o];rw[f8 ⟨trivial,by omega⟩];congr 3;rw[show a+(L l-a)=L l by omega];simp);simp only[E,aoq,qz 8,au,↓uL];have y:=lO (x':=⟨3,1,U,I,(d.take a++er (L l-a) 0++d.drop (L l)).map ci⟩) o;have S:fo 1 (wr n b ⟨3,1,U,I,(d.take a++er (L l-a) 0++d.drop (L l)).map ci⟩) (.m b<|L l) J (V<|iv (a:Int)) J=V (.m b a):=(by simp only[fo,lM];rw[f8<|by omega];simp only[qY,y,aQd,bh,mi];rw[f8 ⟨trivial,trivial,by omega⟩]);simp only[S,aY,aNN,aoz,↓uL];have G:d.drop (L l)=[]:=(by grind);rw[G,cL,W] at y;subst A;rw[show d.take (L<|fJ l t)++er (L l-L (fJ l t)) 0++d.drop (L l)=fJ l t++er (L l-L (fJ l t)) 0 by simp_all];exact⟨rfl,y,(r.trans<|wc o).mono<|by simp⟩
def anf{Y a:ae}{b:Id}{x:bY}(c:Fx Y a [b])(h:box a b=V x):LoC b x Y a:=⟨c.len,c.I6,(by grind [Fx.keep]),h⟩
def awP{Y:ae}{d:Nat}{K:be}{b:Id}{l:List Int}(e:jC l)(c:box Y b=V ⟨3,1,U,I,l.map ci⟩)(j:L Y=4096)(k:L l<1000)(i:∀Y',Fx Y Y' [b]->box Y' b=V ⟨3,1,U,I,l.map ci⟩->K (.m b<|L l) Y'):cN 217 [.m b<|L l] Y d K:=by refine .inr (.inl ⟨.m b<|L l,b,_,⟨3,1,U,I,l.map ci⟩,L l,rfl,c,(by grind [qA,gY]), .inr ⟨_,rfl⟩,λg f n=>?_,i _ (wc c)<|lO c⟩);have a:box g b=V ⟨3,1,U,I,l.map ci⟩:=(by grind [nQ,pP,dC,dK]);obtain⟨r,o,⟨rfl,rfl⟩,h⟩:=aCq e a (f.trans j) k;exact⟨_,h,anf (Fx.refl _ _) a⟩
def awR{Y:ae}{d:Nat}{K:be}{b c:Id}{l:List Int}{t:Int}{e:TypeId}(u:t∈l)(a:box Y b=V ⟨3,1,U,I,l.map ci⟩)(z:box Y c=V ⟨e,1,U,U,[[iv t]]⟩)(s:L Y=4096)(v:L l<1000)(q:∀Y',Fx Y Y' [b]->box Y' b=V ⟨3,1,U,I,(fJ l t++er (L l-L (fJ l t)) 0).map ci⟩->K (.m b<|L<|fJ l t) Y'):cN 218 [.m b<|L l, .f 219 [] [.p c 0 0]] Y d K:=by have x:L (fJ l t)<=L l:=fZ _ _;refine .inr (.inl ⟨.m b<|L<|fJ l t,b,_,⟨3,1,U,I,(fJ l t++er (L l-L (fJ l t)) 0).map ci⟩,L l,rfl,a,(by grind [qA,gY]), .inr ⟨_,rfl⟩,λg k w=>?_,q _ (wc a)<|lO a⟩);have i:box g b=V ⟨3,1,U,I,l.map ci⟩:=(by grind [nQ,pP,dC,dK]);have j:box g c=V ⟨e,1,U,U,[[iv t]]⟩:=(by grind [nQ,pP,dC,dK]);obtain⟨r,y,⟨rfl,n,o⟩,h⟩:=aCs u i j (k.trans s) v;exact⟨_,h,anf o n⟩
theorem Ny{x:Int}{l:List Int}:jC (x::l)↔(∀y∈l.head?,x<y)/\jC l:=by constructor;intro h;refine⟨λy a=>?_,λi b=>by have:=h (i+1) (by simp;omega);grind [gd]⟩;(cases l with|nil=>simp at a|cons z l=>simp only[List.head?_cons,Option.mem_def,bE] at a;subst a;have:=h 0 (by simp);grind [gd]);rintro⟨d,c⟩ i b;cases i with|zero=>(cases l with|nil=>simp at b|cons z l=>simp_all [gd])|succ i=>have:=c i (by simp_all);grind [gd]
def aE9{l:List Int}{t:Int}:∀y∈(fk l t).head?,y=t\/y∈l.head?:=by cases l with|nil=>simp[fk]|cons x l=>grind [fk]
theorem Nz:∀{l:List Int} {t:Int},jC l->jC (fk l t)
 |[],t,_=>by intro i c;simp[fk] at c
 |x::l,t,h=>by
  have b:=Ny.1 h
  simp only[fk]
  split
  ·rename_i d
   refine Ny.2 ⟨λy a=>?_,Nz b.2⟩
   rcases aE9 y a with rfl|a
   ·exact d
   simp_all
  grind [Ny]
def an0:∀{l:List Int} {t:Int},(∀x∈l,x<t)->fk l t=l++[t]
 |[],t,_=>rfl
 |x::l,t,h=>by
  simp only[fk,f8<|h x<|by simp,zn]
  rw[an0<|by simp_all]
def an3{l:List Int}(h:jC l):∀k,k<=L l->jh [] l k=l.take k
 |0,_=>rfl
 |k+1,e=>by
  have a:k<L l:=by omega
  have hs:jh [] l (k+1)=fk (jh [] l k) (gd l k):=by
   grind [jh,iJ,bT]
  rw[hs,an3 h k (by omega),iJ a,<-bT a]
  refine an0 λx c=>?_
  obtain⟨j,d,rfl⟩:=ou c
  have b:j<k:=by grind
  have:=AD h b a
  grind [bT]
theorem Ro{l:List Int}{t:Int}(h:jC l):mP l [t]=fk l t:=by show jh (jh [] l<|L l) [t] 1=_;rw[an3 h _<|dA _,gV];rfl
def io(n:Nat)(f:Nat->List AV):List (List AV):=(aH n).map f
theorem aH0{n:Nat}{f:Nat->List AV}:L (io n f)=n:=by simp[io]
def uU{n:Nat}{f:Nat->List AV}{k:Nat}(h:k<n):(io n f)[k]?=V (f k):=by simp[io,h]
def yC{n:Nat}{f g:Nat->List AV}(h:∀i,i<n->f i=g i):io n f=io n g:=ja λi a=>h i<|fq.1 a
def Bl{n:Nat}{f:Nat->List AV}{k:Nat}{x:List AV}:(io n f).set k x=io n λi=>if i=k then x else f i:=by refine biF (by simp[io]) λj a b=>?_;grind [io]
def Q0{n:Nat}{x:List AV}:er n x=io n λ_=>x:=by refine biF (by simp[io]) λj a b=>?_;simp[io]
def aH1{α:Type}[Inhabited α]{l:List α}{g:α->List AV}:(l.map g)=io (L l) λi=>g (gd l i):=by refine biF (by simp[io]) λj a b=>?_;grind [io,bT]
def qg(Y:ae)(e:TypeId)(z:Nat)(a:AV)(bA:List<|List AV):Prop:=(bA=[]/\a= .l [] U U)\/∃b c,a= .m b (L bA)/\box Y b=V ⟨e,z,U,I,c⟩/\c.take (L bA)=bA
theorem qg.fx{Y Y':ae}{ks:List Id}{e:TypeId}{z:Nat}{a:AV}{bA:List (List AV)}(i:qg Y e z a bA)(g:Fx Y Y' ks)(j:∀b∈aA a,b∉ks):qg Y' e z a bA:=by rcases i with h|⟨b,c,rfl,d,f⟩;exact .inl h;exact .inr ⟨b,c,rfl,g.keep b _ (j b<|by simp[aA]) d,f⟩
def bc.x{Y:ae}{e:TypeId}{z:Nat}{a:AV}{bA:List (List AV)}(d:bc Y e z a bA):qg Y e z a bA:=by rcases d with h|⟨b,rfl,c⟩;exact .inl h;exact .inr ⟨b,bA,rfl,c,gV⟩
theorem qg.ids{Y:ae}{e:TypeId}{z:Nat}{a:AV}{bA:List (List AV)}(d:qg Y e z a bA):∀k∈aA a,∃c,box Y k=V ⟨e,z,U,I,c⟩:=by rcases d with⟨_,rfl⟩|⟨b,c,rfl,f,g⟩;simp[aA];grind [aA,cE]
theorem qg.ce{Y:ae}{e:TypeId}{z:Nat}{a:AV}{bA:List (List AV)}(c:qg Y e z a bA):eY a=V [a]:=by rcases c with⟨_,rfl⟩|⟨b,_,rfl,_⟩<;>rfl
theorem qg.fr{Y:ae}{e:TypeId}{a:AV}{l:List Int}(f:qg Y e 1 a<|l.map ci):rS Y a=sl ci l:=by rcases f with⟨h,rfl⟩|⟨b,g,rfl,c,d⟩;simp at h;subst h;rfl;simp only[rS,aOn,c,aNV,gK];rw[d];rfl
def vC(Y:ae)(a:AV)(ls:List cg):Prop:=∃(b:Id) (f:Nat->AV),a= .m b (L ls)/\box Y b=V ⟨184,2,U,U,io (L ls) λi=>[iv (gd ls i).awG,f i]⟩/\(∀i,i<L ls->bc Y 3 1 (f i) ((gd ls i).bk.map ci))/\(∀i j,i<L ls->j<L ls->i≠j->∀k∈aA (f i),k∉aA (f j))/\∀i,i<L ls->∀k∈aA (f i),k.1=24
def sC(Y:ae)(a:AV)(ls:List cg):Prop:=∃(b:Id) (f:Nat->AV),a= .m b (L ls)/\box Y b=V ⟨184,2,U,U,io (L ls) λi=>[iv (gd ls i).awG,f i]⟩/\(∀i,i<L ls->qg Y 3 1 (f i) ((gd ls i).bk.map ci))/\∀i j,i<L ls->j<L ls->i≠j->∀k∈aA (f i),k∉aA (f j)
def Bp{Y:ae}{b:Id}{i j z y:Nat}{e:TypeId}{o:Bool}{bA:List (List AV)}{r cs:List AV}{x:AV}{K:ae->Prop}(a:box Y b=V ⟨e,z,o,U,bA⟩)(g:bA[i]?=V r)(h:eY x=V cs)(k:L cs=y)(f:j+y<=L r)(d:∀Y',Fx Y Y' [b]->box Y' b=V ⟨e,z,o,U,bA.set i<|r.take j++cs++r.drop (j+y)⟩->K Y'):sV (aK y Y (.p b i j) x) K:=by have c:aK y Y (.p b i j) x=V (wr Y b ⟨e,z,o,U,bA.set i<|r.take j++cs++r.drop (j+y)⟩):=(by grind [aK,aBG,pW]);rw[c];exact d _ (wc a)<|lO a
def AP{e:TypeId}{zs:List AV}{by' d n:Nat}{Y:ae}{K:be}(i:0<L zs)(h:zs.all eN=U)(a:d<L Y)(j:n*(by'+1)<=1099511627776)(g:∀b Y',b.1=d->bK Y b->Fx Y Y' []->box Y' b=V ⟨e,L zs,U,uj zs,er n<|mz zs⟩->K (.m b n) Y'):eV (qO e zs by' Y d (iv n)<|iv n) K:=by have c:qO e zs by' Y d (iv n) (iv n)=V (.m (zt Y d) n,put Y d ⟨e,L zs,U,uj zs,er n<|mz zs⟩):=(by have f:(n:Int)*((by':Int)+1)<=((1099511627776:Nat):Int):=(by grind);simp only[qO];rw[f8 ⟨by omega,Int.le_refl _,i,h,by simp[aRI,a],f⟩];simp);rw[c];exact g _ _ rfl (qQ Y d) (kH a)<|be7 a
def aqw(s:aW)(r:AV)(e Y:ae):Prop:=∃a1 d b,r= .a [a1,iv s.tx,d,b]/\vC Y a1 s.ak/\bc Y 4 1 d (s.done.map cb)/\bc Y 138 3 b (s.ay.map aoC.c)/\(∀k∈aA a1++aA d++aA b,bK e k)/\∀k∈aA b,k.1≠7/\k.1≠8
def aCp(s:aW){Y:ae}(hl:L Y=4096)(hp:L s.ak<1000/\L s.done<1000/\L s.ay<1000/\∀l∈s.ak,L l.bk<1000):∃r Y1,(aqw s r Y Y1/\Fx Y Y1 [])/\cZ aS GG 215 [.a s.c] Y r Y1:=by refine aK6 hl rfl λs2 n K2 bw bz b1=>?_;have D:Fx Y s2 []:=K2.fx [];have an:L s2=4096:=K2.len.trans hl;simp only[Iq,↓uL];refine ic an λK Y2 N N2 b2=>?_;have d1:=N.kq b1;have a0:L Y2=4096:=N.len.trans an;simp only[qz 4,u0,u1,d1,rk,aj,cT,↓uL];refine AP (by decide) (by decide) (by omega) (by omega) λd Y3 bt NL F3 aQ=>?_;have hL:box Y3 d=V ⟨184,2,U,U,io (L s.ak) λ_=>[iv 0, .l [] U U]⟩:=(by rw[aQ,Q0];rfl);have e1:=F3.kq d1;simp only[qz 6,u0,u1,e1,rk,aj,cT,↓uL];refine yV (L s.ak) (λk _ Y'=>Fx Y2 Y' []/\∃f:Nat->AV,box Y' d=V ⟨184,2,U,U,io (L s.ak) λi=>if i<k then[iv (gd s.ak i).awG,f i] else[iv 0, .l [] U U]⟩/\(∀i,i<k->bc Y' 3 1 (f i) ((gd s.ak i).bk.map ci))/\(∀i j,i<k->j<k->i≠j->∀q∈aA (f i),q∉aA (f j))/\(∀i,i<k->∀q∈aA (f i),q≠d)/\∀i,i<k->∀q∈aA (f i),q.1=24) (by simp_all) ?_;rintro k _ A hk ⟨E,f,aT,T,aP,bs,aR⟩;have W:L A=4096:=E.len.trans a0;have g1:=E.kq d1;have g2:=E.kq b2;simp only[qz 25,qy 8,aI,au,u0,u1,ix,rk,bh,g1,aj,↓uL];refine⟨λh=>⟨u7 h,?_⟩,λh=>?_⟩;have X:=aL h;refine ic W λv5 Y5 o N5 b5=>?_;refine cy (cs:=cg.c<|gd s.ak k) b5 rfl rfl (by decide) λZ t P=>?_;have aN:box Z (5,v5)=V ⟨184,2,U,U,[cg.c<|gd s.ak k]⟩:=P;have C:Fx A Z []:=(o.trans t).mono (by grind [bK.no]);have bu:L Z=4096:=C.len.trans W;simp only[qz 10,u0,u1,aN,rk,aj,↓uL];refine Kr (bA:=(gd s.ak k).bk.map ci) rfl fF (by grind [ig]) (by simp[gY]) (by omega) λG Y7 g7 u N7=>?_;have aU:bM btg brF [(0,iv (gd s.ak k).awG),(1,G)]=V (.a [iv (gd s.ak k).awG,G]):=(by simp[bM,aly,ms g7,zU]);have am:=u.kq<|C.kq aT;have aV:cz 2 Y7 (.m d<|L s.ak) (iv k)=V (.p d k 0):=(by simp[cz,am,X]);simp only[qz 12,aU,aY,aV,au,↓uL];refine Bp am (uU X) (x:= .a [iv (gd s.ak k).awG,G]) rfl rfl (by simp) λY8 F R=>?_;simp only[qz 14,↓uL];refine dT rfl ?_;simp only[au,u0,u1,↓uL];have bm:∀q∈aA G,q≠d:=(by grind);have bn:∀i,i<k->∀q∈aA (f i),q∉aA G:=λi y q g a4=>(by obtain⟨v,b⟩:=(T i y).x.ids q g;exact(N7 q a4).1.no _<|C.kq b);have aC:Fx A Y8 [d]:=(C.trans<|u.trans F).mono (by simp);refine yU X ⟨(E.trans aC).mono (by grind [bK.no]),λi=>if i=k then G else f i,?_,?_,?_,?_,?_⟩;rw[R,Bl];congr 2;refine yC λi y=>?_;grind;intro i y;by_cases h1:i=k;grind [bc.fx];grind [bc.fx];grind;grind;grind;obtain rfl:k=L s.ak:=(by grind);have aB:box A d=V ⟨184,2,U,U,io (L s.ak) λi=>[iv (gd s.ak i).awG,f i]⟩:=(by simp_all [yC,f8]);have n1:d≠(1,n):=(NL.ne d1).symm;refine cy (cs:=[.m d<|L s.ak]) g1 rfl rfl (by simp[aW.c]) λY5 o b5=>?_;have ah:box Y5 (1,n)=V ⟨36,4,U,U,[[.m d<|L s.ak,iv s.tx,sl cb s.done,sl aoC.c s.ay]]⟩:=b5;have a1:L Y5=4096:=o.len.trans W;simp only[qz 16,u0,u1,ah,aj,iF,nM,iy,↓uL];refine aw2 (bA:=s.done.map cb) rfl (by grind) (by simp;omega) (by simp[gY]) (by omega) λB Z g6 t N6=>?_;have P:=t.kq ah;simp only[qz 18,u0,u1,P,aj,↓uL];refine cy (cs:=[B]) P (ms g6) rfl (by simp) λY7 u b7=>?_;have al:box Y7 (1,n)=V ⟨36,4,U,U,[[.m d<|L s.ak,iv s.tx,B,sl aoC.c s.ay]]⟩:=b7;have bv:L Y7=4096:=u.len.trans<|t.len.trans a1;simp only[qz 20,u0,u1,al,aj,iF,nM,iy,↓uL];refine aw1 (bA:=s.ay.map aoC.c) rfl (qW (f:=aoC.c) λ_=>rfl) (by simp;omega) (by simp[gY,aoC.c]) (by omega) λH Y8 g8 F N8=>?_;have R:=F.kq al;simp only[qz 22,u0,u1,R,aj,↓uL];refine cy (cs:=[H]) R (ms g8) rfl (by simp) λY9 F9 b9=>?_;have aO:box Y9 (1,n)=V ⟨36,4,U,U,[[.m d<|L s.ak,iv s.tx,B,H]]⟩:=b9;have ad:Fx A Y9 [(1,n)]:=(o.trans<|t.trans<|u.trans<|F.trans F9).mono (by simp);have bx:(2,K)≠(1,n):=(by simp);have g9:=ad.kq g2;simp only[qz 24,qy 26,u0,u1,aO,aj,uS,↓uL];refine cy (cs:=[.m d<|L s.ak,iv s.tx,B,H]) g9 rfl rfl (by decide) λag M aM=>?_;have ar:box ag (2,K)=V ⟨36,4,U,U,[[.m d<|L s.ak,iv s.tx,B,H]]⟩:=aM;simp only[u0,u1,ar,aj,uS,aNN,aoz,↓uL];have af:Fx Y A []:=(D.trans<|N.trans E).mono (by simp);have O:Fx A ag [(1,n),(2,K)]:=(ad.trans M).mono (by simp);have hv:∀{q:Id} {e:TypeId} {z:Nat} {v:List (List AV)} {τ:ae},box τ q=V ⟨e,z,U,I,v⟩->∀{w:Id} {x:bY},box τ w=V x->x.var=U->q≠w:=(by grind);have k1:∀i,i<L s.ak->∀q∈aA (f i),q∉[(1,n),(2,K)]:=λi y q g=>(by obtain⟨v,b⟩:=(T i y).x.ids q g;simp only[eW,ql,bie,not_or];grind);have i2:∀q∈aA B,q∉[(1,n)]/\q∉[(2,K)]:=λq g=>(by obtain⟨v,b⟩:=g6.x.ids q g;have S:=t.kq<|o.kq g2;exact⟨by simpa using hv b P rfl,by simpa using hv b S rfl⟩);have i3:∀q∈aA H,q∉[(1,n)]/\q∉[(2,K)]:=λq g=>(by obtain⟨v,b⟩:=g8.x.ids q g;have S:=F.kq<|u.kq<|t.kq<|o.kq g2;exact⟨by simpa using hv b R rfl,by simpa using hv b S rfl⟩);refine⟨⟨_,B,H,rfl,⟨d,f,rfl,?_,λi y=>(T i y).fx O<|k1 i y,aP,aR⟩,?_,?_,?_,λk hk=>by have:=(N8 k hk).2;omega⟩,?_⟩;refine O.keep _ _ ?_ aB;simp only[eW,ql,bie,not_or];grind;exact((g6.fx u λq g=>(i2 q g).1).fx F<|by simp).fx (F9.trans M) (by grind);exact g8.fx (F9.trans M) (by grind);intro q g;simp only[dF,aA,cE] at g;rcases g with(rfl|g)|g;exact NL.old<|D.trans N;exact rC (gl (af.I6 _)<|o.I6 _) (N6 q g).1;exact rC (gl (af.I6 _)<|gl (o.I6 _)<|gl (t.I6 _)<|u.I6 _) (N8 q g).1;refine((D.trans N).trans<|E.trans O).mono ?_;simp only[dW,eW,ql,bie];rintro q (rfl|rfl);grind;exact .inr λx hx=>N2.no _<|D.kq hx
def Ov(w:J9)(s:aW)(t b bF:Int)(x:lh w s=U/\L w.bC<=2/\(∀l∈s.ak,L l.bk<100000)):Ct 210 [.a w.c, .a s.c,iv t,iv b,iv bF] (·=bv (jm w s t b bF)):=by refine aK3 rfl rfl λM H i j E=>?_;obtain⟨d,m,o⟩:=x;obtain⟨A,B,C,D⟩:=iY d;simp+contextual only[In,qy 6,u0,u1,ut,ar,i,j,rk,ix,cT,aj,d,m,fh,lG,ip,asq,↓uL];rcases h:dh t (L w.ay) with _|_;simp[jm,h,iC];rcases e:named w b bF with _|_;simp[jm,h,e,iC];have g:aF (L s.ay) t:=(by grind [dX]);simp only[fh,kz,↓iB,g,ip,eE,aPy,aYF];refine eF rfl rfl (by decide) (by omega) λY F p=>?_;have q:box Y (5,1)=_:=F.bt i;have r:box Y (6,1)=_:=F.bt j;have n:jm w s t b bF=lc w s t b bF:=(by simp[jm,d,h,e]);rw[n,axG];simp+contextual only[qz 8,In,qy 6,↓iC,↓iB,↓iS,u0,u1,ut,ar,p,q,r,rk,ix,cT,aj,↓uL];obtain⟨y,K,u,N,z⟩:=D0 d e;refine⟨λv=>?_,λv=>⟨λf=>?_,λf=>⟨λ_=>⟨d,e,g,o⟩,?_⟩⟩⟩;rfl;have:=qc f;have k:=u (by omega) (by omega);exact⟨λ_ _=>k,λ_ _=>y k,rfl⟩;simp only[bdT];rcases G:Q ((gd s.ay t.toNat).cQ=2) with _|_<;>simp_all
def BU:FT:=bpg Ov
def ays{w s t kind bF Lw K}:=KQ BU Ov w s t kind bF Lw K
def Rm:dO:=(210,BU)::apl
def ape:eJ Rm:=sz (Rt Ov)<|yR
def aml:=ai @ays<|@aBn
def ak9:=I5 31 [(6,([15],[7,12])),(10,([42],[4,5,6,7,8,12,15,27])),(12,([51],[4,5,6,7,8,12,15,27]))]
def Ii c b a d e f g R:=(.mk _:NR Rm ak9 Tryz.f150 [.u, .u, .u,d,e,f] [c,b,a] g R).p
def aK1{c0:List AV}{e:List AV}{d f g i:AV}{R:cC}(l0:L c0=6)(l1:L e=4)(y:eY d=V [d])(h:∀b:ae,L b=4096->box b (6,1)=V ⟨31,6,U,U,[c0]⟩->box b (7,1)=V ⟨36,4,U,U,[e]⟩->box b (8,1)=V ⟨3,1,U,U,[[d]]⟩->(∀k,k≠6->k≠7->k≠8->aZ b k=mO)->Ii (.p (6,1) 0 0) (.p (7,1) 0 0) (.p (8,1) 0 0) f g i b R):Fn aS GG 150 [.a c0, .a e,d,f,g,i] R:=by refine uq ready ape Tryz.func150 (an:=ak9) (by kernel_rfl) (aND (show ZF aS GG Rm ak9 Tryz.f150 [.a c0, .a e,d,f,g,i] R=(eV (bxA 31 6 (ly Tryz.f150) 6<|.a c0) λo l=>eV (bxA 36 4 l 7<|.a e) λn m=>eV (bxA 3 1 m 8 d) λc b=>Ii o n c f g i b R) by kernel_rfl) ?_);refine mY (N:=4096) rfl l0 (by decide) (by decide) uB (by rw[i8]) λl z q C g0=>?_;refine mY (N:=4096) rfl l1 (by decide) (by decide) z (by rw[g0 _ (by decide),i8]) λm A r t g1=>?_;refine mY (N:=4096) y rfl (by decide) (by decide) A (by rw[g1 _ (by decide),g0 _ (by decide),i8]) λb B s j u=>?_;exact h b B (by rw[j _ _ (by decide),t _ _<|by decide];exact q) (by rw[j _ _<|by decide];exact r) s (λk v w x=>by rw[u k x,g1 k w,g0 k v];exact i8 _ k)
def aCn{B:aG}{A:(aG)->Prop}(Q:aG)(b:∀a,(∀vs Y',Q vs Y'->a vs Y')->A a)(c:∀vs Y',Q vs Y'->B vs Y'):A B:=b B c
structure Sz(Y:ae)(s:aW)(a1 a2 a3:AV):Prop where
 bx:box Y (7,1)=V ⟨36,4,U,U,[[a1,iv s.tx,a2,a3]]⟩
 g1:sC Y a1 s.ak
 g2:bc Y 4 1 a2 (s.done.map cb)
 g3:bc Y 138 3 a3 (s.ay.map aoC.c)
theorem bc.ids{Y:ae}{e:TypeId}{z:Nat}{a:AV}{bA:List (List AV)}(c:bc Y e z a bA):∀k∈aA a,box Y k=V ⟨e,z,U,I,bA⟩:=by rcases c with⟨_,rfl⟩|⟨b,rfl,d⟩;simp[aA];grind [aA,cE]
def vC.g{Y:ae}{a:AV}{ls:List cg}(h:vC Y a ls):sC Y a ls:=by obtain⟨b,f,c,d,e,j,_⟩:=h;exact⟨b,f,c,d,λi k=>(e i k).x,j⟩
theorem vC.fx{Y Y':ae}{ks:List Id}{a:AV}{ls:List cg}(h:vC Y a ls)(c:Fx Y Y' ks)(p:∀k∈ks,(∃x,box Y k=V x/\((x.var=U/\x.elem≠184)\/(x.var=I/\x.elem≠3)))\/∀x,box Y k≠V x):vC Y' a ls:=by obtain⟨b,f,rfl,m,d,g,j⟩:=h;refine⟨b,f,rfl,c.keep _ _ (λn=>?_) m,λi e=>(d i e).fx c λq o n=>?_,g,j⟩;grind;have l:=(d i e).ids q o;grind
theorem sC.fx{Y Y':ae}{ks:List Id}{a:AV}{ls:List cg}(e:sC Y a ls)(c:Fx Y Y' ks)(m:∀k∈ks,(∃x,box Y k=V x/\((x.var=U/\x.elem≠184)\/(x.var=I/\x.elem≠3)))\/∀x,box Y k≠V x):sC Y' a ls:=by obtain⟨b,f,rfl,h,g,d⟩:=e;refine⟨b,f,rfl,c.keep _ _ (λl=>?_) h,λi j=>(g i j).fx c λq n l=>?_,d⟩;grind;grind [qg.ids]
theorem sC.fr{Y:ae}{a:AV}{ls:List cg}(j:sC Y a ls):dQ Y a= .l (ls.map cg.c) I U:=by obtain⟨b,f,rfl,o,e,n⟩:=j;have m:∀i,i<L ls->([iv (gd ls i).awG,f i].map<|rS Y)=cg.c (gd ls i):=λi d=>(by simp only[ji,mU,(e i d).fr,cg.c];rfl);have p:(io (L ls) λi=>[iv (gd ls i).awG,f i]).map (·.map (rS Y))=ls.map cg.c:=(by rw[aH1 (l:=ls) (g:=cg.c)];grind [io,vA,ja]);have k:((io (L ls) λi=>[iv (gd ls i).awG,f i]).all λr=>r.all λc=>eN<|rS Y c)=U:=(by rw[List.all_eq_true];intro r h;simp only[io,dN,fq] at h;obtain⟨i,d,rfl⟩:=h;simp only[List.all_cons,List.all_nil,(e i d).fr,ru];rfl);have q:(io (L ls) λi=>[iv (gd ls i).awG,f i]).take (L ls)=io (L ls) λi=>[iv (gd ls i).awG,f i]:=(by grind [oB,aH0]);grind [dQ]
def bc.frD{Y:ae}{e:TypeId}{z:Nat}{a:AV}{bA:List (List AV)}(c:bc Y e z a bA):∃t o,dQ Y a= .l bA t o:=by rcases c with⟨rfl,rfl⟩|⟨b,rfl,d⟩;exact⟨_,_,rfl⟩;simp_all [dQ]
section
variable{Y:ae}{s:aW}{a1 a2 a3:AV}
theorem Sz.fx{Y':ae}(S:Sz Y s a1 a2 a3)(a:Fx Y Y' []):Sz Y' s a1 a2 a3:=⟨a.kq S.bx,S.g1.fx a (by simp),S.g2.fx a (by simp),S.g3.fx a<|by simp⟩
theorem Sz.th{i:Int}{j:Nat}{x:Value}{K:AV->be}(S:Sz Y s a1 a2 a3)(n:aF (L s.ay) i)(o:j<3)(d:aoC)(r:(gd s.ay i.toNat).c.set j (.s x)=d.c)(m:∀b Y',Fx Y Y' (aA a3)->Sz Y' (ni s i d) a1 a2 a3->aA a3=[b]->K (.p b i.toNat 0) (.p b i.toNat j) Y'):rV (cz 3 Y a3<|iv i) λp=>rV (iQ j Y p) λq=>sV (aK 1 Y q<|.s x) (K p q):=by refine DB S.g3 n o d r λb Y' h a l=>m b Y' a ⟨?_,?_,?_,l⟩ h;refine a.keep _ _ (λf=>?_) S.bx;have:=S.g3.ids _ f;rw[S.bx] at this;cases this;exact S.g1.fx a λk e=> .inl ⟨_,S.g3.ids k e, .inr ⟨rfl,by simp⟩⟩;exact S.g2.fx a λk e f=>by have g:=S.g2.ids _ e;rw[S.g3.ids _ f] at g;cases g
theorem Sz.lk{i o:Int}{K:AV->be}(S:Sz Y s a1 a2 a3)(e:aF (L s.ak) i)(r:∀b Y',Fx Y Y' (aA a1)->Sz Y' (I9 s i {cH s i with awG:=o}) a1 a2 a3->aA a1=[b]->K (.p b i.toNat 0) (.p b i.toNat 0) Y'):rV (cz 2 Y a1<|iv i) λp=>rV (iQ 0 Y p) λq=>sV (aK 1 Y q<|iv o) (K p q):=by have h:i.toNat<L s.ak:=(by have:=e.1;have:=e.2;omega);obtain⟨b,f,rfl,d,w,v⟩:=S.g1;have j:cz 2 Y (.m b<|L s.ak) (iv i)=V (.p b i.toNat 0):=(by simp[cz,e.1,d,h]);rw[j];simp only[rV,rR,d,df,aj];refine Bp d (uU h) (x:=iv o) rfl rfl (by simp) λY' c l=>r b Y' c ⟨?_,?_,?_,?_⟩ rfl;refine c.keep _ _ (λg=>?_) S.bx;simp only[cE] at g;have:=S.bx;simp_all;refine⟨b,f,by simp[I9],?_,λk a=>?_,?_⟩;rw[l,Bl];simp only[I9,zq];congr 2;refine yC λk a=>?_;grind [gd,cH,oq];have t:k<L s.ak:=(by grind [I9]);have u:(gd (I9 s i {cH s i with awG:=o}).ak k).bk=(gd s.ak k).bk:=(by grind [I9,cH,gd,oq]);grind [qg.fx,qg.ids];grind [I9];exact S.g2.fx c λk a g=>(by have n:=S.g2.ids _ a;simp_all);exact S.g3.fx c λk a g=>by have n:=S.g3.ids _ a;simp_all
theorem Sz.dn{i:Int}{v:Bool}{K:ae->Prop}(S:Sz Y s a1 a2 a3)(e:aF (L s.done) i)(g:∀Y',Fx Y Y' (aA a2)->Sz Y' {s with done:=s.done.set i.toNat v} a1 a2 a3->K Y'):rV (cz 1 Y a2<|iv i) λp=>sV (aK 1 Y p<|bv v) K:=by have n:i.toNat<L s.done:=(by have:=e.1;have:=e.2;omega);refine ixI S.g2 (by grind) λb d h=>?_;have l:(s.done.map cb)[i.toNat]?=V (cb<|gd s.done i.toNat):=(by grind [eC,bT]);refine wL h l (by simp) λY' f m=>?_;have F:Fx Y Y' (aA a2):=(by rw[d];exact f);refine g Y' F ⟨?_,?_,?_,?_⟩;grind [Fx.keep,bc.ids,Sz.g2,Sz.bx];exact S.g1.fx F λk a=> .inl ⟨_,S.g2.ids k a, .inr ⟨rfl,by simp⟩⟩;refine .inr ⟨b,by rw[d];simp,?_⟩;simp_all;exact S.g3.fx F λk a j=>by have c:=S.g3.ids _ a;rw[S.g2.ids _ j] at c;cases c
theorem Sz.tx{x:Int}{K:ae->Prop}(S:Sz Y s a1 a2 a3)(e:∀Y',Fx Y Y' [(7,1)]->Sz Y' {s with tx:=x} a1 a2 a3->K Y'):sV (aK 1 Y (.p (7,1) 0 1)<|iv x) K:=by refine cy (cs:=[iv x]) S.bx rfl rfl (by simp) λY' F c=>e Y' F ⟨c,?_,?_,?_⟩;exact S.g1.fx F (by grind [Sz.bx]);exact S.g2.fx F λk a b=>(by simp only[cE] at b;have d:=S.g2.ids _ a;grind [Sz.bx]);exact S.g3.fx F λk a b=>by simp only[cE] at b;have d:=S.g3.ids _ a;grind [Sz.bx]
end
theorem sC.ids{Y:ae}{a:AV}{ls:List cg}(c:sC Y a ls):∀k∈aA a,∃bA,box Y k=V ⟨184,2,U,U,bA⟩:=by obtain⟨b,f,rfl,d,_⟩:=c;grind [aA,cE]
theorem Sz.no{Y:ae}{s:aW}{a1 a2 a3:AV}(S:Sz Y s a1 a2 a3){c:Id}{x:bY}(b:box Y c=V x)(e:x.var=U)(d:x.elem≠184):c∉aA a1/\c∉aA a2/\c∉aA a3:=by refine⟨λh=>?_,λh=>?_,λh=>?_⟩;obtain⟨bA,a⟩:=S.g1.ids _ h;grind;have a:=S.g2.ids _ h;grind;have a:=S.g3.ids _ h;grind
def Bk{a b c d:AV}:aN J ([a,b,c,d].drop 3)=V d:=rfl
def aHW{a b c d:AV}:aN J ([a,b,c,d].drop 2)=V c:=rfl
def QW{a b c d:AV}:aN J ([a,b,c,d].drop 0)=V a:=rfl
def Ou(w:J9)(s:aW)(t A bF amt:Int)(hp:jm w s t A bF=U/\L w.bC<=2/\(∀l∈s.ak,L l.bk<12)/\(∀l∈s.ak,jC l.bk)/\L s.ak<1000/\L s.done<1000/\L s.ay<1000):Ct 150 [.a w.c, .a s.c,iv t,iv A,iv bF,iv amt] (λr=>∃f,r= .t [.a<|eD (cU w s t A bF amt).1 f,iv (cU w s t A bF amt).2,bv U]):=by refine aK1 rfl rfl rfl λs6 hl b1 b2 b3 h0=>?_;obtain⟨he,cD,bd,cJ,dx,dy,bH⟩:=hp;have br:=he;simp only[jm,bN] at br;obtain⟨hf,hi,hn,af⟩:=br;obtain⟨f1,f2,f3,f4⟩:=iY hf;obtain⟨mI,lk,cd,th,dn⟩:=D0 hf hn;have ag:aF (L s.ay) t:=(by grind [dX]);simp only[Ii,↓uL];refine mo hl λs8 F8 b8=>?_;have c1:box s8 (6,1)=_:=F8.bt b1;have c2:box s8 (7,1)=V ⟨36,4,U,U,[s.c]⟩:=(by grind [Fr.box]);have c3:box s8 (8,1)=V ⟨3,1,U,U,[[iv t]]⟩:=(by grind [Fr.box]);have bu:L s8=4096:=(by rw[F8.1,hl]);generalize(aZ s6 12).I6+1=aa at*;have cc:lh w s=U/\L w.bC<=2/\∀l∈s.ak,L l.bk<100000:=⟨hf,cD,λl hl=>by have:=bd l hl;omega⟩;simp+contextual only[qz 8,u0,u1,c1,c2,c3,rk,iF,iy,ar,aml,he,aj,fh,eE,aPy,aYF,ip,↓uL];refine⟨cc,?_⟩;refine jH rfl (aCp s bu<|by grind) ?_;rintro r Y1 ⟨⟨a1,a2,a3,rfl,g1,g2,g3,hN,bG⟩,F1⟩;refine⟨F1.len,?_⟩;have d1:=F1.kq c1;have d2:=F1.kq c2;have d3:=F1.kq c3;have d8:=F1.kq b8;simp only[qz 12,↓uL];refine cy (cs:=[a1,iv s.tx,a2,a3]) d2 rfl rfl (by simp[aW.c]) λC F2 e2=>?_;have bp:vC C a1 s.ak:=(by grind [vC.fx]);have S:Sz C s a1 a2 a3:=(by refine⟨e2,g1.g.fx F2 λk X=>?_,g2.fx F2 λk X M=>?_,g3.fx F2 λk X M=>?_⟩;simp_all;simp only[cE] at M;have y:=g2.ids _ X;simp_all;grind);have e1:box C (6,1)=_:=F2.kq d1;have e3:=F2.kq d3;have e8:box C (12,aa)=V ⟨36,4,U,U,[aNC]⟩:=F2.kq d8;have ax:L C=4096:=F2.len.trans<|F1.len.trans bu;simp only[qz 14,di,↓uL];refine aCn (λvs Y'=>vs=[iv (cU w s t A bF amt).2]/\Sz Y' (cU w s t A bF amt).1 a1 a2 a3/\∃bA,box Y' (12,aa)=V ⟨36,4,U,U,[bA]⟩/\L bA=4) (λo hJ=>?_) ?_;have aq:∀(sv:aW×Int) Y',cU w s t A bF amt=sv->Sz Y' sv.1 a1 a2 a3->(∃bA,box Y' (12,aa)=V ⟨36,4,U,U,[bA]⟩/\L bA=4)->o [iv sv.2] Y':=(by grind);have r0:∃bA,box C (12,aa)=V ⟨36,4,U,U,[bA]⟩/\L bA=4:=⟨_,e8,rfl⟩;have rK:∀{Y Y':ae} {s':aW} {ks:List Id},Sz Y s' a1 a2 a3->(∃bA,box Y (12,aa)=V ⟨36,4,U,U,[bA]⟩/\L bA=4)->Fx Y Y' ks->(ks=aA a1\/ks=aA a2\/ks=aA a3\/ks=[(7,1)])->(∃bA,box Y' (12,aa)=V ⟨36,4,U,U,[bA]⟩/\L bA=4):=(by rintro Y Y' s' ks O ⟨bA,y,B⟩ F dv;obtain⟨n1,n2,n3⟩:=O.no y rfl (by simp);refine⟨bA,F.keep _ _ ?_ y,B⟩;grind);simp+contextual only[qz 41,qy 16,qy 18,u0,u1,S.bx,e3,aj,dc,Bk,iF,iy,↓uL];refine⟨λk1=>?_,λk1=>⟨λk2=>?_,λk2=>?_⟩⟩;have dz:=qc k1;exact S.th ag (by decide) {fA s t with cQ:=2} rfl (by grind [cU]);have dD:=qc k2;exact S.th ag (by decide) {fA s t with cQ:=5} rfl (by grind [cU]);simp only[a7i,qz 65,iM,aY,sw,↓uL];simp+contextual only[qz 63,qy 20,aI,au,u0,u1,S.bx,e3,aj,dc,Bk,QW,iF,iy,↓uL];refine⟨λk6=>?_,λk6=>?_⟩;simp only[fH,j4] at k6;exact S.lk (by grind) (by grind [cU]);simp only[a7i,qz 77,iM,aY,sw,↓uL];simp+contextual only[qz 75,qy 22,qy 24,qy 38,qy 40,qy 42,qy 44,qy 58,qy 60,qy 62,qy 64,aI,au,u0,u1,S.bx,e1,e3,aj,dc,Bk,QW,aHW,iF,iy,↓uL];refine⟨λk7=>?_,λk7=>?_⟩;simp only[fH,j4] at k7;exact S.lk (by grind) (by grind [cU]);refine⟨λk8=>?_,λk8=>⟨λk9=>?_,λk9=>⟨λbI=>?_,λbI=>⟨λbM=>?_,λbM=>⟨λbO=>?_,λbO=>⟨λbR=>?_,λbR=>⟨λbS=>?_,λbS=>⟨λbT=>?_,λbT=>⟨λbU=>?_,λbU=>⟨λbV=>?_,λbV=>⟨λbW=>?_,λbW=>⟨λbX=>?_,λbX=>?_⟩⟩⟩⟩⟩⟩⟩⟩⟩⟩⟩⟩;have k:=qc k8;have N:=lk (by omega) (by omega);have H:bF.toNat<L s.ak:=qI N;obtain⟨D,f,rfl,R,hX,hD,hP⟩:=bp;have hc:=hX _ H;have aM:=cJ _<|ii N;have be:=bd _<|ii N;have bD:t∉(gd s.ak bF.toNat).bk:=(by rw[lc] at af;simp[k] at af;exact af.2.2);have ba:cz 2 C (.m D<|L s.ak) (iv bF)=V (.p D bF.toNat 0):=(by simp[cz,N.1,R,H]);have bb:vl J C (.p D bF.toNat 1)=V (f bF.toNat):=(by simp only[vl,iE,R,aQd,uU H,df];rfl);simp only[ba,aY,rR,R,df,aj,bb,iz,bQ,↓uL];refine gD (new:=[ci t]) hc rfl (by decide) (by omega) fF (by simp) (by simp;omega) λa' T ao E cG cI=>?_;have cx:(gd s.ak bF.toNat).bk.map ci++[ci t]=((gd s.ak bF.toNat).bk++[t]).map ci:=(by simp);rw[cx] at ao;obtain⟨z,rfl,a6⟩:∃z,a'= .m z (L (gd s.ak bF.toNat).bk+1)/\box T z=V ⟨3,1,U,I,((gd s.ak bF.toNat).bk++[t]).map ci⟩:=(by rcases ao with⟨y,_⟩|⟨z,y,B⟩;simp at y;exact⟨z,by rw[y];simp,B⟩);have a8:z.1≠7:=(by rcases cI z (by simp[aA]) with h|h;grind;omega);have bq:z∈aA (f bF.toNat)\/bK C z:=cG z (by simp[aA]);simp only[qz 26,↓uL];refine dT (by simp[eL,okT,tok,lb,gz,dC,dK]) ?_;refine jH rfl (aCO aM bD be a6<|E.len.trans ax) ?_;rintro r Y4 ⟨rfl,cB,F4⟩;refine⟨F4.len,?_⟩;have nv:∀{q:Id} {x:bY},box C q=V x->x.elem≠3\/x.var=U->q∉aA (f bF.toNat)/\q≠z:=λ{q x} v Z=>(by have y:q∉aA (f bF.toNat):=λM=>(by rw[hc.ids _ M] at v;grind);grind [bK.no]);have b5:∀{q:Id} {x:bY},box C q=V x->x.elem≠3\/x.var=U->box Y4 q=V x:=λ{q x} v Z=>(by obtain⟨n1,n2⟩:=nv v Z;exact F4.keep _ _ (by simpa using n2)<|E.keep _ _ n1 v);simp only[qz 28,u0,u1,b5 S.bx<|.inl<|by simp,aj,QW,iy,iF,↓uL];have ck:L (fk (gd s.ak bF.toNat).bk t)=L (gd s.ak bF.toNat).bk+1:=(by have:=QK (gd s.ak bF.toNat).bk t;have h0:∀{l:List Int} {t:Int},t∉l->L (fk l t)=L l+1:=(by intro l;induction l with|nil=>intro t _;rfl|cons x l ih=>intro t ht;simp only[eW,not_or] at ht;simp only[fk];split;simp[ih ht.2];grind);exact h0 bD);have bz:=λK=>awP (d:=76) (K:=K) (Nz aM) cB (F4.len.trans<|E.len.trans ax) (by omega);simp only[ck] at bz;refine bz _ λY5 F5 cC=>?_;have b6:∀{q:Id} {x:bY},box C q=V x->x.elem≠3\/x.var=U->box Y5 q=V x:=λ{q x} v Z=>F5.keep _ _ (by simpa using(nv v Z).2) (b5 v Z);have aJ:=b6 R (.inl<|by simp);have ch:cz 2 Y5 (.m D<|L s.ak) (iv bF)=V (.p D bF.toNat 0):=(by simp[cz,N.1,aJ,H]);simp only[qz 30,ch,aY,rR,aJ,df,aj,↓uL];refine Bp aJ (uU H) (x:= .m z<|L (gd s.ak bF.toNat).bk+1) rfl rfl (by simp) λY6 F6 a7=>?_;simp only[qz 32,↓uL];have nL:∀{q:Id} {x:bY},box C q=V x->x.elem≠184->q≠D:=(by grind);have P:∀{q:Id} {x:bY},box C q=V x->x.elem≠3\/x.var=U->x.elem≠184->box Y6 q=V x:=λ{q x} v Z hL=>F6.keep _ _ (by simpa using nL v hL)<|b6 v Z;have aD:z≠D:=(by grind);have S6:Sz Y6 (I9 s bF {cH s bF with bk:=mP (cH s bF).bk [t]}) (.m D<|L s.ak) a2 a3:=(by refine⟨P S.bx (.inr rfl) (by simp),⟨D,λi=>if i=bF.toNat then .m z (L (gd s.ak bF.toNat).bk+1) else f i,by simp[I9],?_,λi hi=>?_,λi j hi hj bB q v=>?_⟩,?_,?_⟩;rw[a7,Bl];simp only[I9,zq];congr 2;refine yC λi hi=>?_;by_cases h:i=bF.toNat;subst h;simp[gd,H,cH];have:gd (s.ak.set bF.toNat {cH s bF with bk:=mP (cH s bF).bk [t]}) i=gd s.ak i:=(by simp only[gd,eI];rw[oq<|λe=>h e.symm]);grind;have G:i<L s.ak:=(by simpa[I9] using hi);by_cases h:i=bF.toNat;subst h;have:(gd (I9 s bF {cH s bF with bk:=mP (cH s bF).bk [t]}).ak bF.toNat).bk=fk (gd s.ak bF.toNat).bk t:=(by rw[show gd (I9 s bF {cH s bF with bk:=mP (cH s bF).bk [t]}).ak bF.toNat={cH s bF with bk:=mP (cH s bF).bk [t]} from by simp[I9,gd,H]];exact Ro aM);simp only[this,↓reduceIte];refine .inr ⟨z,(fk (gd s.ak bF.toNat).bk t).map ci,by grind,F6.keep _ _ (by simpa using aD) cC,gV⟩;have:gd (I9 s bF {cH s bF with bk:=mP (cH s bF).bk [t]}).ak i=gd s.ak i:=(by simp only[I9,gd,eI];rw[oq<|λe=>h e.symm]);simp only[this,dB h];have q0:∀q∈aA (f i),q∉aA (f bF.toNat)/\q≠z/\q≠D:=λq v=>(by have y:=hD i bF.toNat G H h q v;have B:=(hX i G).ids q v;refine⟨y,?_,by grind⟩;rintro rfl;rcases bq with h3|h3;exact y h3;exact h3.no _ B);exact((((hX i G).fx E λq v=>(q0 q v).1).fx F4 λq v=>by simpa using(q0 q v).2.1).fx F5 λq v=>by simpa using(q0 q v).2.1).fx F6 (λq v=>by simpa using(q0 q v).2.2)|>.x;have G:i<L s.ak:=(by simpa[I9] using hi);have aO:j<L s.ak:=(by simpa[I9] using hj);have aw:∀m,m<L s.ak->m≠bF.toNat->z∉aA (f m):=λm M bw v=>(by rcases bq with h3|h3;grind;exact h3.no _<|(hX m M).ids _ v);by_cases y:i=bF.toNat;have B:j≠bF.toNat:=(by omega);simp only[f8 y,aA,cE] at v;subst v;simp only[dB B];exact aw j aO B;simp only[dB y] at v;by_cases B:j=bF.toNat;simp only[f8 B,aA,cE];rintro rfl;exact aw i G y v;simp only[dB B];exact hD i j G aO bB q v;rcases S.g2 with h|⟨q,y,B⟩;exact .inl h;exact .inr ⟨q,y,P B (.inl<|by simp) (by simp)⟩;rcases S.g3 with h|⟨q,y,B⟩;exact .inl h;exact .inr ⟨q,y,P B (.inl<|by simp) (by simp)⟩);obtain⟨bA,r1,r2⟩:=r0;refine dT (by simp[eL,okT,tok,lb,gz,dC,dK,a8.symm]) (aq (_,0) Y6 (by simp[cU,I9,k]) S6 ⟨bA,P r1 (.inr rfl) (by simp),r2⟩);have k:=qc k9;have N:=lk (by omega) (by omega);have H:bF.toNat<L s.ak:=qI N;obtain⟨D,f,rfl,R,hX,hD,hP⟩:=bp;have hc:=hX _ H;have be:=bd _<|ii N;have M:t∈(gd s.ak bF.toNat).bk:=(by rw[lc] at af;simp[k] at af;exact af.2);obtain⟨z,bs,a6⟩:∃z,f bF.toNat= .m z (L (gd s.ak bF.toNat).bk)/\box C z=V ⟨3,1,U,I,(gd s.ak bF.toNat).bk.map ci⟩:=(by rcases hc with⟨y,_⟩|⟨z,y,B⟩;simp at y;grind;grind);have a9:aA (f bF.toNat)=[z]:=(by rw[bs];rfl);have a8:z.1≠7:=(by grind);have ba:cz 2 C (.m D<|L s.ak) (iv bF)=V (.p D bF.toNat 0):=(by simp[cz,N.1,R,H]);have bb:vl J C (.p D bF.toNat 1)=V (f bF.toNat):=(by simp only[vl,iE,R,aQd,uU H,df];rfl);simp only[ba,aY,rR,R,df,aj,bb,bs,↓uL];refine awR M a6 e3 ax (by omega) λT E cA=>?_;have nv:∀{q:Id} {x:bY},box C q=V x->x.elem≠3\/x.var=U->q≠z:=(by grind);have b0:∀{q:Id} {x:bY},box C q=V x->x.elem≠3\/x.var=U->box T q=V x:=λ{q x} v Z=>E.keep _ _ (by simpa using nv v Z) v;have aG:=b0 R (.inl<|by simp);have cg:cz 2 T (.m D<|L s.ak) (iv bF)=V (.p D bF.toNat 0):=(by simp[cz,N.1,aG,H]);simp only[qz 34,cg,aY,rR,aG,df,aj,↓uL];refine Bp aG (uU H) (x:= .m z<|L<|fJ (gd s.ak bF.toNat).bk t) rfl rfl (by simp) λY6 F6 a7=>?_;simp only[qz 36,↓uL];have nL:∀{q:Id} {x:bY},box C q=V x->x.elem≠184->q≠D:=(by grind);have P:∀{q:Id} {x:bY},box C q=V x->x.elem≠3\/x.var=U->x.elem≠184->box Y6 q=V x:=λ{q x} v Z hL=>F6.keep _ _ (by simpa using nL v hL)<|b0 v Z;have aD:z≠D:=(by grind);have S6:Sz Y6 (I9 s bF {cH s bF with bk:=fJ (cH s bF).bk t}) (.m D<|L s.ak) a2 a3:=(by refine⟨P S.bx (.inr rfl) (by simp),⟨D,λi=>if i=bF.toNat then .m z (L<|fJ (gd s.ak bF.toNat).bk t) else f i,by simp[I9],?_,λi hi=>?_,λi j hi hj bB q v=>?_⟩,?_,?_⟩;rw[a7,Bl];simp only[I9,zq];congr 2;refine yC λi hi=>?_;by_cases h:i=bF.toNat;subst h;simp[gd,H,cH];have:gd (s.ak.set bF.toNat {cH s bF with bk:=fJ (cH s bF).bk t}) i=gd s.ak i:=(by simp only[gd,eI];rw[oq<|λe=>h e.symm]);grind;have G:i<L s.ak:=(by simpa[I9] using hi);by_cases h:i=bF.toNat;subst h;have:(gd (I9 s bF {cH s bF with bk:=fJ (cH s bF).bk t}).ak bF.toNat).bk=fJ (gd s.ak bF.toNat).bk t:=(by simp[I9,gd,H,cH]);simp only[this,↓reduceIte];refine .inr ⟨z,_,by simp,F6.keep _ _ (by simpa using aD) cA,?_⟩;simp;have:gd (I9 s bF {cH s bF with bk:=fJ (cH s bF).bk t}).ak i=gd s.ak i:=(by simp only[I9,gd,eI];rw[oq<|λe=>h e.symm]);simp only[this,dB h];have q0:∀q∈aA (f i),q≠z/\q≠D:=λq v=>(by have y:=hD i bF.toNat G H h q v;rw[a9] at y;have B:=(hX i G).ids q v;grind);exact(((hX i G).fx E<|by grind).fx F6<|λq v=>by simpa using(q0 q v).2).x;have G:i<L s.ak:=(by simpa[I9] using hi);have aO:j<L s.ak:=(by simpa[I9] using hj);have aw:∀m,m<L s.ak->m≠bF.toNat->z∉aA (f m):=λm M bw v=>hD m bF.toNat M H bw _ v (by grind);by_cases y:i=bF.toNat;have B:j≠bF.toNat:=(by omega);simp only[f8 y,aA,cE] at v;subst v;simp only[dB B];exact aw j aO B;simp only[dB y] at v;by_cases B:j=bF.toNat;simp only[f8 B,aA,cE];rintro rfl;exact aw i G y v;grind;rcases S.g2 with h|⟨q,y,B⟩;exact .inl h;exact .inr ⟨q,y,P B (.inl<|by simp) (by simp)⟩;rcases S.g3 with h|⟨q,y,B⟩;exact .inl h;exact .inr ⟨q,y,P B (.inl<|by simp) (by simp)⟩);obtain⟨bA,r1,r2⟩:=r0;refine dT (by simp[eL,okT,tok,lb,gz,dC,pP,dK,a8.symm]) (aq (_,0) Y6 (by simp[cU,I9,k]) S6 ⟨bA,P r1 (.inr rfl) (by simp),r2⟩);have k:=qc bI;exact S.tx (by grind [cU]);have k:=qc bM;exact S.tx (by grind [cU]);have k:=qc bO;exact S.th ag (by decide) {fA s t with atomic:=U} rfl (by grind [cU]);have k:=qc bR;exact S.th ag (by decide) {fA s t with atomic:=I} rfl (by grind [cU]);have k:=qc bS;have W:=cd (by omega) (by omega);simp only[rk,ix,u0,u1,↓uL];refine⟨W,?_⟩;refine S.lk (mI W) λb Y' F' O a9=>?_;have n:=S.no e3 rfl (by simp);have a4:=F'.keep _ _ n.1 e3;simp only[qz 46,u0,u1,O.bx,a4,aj,Bk,iF,iy,↓uL];refine O.th (by grind [I9]) (by decide) {fA s t with cQ:=3} rfl λb3 T E S3 aL=>?_;simp only[qz 48,↓uL];refine S3.th (by grind [I9,ni]) (by decide) {fA s t with cQ:=3,cond:=bF} (by simp only[ni,I9];rw[Af ag];rfl) λb4 Y4 F4 S4 cf=>?_;simp only[qz 50,↓uL];refine dT ?_ (aq (_,0) Y4 ?_ S4<|rK S3 (rK O (rK S r0 F'<|by simp) E<|by simp) F4<|by simp);have:=bG b3 (by rw[aL];simp);simp[eL,okT,tok,lb,gz,dC,dK,this.1.symm,this.2.symm];simp[cU,k,ni,I9];have k:=qc bT;have W:=cd (by omega) (by omega);simp only[rk,ix,u0,u1,↓uL];refine⟨W,?_⟩;refine S.lk (mI W) λb Y' F' O a9=>?_;have n:=S.no e3 rfl (by simp);have a4:=F'.keep _ _ n.1 e3;simp only[qz 52,u0,u1,O.bx,a4,aj,Bk,iF,iy,↓uL];refine O.th (by grind [I9]) (by decide) {fA s t with cQ:=2} rfl λb3 T E S3 aL=>?_;simp only[qz 54,↓uL];refine S3.th (by grind [I9,ni]) (by decide) {fA s t with cQ:=2,cond:=0} (by simp only[ni,I9];rw[Af ag];rfl) λb4 Y4 F4 S4 cf=>?_;simp only[qz 56,↓uL];refine dT ?_ (aq (_,0) Y4 ?_ S4<|rK S3 (rK O (rK S r0 F'<|by simp) E<|by simp) F4<|by simp);have:=bG b3 (by rw[aL];simp);simp[eL,okT,tok,lb,gz,dC,dK,this.1.symm,this.2.symm];simp[cU,k,ni,I9];have k:=qc bU;simp only[uS,aY,↓uL];refine jH rfl (aCD s bF amt ax bH S.g3) ?_;rintro r T ⟨rfl,ao,E⟩;have du:∀x:aW,x.ak=s.ak->x.tx=s.tx->x.done=s.done->bc T 138 3 a3 (x.ay.map aoC.c)->Sz T x a1 a2 a3:=λx q1 q2 q3 q4=>(by have n:=S.no S.bx rfl (by simp);refine⟨by grind [Fx.keep,Sz.bx],by rw[q1];exact S.g1.fx E λk X=> .inl ⟨_,S.g3.ids k X, .inr ⟨rfl,by simp⟩⟩,?_,q4⟩;rw[q3];exact S.g2.fx E λk X M=>by have y:=S.g2.ids _ X;rw[S.g3.ids _ M] at y;cases y);refine⟨E.len,?_⟩;by_cases hw:fO s bF=[];have hc:gH s bF amt (L s.ay)= -1:=(by rw[gH];exact f8 hw);grind [cU];have hc:gH s bF amt (L s.ay)=tD s bF amt:=(by rw[gH];exact dB hw);have h0:0<=tD s bF amt:=(by rw[<-hc,gH,dB<|show¬eh s bF (L s.ay)=[] from hw];split;grind [AN];exact(Li hw).1);grind [cU,ni,tD,fA];have k:=qc bV;simp only[uS,aY,↓uL];refine jH rfl (aCE s bF ax bH S.g3) ?_;rintro r T ⟨rfl,ao,E⟩;have n:=S.no S.bx rfl (by simp);have M:∀(l:List Int) (s:aW),(mH s l).ak=s.ak/\(mH s l).tx=s.tx/\(mH s l).done=s.done:=(by intro l;induction l with|nil=>simp|cons u l ih=>grind [ni]);obtain⟨q1,q2,q3⟩:=M (fO s bF) s;refine⟨E.len,?_⟩;refine aq (mH s<|fO s bF,L<|fO s bF) T (by simp[cU,k]) ⟨?_,?_,?_,ao⟩ (rK S r0 E<|by simp);grind [Fx.keep,Sz.bx];rw[q1];exact S.g1.fx E λk X=> .inl ⟨_,S.g3.ids k X, .inr ⟨rfl,by simp⟩⟩;rw[q3];exact S.g2.fx E λk X M=>(by have y:=S.g2.ids _ X;rw[S.g3.ids _ M] at y;cases y);have k:=qc bW;exact S.th (by grind) (by decide) {fA s bF with cQ:=1} rfl (by grind [cU]);have k:=qc bX;exact S.dn (by grind) (by grind [cU]);grind [cP,decide_eq_false_iff_not,cU];rintro vs Y' ⟨rfl,O,bA,r1,r2⟩;have dw:(7:Nat)≠12:=(by decide);simp only[qz 39,aI,u0,u1,O.bx,aj,uS,↓uL];refine cy (cs:=[a1,iv (cU w s t A bF amt).1.tx,a2,a3]) r1 rfl rfl (by omega) λad aV dt=>?_;have cr:box ad (12,aa)=V ⟨36,4,U,U,[[a1,iv (cU w s t A bF amt).1.tx,a2,a3]]⟩:=(by simp_all);have n:=O.no r1 rfl (by simp);have y:=O.g1.fx aV (by simp_all);have B:=O.g2.fx aV (by grind);have h3:=O.g3.fx aV (by grind);simp only[qz 66,u0,u1,cr,aj,uS,au,↓uL];obtain⟨t2,o2,q2⟩:=B.frD;obtain⟨t3,o3,q3⟩:=h3.frD;have hr:jS ad [.a [a1,iv (cU w s t A bF amt).1.tx,a2,a3],iv (cU w s t A bF amt).2,bv U]= .t [.a<|eD (cU w s t A bF amt).1 (I,U,t2,o2,t3,o3),iv (cU w s t A bF amt).2,bv U]:=(by show AV.t [.a [dQ ad a1,dQ ad<|iv (cU w s t A bF amt).1.tx,dQ ad a2,dQ ad a3],_,_]=_;rw[y.fr,q2,q3];rfl);unfold aE;rw[hr];exact⟨rfl,_,rfl⟩
def BT:FT:=BL Ou
def ayr{w s t kind bF amt Lw K}:=al4 BT Ou w s t kind bF amt Lw K
def aYa:dO:=(150,BT)::Rm
def Bv:eJ aYa:=sz (apO Ou)<|ape
def rX:=ai @ayr<|@aml
def alc:=I5 21 [(8,([8],[3,4,5,6])),(15,([],[5,6,12]))]
def JW c b a d R:=(.mk _:NR aYa alc Tryz.f149 [.u, .u, .u] [c,b,a] d R).p
def aMI{c0:List AV}{b:List AV}{c:List AV}{R:cC}(l0:L c0=6)(l1:L b=7)(d:L c=7)(h:H3 31 6 3 c0 40 7 4 b 62 7 5 c λf g i e=>JW f g i e R):Ct 149 [.a c0, .a b, .a c] R:=z3 alc Bv Tryz.func149 l0 l1 d h
def asv:=I5 21 [(13,([62],[1,60,61]))]
def Sw a b R:=(.mk _:NR aYa asv Tryz.f73 [.u] [a] b R).p
def aJW{c0:List AV}{R:cC}(l0:L c0=6)(h:H1 31 6 1 c0 λia b=>Sw ia b R):Ct 73 [.a c0] R:=z1 asv Bv Tryz.func73 l0 h
def NG(w:J9)(C:mQ w=U):Ct 73 [.a w.c] (·=bv U):=by refine aJW rfl λO B e M=>?_;have u:=C;simp only[mQ,bN,eH] at u;obtain⟨d,h⟩:=u;obtain⟨l,b⟩:∃l,lY w=V l:=(by grind);rw[b] at h;simp only[bN,j4] at h;obtain⟨q,s,K⟩:=h;have H:=anD b;have p:(jv w.cells (L w.cells) 0 []).isSome=U/\l=wB w (zV w.cells):=(by unfold lY at b;unfold zV;cases A:jv w.cells (L w.cells) 0 [] with|none=>simp_all|some r=>rw[A] at b;simp only[df,bE] at b;exact⟨rfl,b.symm⟩);obtain⟨n,rfl⟩:=p;simp only[wJ,cP,j5] at d;obtain⟨⟨⟨⟨⟨⟨z1,z2⟩,z3⟩,D⟩,E⟩,F⟩,G⟩:=d;simp+contextual only[Sw,u0,u1,e,rk,aj,z1,z2,z3,D,E,F,G,boY,kz,lG,eE,aPy,aYF,ip,ar,rX,n,↓uL];refine⟨by omega,?_⟩;rintro r ⟨t,o,rfl⟩;refine⟨.inl rfl,?_⟩;simp+contextual only[oJ,pG,u0,u1,e,rk,aj,ar,rX,AL,fh,kz,lG,eE,aPy,aYF,ip,↓uL];refine⟨⟨q,by omega⟩,?_⟩;refine pQ (L w.bC) [6] (λk=>True) trivial λk Y N _ i=>?_;have f:box Y (1,1)=_:=i.bt e;simp+contextual only[qz 79,qy 4,u0,u1,f,rk,ix,aj,bh,↓uL];refine⟨λg=>⟨u7 g,?_⟩,λg=>?_⟩;refine eF rfl rfl (by decide) (by rw[i.1,B];decide) λx v y=>?_;have z:box x (1,1)=_:=v.bt f;have j:=s k<|aL g;simp only[uh,cP,j5] at j;have m:dh (gd w.bC k).eg (L w.ak)=U:=(by rw[dX];exact⟨by omega,by omega⟩);simp+contextual only[qz 6,↓iC,↓iB,↓iS,u0,u1,y,z,rk,ix,aj,bh,ar,rX,m,j.2,iw,beq_self_eq_true,fh,eE,aPy,aYF,ip,↓uL];grind [oL,aL,Fr.trans];simp+contextual only[u0,u1,f,rk,aj,ar,rX,ip,↓uL];grind
def EU:FT:=mT NG
def axU{w Lw K}:=oK EU NG w Lw K (j:=by simp+contextual only[ij,j9])
structure kQ(n:Nat)(s:aW):Prop where
 lo:L s.ak<=4
 dn:L s.done<=2
 th:L s.ay<=4
 rd:∀l∈s.ak,jC l.bk/\∀x∈l.bk,aF n x
def aB2{l:List Int}{n:Nat}(h:jC l)(b:∀x∈l,aF n x):∀i:Nat,i<L l->(i:Int)<=gd l i:=by intro i;induction i with|zero=>intro a;exact(b _<|ig a).1|succ i c=>intro a;have:=h i a;omega
def AC{l:List Int}{n:Nat}(h:jC l)(a:∀x∈l,aF n x):L l<=n:=by rcases oD (L l) with b|b;omega;have c:=aB2 h a (L l-1) (by omega);have d:=(a _<|ig<|show L l-1<L l by omega).2;omega
structure vL(w:am):Prop where
 wo:kB w
 th:L w.aQ.ay<=4
 sy:∀k:Nat,k<L w.ac->kQ (L w.aQ.ay) (cY w k).bW
def Kk{w:am}(h:vL w){k:Nat}(c:k<L w.ac):jm w.aQ (cY w k).bW (gd w.ac k).aq (gd w.ac k).kind (gd w.ac k).bF=U/\L w.aQ.bC<=2/\(∀l∈(cY w k).bW.ak,L l.bk<12)/\(∀l∈(cY w k).bW.ak,jC l.bk)/\L (cY w k).bW.ak<1000/\L (cY w k).bW.done<1000/\L (cY w k).bW.ay<1000:=by have d:=(h.wo.en k c).2;have a:=h.sy k c;have:=h.th;have:=a.lo;have:=a.dn;have:=a.th;refine⟨?_,h.wo.co,λl b=>by have:=AC (a.rd l b).1 (a.rd l b).2;omega,λl b=>(a.rd l b).1,by omega,by omega,by omega⟩;grind [be3,aOL,eH,cP,fK]
def aoF{w:am}(h:vL w){k:Nat}(a:k<L w.ac):(cY w<|k+1).bW=(cU w.aQ (cY w k).bW (gd w.ac k).aq (gd w.ac k).kind (gd w.ac k).bF<|og<|gd w.ac k).1:=by have b:=(h.wo.en k a).2;grind [cY,nD,oc]
def Dw{Y:ae}{e:TypeId}{a:AV}{l:List Int}{i:Int}{K:cC}(f:bc Y e 1 a<|l.map ci)(c:aF (L l) i):(rV (cz 1 Y a<|iv i) λt=>rV (vl J Y t) K)=K (iv<|gd l i.toNat):=by have d:i.toNat<L l:=(by have:=c.1;have:=c.2;omega);rcases f with⟨h,_⟩|⟨b,rfl,g⟩;simp_all;simp[cz,c.1,g,d,rV,vl,iE,aN,bT d]
def DA{Y:ae}{e:TypeId}{a:AV}{l:List Int}{i v:Int}{K:be}(j:bc Y e 1 a<|l.map ci)(c:aF (L l) i)(k:∀p Y',Fx Y Y' (aA a)->bc Y' e 1 a ((l.set i.toNat v).map ci)->K p Y'):rV (cz 1 Y a<|iv i) λp=>sV (aK 1 Y p<|iv v) (K p):=by have h:i.toNat<L l:=(by have:=c.1;have:=c.2;omega);rcases j with⟨q,_⟩|⟨b,rfl,d⟩;simp_all;have f:cz 1 Y (.m b<|L<|l.map ci) (iv i)=V (.p b i.toNat 0):=(by simp[cz,c.1,d,h]);rw[f];simp only[rV];have n:(l.map ci)[i.toNat]?=V [iv<|gd l i.toNat]:=(by grind [eC,bT]);refine wL d n (by simp) λY' g o=>k _ Y' g ?_;refine .inr ⟨b,by simp,?_⟩;simp_all
def PR(w:J9)(s:sA)(e:aP)(hp:be3 w s e=U/\L w.bC<=2/\L w.ay<=4/\kQ (L w.ay) s.bW/\L s.cells<1000/\L s.bU<1000/\L s.count<1000/\vo e):Ct 149 [.a w.c, .a s.c, .a e.c] (λr=>∃cs,r= .t [.a cs,bv U]/\Lk cs (oc w s e).c):=by refine aMI rfl rfl rfl λs6 n b1 b2 b3 h0=>?_;obtain⟨a1,p1,p2,p3,p4,p5,p6,p7⟩:=hp;have D:=a1;simp only[be3,eH,cP] at D;obtain⟨q1,q2,q3,q4,q5⟩:=D;have ag:=q1;simp only[aOL,cP,fK,j5] at ag;obtain⟨⟨⟨⟨hf,hi⟩,aZ⟩,a0⟩,aW⟩:=ag;obtain⟨aX,hn⟩:lh w s.bW=U/\named w e.kind e.bF=U:=(by grind [jm]);have ac:=dX.1 hi;obtain⟨m1,m2,m3⟩:L s.cells=L w.cells/\L s.bU=L w.bU/\L s.count=L w.ay:=(by grind [fN]);have ab:aF (L s.count) e.aq:=(by simp_all);have z1:¬e.aq<0:=(by have:=ac.1;omega);have z2:¬((L w.ay:Int)<=e.aq):=(by have:=ac.2;omega);simp only[bip,cP,fK,j4] at q5;obtain⟨⟨n1,n2⟩,n3⟩:=q5;have a2:∀l∈s.bW.ak,L l.bk<12:=λl n=>(by have:=AC (p3.rd l n).1 (p3.rd l n).2;omega);have hP:yM w e=I/\yN e=I/\lZ e.dI (gd s.count e.aq.toNat)/\lZ e.ep (gd s.count e.aq.toNat)/\aF (L s.count) e.aq/\(e.kind=3\/e.kind=4->aF (L w.cells) e.bF)/\vo e:=(by grind [qP]);have hV:aO8 s e=U/\L s.bW.ay<1000000/\(e.kind=3->aF (L s.cells) e.bF)/\(e.kind=23->aF (L s.bU) e.bF):=(by grind [kQ.th,qP,oU]);have hE:lh w s.bW=U/\L w.bC<=2/\(∀l∈s.bW.ak,L l.bk<100000):=⟨aX,p1,λl n=>by have:=a2 l n;omega⟩;have hA:jm w s.bW e.aq e.kind e.bF=U/\L w.bC<=2/\(∀l∈s.bW.ak,L l.bk<12)/\(∀l∈s.bW.ak,jC l.bk)/\L s.bW.ak<1000/\L s.bW.done<1000/\L s.bW.ay<1000:=(by grind [kQ.rd,kQ.lo,kQ.dn,kQ.th]);simp only[JW,↓uL];refine ic n λv7 A G N7 b7=>?_;have c1:box A (3,1)=_:=G.kq b1;have c2:box A (4,1)=_:=G.kq b2;have O:box A (5,1)=_:=G.kq b3;have ad:L A=4096:=G.len.trans n;simp+contextual only[qz 8,qy 10,qy 12,u0,u1,c1,c2,O,rk,aj,ar,rX,hf,p1,hE,aW,hP,hV,q2,z1,z2,aZ,a0,asq,boY,fh,kN,kz,lG,eE,aPy,aYF,ip,↓uL];refine⟨λ_ _=>trivial,(by simp),(by simp),?_⟩;refine bsp (λb=>b [iv<|og e]) ?_ λb R=>(by simp+contextual only[qz 53,u0,u1,O,rk,aj,↓uL];refine⟨λh=>?_,λh=>?_⟩;simp only[j4] at h;rw[og,f8 h] at R;exact R;simp only[j5] at h;rw[og,dB h] at R;exact R);simp only[qz 51,qy 14,aI,au,u0,u1,c1,c2,O,rk,aj,ar,rX,↓uL];refine⟨hA,?_⟩;rintro r ⟨f,rfl⟩;refine⟨.inl rfl,?_⟩;simp only[oJ,pG,KM,aY,↓uL];generalize a3:(cU w s.bW e.aq e.kind e.bF<|og e).1=sy';refine ic ad λv9 Y1 F1 N1 d9=>?_;refine cy (y:=4) (cs:=eD sy' f) d9 rfl rfl (by decide) λK u aO=>?_;have aw:box K (9,v9)=V ⟨36,4,U,U,[eD sy' f]⟩:=aO;have X:Fx A K []:=(F1.trans u).mono (by grind [bK.no]);have l2:L K=4096:=X.len.trans ad;have e2:=X.kq c2;have bl:aN (V 4) (eD sy' f)=V (.a<|eD sy' f):=rfl;simp+contextual only[qz 16,qy 18,u0,u1,aw,e2,bl,rk,aj,fh,eE,aPy,aYF,ip,↓uL];refine alG (bA:=s.cells.map ci) rfl fF (by simp;omega) (by simp[gY]) (by omega) λd C g4 v P4=>?_;have f2:=v.kq e2;have l3:L C=4096:=v.len.trans l2;simp only[qz 20,u0,u1,f2,rk,aj,↓uL];refine alG (bA:=s.bU.map ci) rfl fF (by simp;omega) (by simp[gY]) (by omega) λg Y4 g5 E P5=>?_;have h2:=E.kq f2;have l4:L Y4=4096:=E.len.trans l3;simp only[qz 22,u0,u1,h2,rk,aj,↓uL];refine Kr (bA:=s.count.map ci) rfl fF (by simp;omega) (by simp[gY]) (by omega) λi Y5 g6 F P6=>?_;have l5:L Y5=4096:=F.len.trans l4;have aa:bM bsk anY [(0, .a<|eD sy' f),(1,d),(2,g),(3,i)]=V (.a<|eD sy' f++[d,g,i]):=(by simp[bM,aly,ms g4,ms g5,ms g6,eD,show∀x,eY (.a x)=V x fromλ_=>rfl]);have Z:∀{q:Id} {x:bY},box A q=V x->box Y5 q=V x:=λhq=>F.kq (E.kq<|by grind [Fx.keep]);simp only[qz 24,qy 26,aa,aY,↓uL];refine ic l5 λbm Y6 F6 N6 aM=>?_;refine cy (y:=7) (cs:=eD sy' f++[d,g,i]) aM rfl rfl (by decide) λM aJ av=>?_;have o:box M (12,bm)=V ⟨40,7,U,U,[eD sy' f++[d,g,i]]⟩:=av;have j:Fx Y5 M []:=(F6.trans aJ).mono (by grind [bK.no]);have l7:L M=4096:=j.len.trans l5;have G4:=((g4.fx E<|by simp).fx F<|by simp).fx j (by simp);have G5:=(g5.fx F<|by simp).fx j (by simp);have G6:=g6.fx j (by simp);have i3:=j.kq<|Z O;have i7:=j.kq<|Z b7;have be:∀k∈aA d,k.1=98:=λk z=>(P4 k z).2;have bf:∀k∈aA g,k.1=101:=λk z=>(P5 k z).2;have bg:∀k∈aA i,k.1=104:=λk z=>(P6 k z).2;clear aa;simp only[qz 28,↓uL];refine dT ?_ ?_;rcases g4 with⟨_,S⟩|⟨⟨k4,u4⟩,S,_⟩<;>rcases g5 with⟨_,T⟩|⟨⟨k5,u5⟩,T,_⟩<;>rcases g6 with⟨_,W⟩|⟨⟨k6,u6⟩,W,_⟩<;>(try(have h4:=be (k4,u4) (by grind [aA]);simp only at h4;subst h4))<;>(try(have h5:=bf (k5,u5) (by grind [aA]);simp only at h5;subst h5))<;>(try(have h6:=bg (k6,u6) (by grind [aA]);simp only at h6;subst h6))<;>rw[S,T,W]<;>rfl;have S:∀{x:List Int},aN J (aOz 4<|eD sy' f++[d,g,i])=V d:=rfl;have T:aN J (aOz 5<|eD sy' f++[d,g,i])=V g:=rfl;have W:aN J (aOz 6<|eD sy' f++[d,g,i])=V i:=rfl;have r7:aN (V 7) (eD sy' f++[d,g,i])=V (.a<|eD sy' f++[d,g,i]):=rfl;refine bpD (λb=>∀Y N P,Fx M Y (aA d++aA g)->bc Y 2 1 d (N.map ci)->bc Y 2 1 g (P.map ci)->N=(if e.kind=4 then s.cells.set e.bF.toNat e.value else s.cells)->P=(if e.kind=22 then s.bU.set e.bF.toNat e.value else s.bU)->b [] Y) ?_ λb m=>?_;intro Y N P H H4 H5 e4 e5;have no:∀{q:Id},q.1≠98->q.1≠101->q∉aA d++aA g:=(by grind);have m3:=H.keep _ _ (by grind) i3;have m7:=H.keep _ _ (by grind) i7;have ae:=H.keep _ _ (by grind) o;have H6:=G6.fx H λk z=>no (by grind) (by grind);simp only[qz 93,aI,u0,u1,ae,m3,rk,W,aj,Dw H6 ab,cS,aY,↓uL];refine DA H6 ab λp K u K6=>?_;have af:∀{q:Id},q.1≠104->q∉aA i:=(by grind);have K4:=H4.fx u (by grind);have K5:=H5.fx u (by grind);have ba:=u.keep _ _ (af<|by simp) ae;have n7:=u.keep _ _ (af<|by simp) m7;simp only[qz 34,qy 36,u0,u1,ba,r7,↓uL];refine cy (y:=7) (cs:=eD sy' f++[d,g,i]) n7 rfl rfl (by decide) λC v o7=>?_;have bb:box C (6,v7)=V ⟨40,7,U,U,[eD sy' f++[d,g,i]]⟩:=o7;simp only[bb,u0,u1,r7,↓uL];have cx:∀{q:Id},q.1≠6->q∉[((6,v7):Id)]:=(by grind);obtain⟨x4,o4,z4⟩:=(K4.fx v<|by grind).frD;obtain⟨x5,o5,z5⟩:=(K5.fx v<|by grind).frD;obtain⟨x6,o6,z6⟩:=(K6.fx v<|by grind).frD;have aD:jS C [.a<|eD sy' f++[d,g,i],bv U]= .t [.a<|eD sy' f++[.l (N.map ci) x4 o4, .l (P.map ci) x5 o5, .l ((s.count.set e.aq.toNat<|dq.wrap<|gd s.count e.aq.toNat+1).map ci) x6 o6],bv U]:=(by show AV.t [.a<|(eD sy' f++[d,g,i]).map<|dQ C,bv U]=_;rw[dg];simp only[ji,mU,z4,z5,z6];rfl);unfold aE;rw[aD];refine⟨rfl,_,rfl,?_,rfl⟩;simp only[oc,a3,<-e4,<-e5];rfl;simp+contextual only[qz 95,qy 30,qy 32,u0,u1,i3,o,rk,S (x:=[]),T,aj,↓uL];refine⟨λh=>?_,λh=>⟨λh'=>?_,λh'=>?_⟩⟩;have h4:=qc h;refine DA G4 (by grind) λp Y8 B K4=>?_;exact m _ _ _ (B.mono<|by grind) K4 (G5.fx B<|by grind) (by grind) (by rw[dB<|by omega]);have cw:=qc h';refine DA G5 (by grind [oU]) λp Y8 B K5=>?_;exact m _ _ _ (B.mono<|by grind) (G4.fx B<|by grind) K5 (by grind) (by grind);exact m _ _ _ (Fx.refl _ _) G4 G5 (by grind) (by grind)
def Gi:FT:=vn PR
def azD{w s e Lw K}:=f311 Gi PR w s e Lw K (j:=by simp+contextual only[ij,j9])
def apo:dO:=(73,EU)::(149,Gi)::aYa
def Rf:eJ apo:=sz (pg NG)<|sz (By PR)<|Bv
def Ac:=ai @axU<|ai @azD<|@rX
def avl:=I5 32 [(5,([23],[1,3,4,21,22])),(16,([42],[1,3,4,6,7,21,22,23,41])),(22,([47],[1,3,4,6,7,21,22,23,41,42,45,46]))]
def akJ a b R:=(.mk _:NR apo avl Tryz.f79 [.u] [a] b R).p
def aMQ{c0:List AV}{R:cC}(l0:L c0=15)(h:H1 43 15 1 c0 λia b=>akJ ia b R):Ct 79 [.a c0] R:=z1 avl Rf Tryz.func79 l0 h
def Lg{A:(be)->Prop}{Y:ae}{K:be}:gF U A Y K=A K:=rfl
structure lJ(Y:ae)(b:Id)(e1 e:TypeId)(d n:Nat)(Lw:Nat->List (List AV))(f:Nat->AV):Prop where
 bx:box Y b=V ⟨e1,1,U,U,io n λi=>[f i]⟩
 gr:∀i,i<n->bc Y e 1 (f i) (Lw i)
 dj:∀i j,i<n->j<n->i≠j->∀q∈aA (f i),q∉aA (f j)
 pl:∀i,i<n->∀q∈aA (f i),q.1=d
def lJ.ix{Y:ae}{b:Id}{c e:TypeId}{d n:Nat}{Lw:Nat->List (List AV)}{f:Nat->AV}(O:lJ Y b c e d n Lw f){i:Int}(a:aF n i):cz 1 Y (.m b n) (iv i)=V (.p b i.toNat 0):=by have g:i.toNat<n:=(by have:=a.1;have:=a.2;omega);simp[cz,a.1,O.bx,g]
def lJ.ld{Y:ae}{b:Id}{a e:TypeId}{d n:Nat}{Lw:Nat->List (List AV)}{f:Nat->AV}(O:lJ Y b a e d n Lw f){i:Nat}(c:i<n):vl J Y (.p b i 0)=V (f i):=by simp[vl,iE,O.bx,uU c,aN]
theorem lJ.ln{Y:ae}{b:Id}{a e:TypeId}{d n:Nat}{Lw:Nat->List (List AV)}{f:Nat->AV}(O:lJ Y b a e d n Lw f){i:Nat}(c:i<n):fS Y (f i)=V (iv<|L<|Lw i):=lnI<|O.gr i c
theorem lJ.keep{Y Y':ae}{b:Id}{ks:List Id}{a e:TypeId}{d n:Nat}{Lw:Nat->List (List AV)}{f:Nat->AV}(O:lJ Y b a e d n Lw f)(F:Fx Y Y' ks)(g:b∉ks)(h:∀i,i<n->∀q∈aA (f i),q∉ks):lJ Y' b a e d n Lw f:=⟨F.keep _ _ g O.bx,λi c=>(O.gr i c).fx F<|h i c,O.dj,O.pl⟩
theorem lJ.no{Y:ae}{b:Id}{a e:TypeId}{d n:Nat}{Lw:Nat->List (List AV)}{f:Nat->AV}(O:lJ Y b a e d n Lw f){q:Id}{x:bY}(g:box Y q=V x)(j:x.var=U\/x.elem≠e){i:Nat}(c:i<n):q∉aA (f i):=λh=>by
 have:=(O.gr i c).ids q h
 grind
def anO{Y:ae}{b:Id}{A e:TypeId}{d n by':Nat}{zs:List AV}{Lw:Nat->List (List AV)}{f:Nat->AV}{i:Int}{new:List (List AV)}{t o:Bool}{K:AV->be}(O:lJ Y b A e d n Lw f)(B:aF n i)(hz:L zs=1)(W:d<L Y)(Z:∀r∈Lw i.toNat,L r=1)(X:∀r∈new,L r=1)(T:(L (Lw i.toNat)+L new)*(by'+1)<=1099511627776)(S:∀a p Y' F,lJ Y' b A e d n (λj=>if j=i.toNat then Lw j++new else Lw j) F->L Y'=L Y->(∀q x,box Y q=V x->q≠b->x.var=U\/x.elem≠e->box Y' q=V x)->(∀q∈aA a,q.1=d)->p= .p b i.toNat 0->Fx Y Y' (b::aA (f i.toNat))->(∀j,j<n->∀q∈aA (F j),q∈aA (f j)\/bK Y q)->K a p Y'):eV (Gy e zs by' Y d (f i.toNat)<|.l new t o) λa u=>rV (cz 1 u (.m b n)<|iv i) λp=>sV (aK 1 u p a) (K a p):=by have v:i.toNat<n:=(by have:=B.1;have:=B.2;omega);refine gD (O.gr _ v) hz (by decide) W Z X T λa u P s y ad=>?_;have w:b∉aA (f i.toNat):=O.no O.bx (.inl rfl) v;have D:=s.keep _ _ w O.bx;have G:cz 1 u (.m b n) (iv i)=V (.p b i.toNat 0):=(by simp[cz,B.1,D,v]);rw[G];have ab:b∉aA a:=λh=>(by rcases y _ h with h|h;exact w h;exact h.no _ O.bx);have M:∀q∈aA a,q.1=d:=λq g=>(by grind [lJ.pl]);refine Bp D (uU v) (ms P) rfl (by simp) λC z R=>?_;have E:box C b=V ⟨A,1,U,U,io n λj=>[if j=i.toNat then a else f j]⟩:=(by rw[R,Bl];grind);have ac:∀j,j<n->j≠i.toNat->∀q∈aA (f j),q∉aA a:=λj c H q g N=>(by rcases y _ N with h|h;grind [lJ.dj];exact h.no _<|(O.gr j c).ids q g);refine S a _ C _ ⟨E,λj c=>?_,λj k c hk H q g=>?_,λj c q g=>?_⟩ (z.len.trans s.len) (by grind [Fx.keep,lJ.no]) M rfl ((s.trans z).mono<|by grind) λj c q g=>?_;by_cases h:j=i.toNat;grind [bc.fx];simp only[dB h];refine((O.gr j c).fx s<|by grind [lJ.dj]).fx z λq g e=>?_;grind [lJ.no,lJ.bx];grind [lJ.dj];grind [lJ.pl];grind
def giB{Y:ae}{e:TypeId}{a:AV}{l:List Bool}{i:Int}{K:cC}(f:bc Y e 1 a<|l.map cb)(c:aF (L l) i):(rV (cz 1 Y a<|iv i) λt=>rV (vl J Y t) K)=K (bv<|gd l i.toNat):=by have d:i.toNat<L l:=(by have:=c.1;have:=c.2;omega);rcases f with⟨h,_⟩|⟨b,rfl,g⟩;simp_all;simp[cz,c.1,g,d,rV,vl,iE,aN,bT d]
def fj(l:List aP)(t:Int)(k:Nat):List Nat:=(aH k).filter λj=>Q<|(gd l j).aq=t
theorem Bb{l:List aP}{t:Int}{k:Nat}:fj l t (k+1)=fj l t k++if(gd l k).aq=t then[k] else[]:=by grind [fj,qn,gd]
theorem wF{l:List aP}{t:Int}{k:Nat}:L (fj l t k)<=k:=by grind [fZ,decide,gd,aH,fj]
def aOu(l:List aP)(k t:Nat):List Bool:=(fj l t k).map λj=>fR<|gd l j
structure xv(w:am):Prop where
 wo:vL w
 ev:∀e∈w.ac,vo e
 sn:∀k,k<L w.ac->L (cY w k).cells<1000/\L (cY w k).bU<1000/\L (cY w k).count<1000
 ct:L w.init.count=L w.aQ.ay/\∀c∈w.init.count,0<=c/\c<=400
 rd:∀k,k<L w.ac->∀x,x∈(gd w.ac k).dI\/x∈(gd w.ac k).ep-> -1000<=x/\x<=1000/\(gd w.init.count (gd w.ac k).aq.toNat<=x->x-gd w.init.count (gd w.ac k).aq.toNat<(L (aOu w.ac k (gd w.ac k).aq.toNat):Int)/\gd (aOu w.ac k (gd w.ac k).aq.toNat) (x-gd w.init.count (gd w.ac k).aq.toNat).toNat=U)
def PZ(w:am)(b:xv w):Ct 79 [.a w.c] (·=bv U):=by
 refine aMQ rfl λs2 hl b1 h0=>?_
 have bI:=b.wo.wo.ev
 simp only[akJ,qy 4,u0,u1,b1,rk,aj,↓uL]
 refine ic hl λK s3 F3 N3 b3=>?_
 refine cy (y:=7) (cs:=w.init.c) b3 rfl rfl (by decide) λs4 F4 b4=>?_
 have an:box s4 (3,K)=V ⟨40,7,U,U,[w.init.c]⟩:=b4
 have c1:=F4.kq<|F3.kq b1
 have l4:L s4=4096:=(F4.len.trans F3.len).trans hl
 have bS:=b.wo.th
 simp only[qz 6,u0,u1,c1,rk,aj,dc,cT,↓uL]
 refine AP (by decide) (by decide) (by rw[l4];decide) (by omega) λF s5 bG NR P b5=>?_
 have d1:=P.kq c1
 have d3:=P.kq an
 have l5:L s5=4096:=P.len.trans l4
 simp only[qz 8,u0,u1,d1,rk,aj,cT,↓uL]
 have T:((3,K):Id)≠F:=(by grind)
 have S:((1,1):Id)≠F:=(by grind)
 refine yV (L w.ac) (λk _ Y=>∃ds f,Lk ds (cY w k).c/\box Y (1,1)=V ⟨43,15,U,U,[w.c]⟩/\box Y (3,K)=V ⟨40,7,U,U,[ds]⟩/\lJ Y F 33 4 102 (L w.aQ.ay) (λt=>(aOu w.ac k t).map cb) f/\L Y=4096) ⟨w.init.c,λ_=> .l [] U U,⟨rfl,rfl⟩,d1,d3,⟨by rw[b5,Q0];rfl,λi _=>bc.nil,(by grind [aA]),by grind [aA]⟩,l5⟩ ?_
 rintro k _ Y hk ⟨ds,f,G,e1,e3,O,N⟩
 have aW:=Bi<|oC G
 simp only[qz 31,qy 10,aI,au,u0,u1,ix,rk,bh,e1,aj,↓uL]
 refine⟨λh=>⟨u7 h,?_⟩,λh=>trivial⟩
 have g:=aL h
 refine ic N λv6 Y1 F1 N1 g6=>?_
 refine cy (y:=7) (cs:=aP.c<|gd w.ac k) g6 rfl rfl (by decide) λE F2 av=>?_
 have h6:box E (6,v6)=V ⟨62,7,U,U,[aP.c<|gd w.ac k]⟩:=av
 have A:Fx Y E []:=(F1.trans F2).mono (by grind [bK.no])
 have h1:=A.kq e1
 have B:=A.kq e3
 have O2:=O.keep A (by simp) (by simp)
 have l2:L E=4096:=A.len.trans N
 simp only[qz 12,qy 14,u0,u1,h1,B,h6,aW,rk,aj,↓uL]
 simp only[jM,kU,jt,zN,CU,G.arg,Ac]
 obtain⟨x1,x2,x3⟩:=b.sn k g
 have aG:=(b.wo.wo.en k g).2
 refine⟨⟨aG,b.wo.wo.co,b.wo.th,b.wo.sy k g,x1,x2,x3,b.ev _<|ig g⟩,?_⟩
 rintro r ⟨v,rfl,z⟩
 refine⟨.inl ?_,?_⟩
 ·simp only[nA,List.any_cons,List.any_nil,x9 G]
  rfl
 have aK:oc w.aQ (cY w k) (gd w.ac k)=cY w (k+1):=by grind [cY,nD]
 rw[aK] at z
 have ad:=Bi<|oC z
 simp only[oJ,pG,aY,↓uL]
 refine ic l2 λv7 Y3 af bC g7=>?_
 refine cy (y:=7) (cs:=v) g7 rfl (oC z) (by decide) λR ah bD=>?_
 have i7:box R (7,v7)=V ⟨40,7,U,U,[v]⟩:=by
  grind
 have u:Fx E R []:=(af.trans ah).mono (by grind [bK.no])
 have i1:=u.kq h1
 have i3:=u.kq B
 have H:=u.kq h6
 have s:=O2.keep u (by simp) (by simp)
 have aU:L R=4096:=u.len.trans l2
 have n:=(b.wo.wo.named g).2
 have o:(gd w.ac k).aq.toNat<L w.aQ.ay:=by have:=n.1;have:=n.2;omega
 have M:aF (L w.init.count) (gd w.ac k).aq:=by rw[b.ct.1];exact n
 simp+contextual only[qz 16,u0,u1,H,rk,aj,fh,eE,aPy,aYF,ip,brl,↓uL]
 refine bhZ 2 (λ_=>True) trivial λj Z _=>?_
 simp+contextual only[qz 97,qy 18,aI,au,u0,u1,↓uL]
 refine⟨λaB=>?_,λaB=>?_⟩
 ·have h2:j<2:=by grind
  rw[ax2 h2]
  have hx:∀x∈(if j=0 then(gd w.ac k).dI else(gd w.ac k).ep),x∈(gd w.ac k).dI\/x∈(gd w.ac k).ep:=by
   grind
  have bi:L (if j=0 then(gd w.ac k).dI else(gd w.ac k).ep)<4611686018427387904:=by have:=b.ev _<|ig g;split;exact this.1;exact this.2
  generalize(if j=0 then(gd w.ac k).dI else(gd w.ac k).ep)=l at*
  simp only[u0,u1,cT,↓uL]
  refine bhZ (L l) (λ_=>True) trivial λm hm _=>?_
  simp+contextual only[qz 133,aI,au,u0,u1,ix,rk,i1,H,aj,bh,↓uL]
  refine⟨λB=>⟨u7 B,?_⟩,by grind [gS]⟩
  have aE:=aL B
  have aM:=b.rd k g _<|hx _<|ig aE
  have bH:=b.ct.2 _<|ii M
  generalize aD:gd l m-gd w.init.count (gd w.ac k).aq.toNat=m' at*
  have hw:dq.wrap m'=m':=(by grind [eM])
  have hO:=s.gr _ o
  simp only[u0,u1,ix,rk,dc,alr,aD,hw,↓uL]
  refine⟨M,?_⟩
  by_cases hz:0<=m'
  ·have D:Q (0<=m')=U:=brS hz
   obtain⟨y1,y2⟩:=aM.2.2 (by omega)
   have X:aF (L<|aOu w.ac k (gd w.ac k).aq.toNat) m':=⟨hz,y1⟩
   have aN:Q ((L (aOu w.ac k (gd w.ac k).aq.toNat):Int)<=m')=I:=(by simp_all)
   simp only[u0,u1,D,jA,H,rk,aj,s.ix n,s.ld o,s.ln o,bJ,aN,giB hO X,y2,fh,kz,Bool.and_false,eE,aPy,aYF,ip,↓uL]
   grind [gS]
  ·have D:Q (0<=m')=I:=bqL hz
   simp only[u0,u1,D,jN,show∀x,mL (bv I) x (bv I)=V (bv I) fromλ_=>rfl,eE,aPy,aYF,ip,↓uL]
   grind [gS]
 ·simp+contextual only[u0,u1,H,rk,aj,dc,s.ix n,s.ld o,iz,bQ,↓uL]
  have bO:L (aOu w.ac k (gd w.ac k).aq.toNat)<=k:=by grind [aOu,bJ,wF]
  refine anO (by':=1) (zs:=BE) (d:=102) (e:=4) (new:=[[bv<|fR<|gd w.ac k]]) s n rfl (by rw[aU];decide) (by intro r hr;obtain⟨y,_,rfl⟩:=dN.1 hr;rfl) (by simp) (by grind) λa p Y5 f5 O5 bT C ha bL _ _=>?_
  have j1:=C _ _ i1 S<|.inl rfl
  have j3:=C _ _ i3 T<|.inl rfl
  have W:((7,v7):Id)≠F:=(by grind)
  have j7:=C _ _ i7 W<|.inl rfl
  simp only[qz 22,↓uL]
  refine dT ?_ ?_
  ·have aJ:=s.pl _ o
   rcases s.gr _ o with⟨_,r4⟩|⟨⟨k4,u4⟩,r4,_⟩
   ·rw[r4];rfl
   ·have h4:=aJ (k4,u4) (by grind [aA])
    simp only at h4
    subst h4
    rw[r4];rfl
  simp only[u0,u1,j7,ad,↓uL]
  refine cy (y:=7) (cs:=v) j3 rfl (oC z) (by rw[oC G];decide) λY6 F6 o3=>?_
  have aV:box Y6 (3,K)=V ⟨40,7,U,U,[v]⟩:=by
   grind [oC]
  have o1:=F6.kq j1
  have O6:=O5.keep F6 (by grind) (λi hi q hq bM=>by
   grind [lJ.pl])
  simp only[qz 24,au,cS,aY,↓uL]
  refine yU g ⟨v,f5,z,o1,aV,?_,by grind [Fx.len]⟩
  have bF:(λj=>if j=(gd w.ac k).aq.toNat then(aOu w.ac k j).map cb++[[bv<|fR<|gd w.ac k]] else(aOu w.ac k j).map cb)=λt=>(aOu w.ac (k+1) t).map cb:=by
   funext j
   have h0:=n.1
   simp only[aOu,Bb]
   by_cases Z:j=(gd w.ac k).aq.toNat
   ·rw[f8 Z,f8<|by omega];simp
   ·rw[dB Z,dB<|by omega];simp
  grind
def Gq:FT:=mT PZ
def azL{w Lw K}:=oK Gq PZ w Lw K (j:=by simp+contextual only[ij,j9])
def apq:dO:=(79,Gq)::apo
def Rh:eJ apq:=sz (pg PZ)<|Rf
def Do:=ai @azL<|@Ac
def akG a b R:=(.mk _:NR apq at1 Tryz.f30 [.u] [a] b R).p
def aMN{c0:List AV}{R:cC}(l0:L c0=15)(h:H1 43 15 1 c0 λia b=>akG ia b R):Ct 30 [.a c0] R:=z1 at1 Rh Tryz.func30 l0 h
def amF{l:List Int}:jC l↔l.Pairwise (·<·):=by rw[List.pairwise_iff_getElem];refine⟨λh i j b c a=>?_,λh i b=>?_⟩;have:=AD h a c;grind [bT];grind [bT]
theorem an1:∀{l:List Int} {t x:Int},x∈fk l t->x=t\/x∈l
 |[],t,x,h=>by grind [fk]
 |y::l,t,x,h=>by
  simp only[fk] at h
  split at h
  ·rcases eW.1 h with h|h
   ·simp_all
   ·rcases an1 h with h|h
    ·exact .inl h
    simp_all
  grind
theorem kQ.ni{n:Nat}{s:aW}(h:kQ n s)(i:Int)(t:aoC):kQ n (ni s i t):=⟨h.lo,h.dn,by simp[Ab.ni];exact h.th,h.rd⟩
theorem kQ.lk{n:Nat}{s:aW}(h:kQ n s)(i:Int):jC (cH s i).bk/\∀x∈(cH s i).bk,aF n x:=by unfold cH gd;rw[eI];cases a:s.ak[i.toNat]? with|none=>exact⟨λi b=>aNK b (Nat.not_lt_zero _),λx a=>aNK a ql⟩|some x=>grind [kQ.rd]
theorem kQ.I9{n:Nat}{s:aW}(h:kQ n s)(i:Int)(l:cg)(b:jC l.bk/\∀x∈l.bk,aF n x):kQ n (I9 s i l):=by refine⟨by simp[Ab.I9];exact h.lo,h.dn,h.th,λx a=>?_⟩;simp only[Ab.I9] at a;grind [kQ.rd]
theorem kQ.marks{n:Nat}:∀{l:List Int} {s:aW},kQ n s->kQ n (l.foldl (λs u=>Ab.ni s u {fA s u with cQ:=4}) s)|[],_,h=>h|u::l,s,h=>kQ.marks (l:=l)<|h.ni u _
theorem kQ.apply{n:Nat}{s:aW}(h:kQ n s)(w:J9)(t a bF amt:Int)(y:aF n t):kQ n (cU w s t a bF amt).1:=by unfold cU;by_cases p:a=1;grind [kQ.ni];rw[dB p];by_cases q:a=2;grind [kQ.ni];rw[dB q];by_cases r:a=6\/a=10;grind [kQ.I9,kQ.lk];rw[dB r];by_cases u:a=7\/a=11;grind [kQ.I9,kQ.lk];rw[dB u];by_cases v:a=8;grind [kQ.I9,kQ.lk,Ro,Nz,an1];rw[dB v];by_cases m:a=9;rw[f8 m];refine h.I9 _ _ ⟨amF.2<|(amF.1 (h.lk bF).1).filter _,λx o=>?_⟩;exact(h.lk bF).2 x (jW.1 o).1;rw[dB m];by_cases b:a=12;rw[f8 b];exact⟨h.lo,h.dn,h.th,h.rd⟩;rw[dB b];by_cases c:a=13;rw[f8 c];exact⟨h.lo,h.dn,h.th,h.rd⟩;rw[dB c];by_cases d:a=14;grind [kQ.ni];rw[dB d];by_cases e:a=15;grind [kQ.ni];rw[dB e];by_cases f:a=16;grind [kQ.ni,kQ.I9,kQ.lk];rw[dB f];by_cases g:a=17;grind [kQ.ni,kQ.I9,kQ.lk];rw[dB g];by_cases i:a=18;grind [kQ.ni];rw[dB i];by_cases j:a=19;grind [kQ.marks];rw[dB j];by_cases k:a=20;grind [kQ.ni];rw[dB k];by_cases l:a=22;rw[f8 l];exact⟨h.lo,by simp;exact h.dn,h.th,h.rd⟩;simp_all
theorem Bq{w:am}(h:bcV w=U):∀k,k<=L w.ac->kQ (L w.aQ.ay) (cY w k).bW:=by obtain⟨e,hs⟩:=aQA h;obtain⟨a,u,r,s,v⟩:=tC e;intro k;induction k with|zero=>intro _;have f:=e;simp only[oh,cP,fK,j5] at f;have d:=f.2;simp only[ny,bN,j4] at d;have t:L w.init.count=L w.aQ.ay:=(by grind [fN]);refine⟨a.sy.lo,a.sy.dn,a.sy.th,λl o=>?_⟩;have m:l∈w.init.bW.ak:=o;obtain⟨j,g,rfl⟩:=ou m;have c:=(d.1 j g).2;rw[bT g] at c;refine⟨λi b=>?_,λx p=>?_⟩;have:=(c (i+1) b).2 (by omega);simp_all;obtain⟨i,b,rfl⟩:=ou p;have:=(c i b).1;grind [nO,dX,bT]|succ k q=>intro y;have n:=hs k (by omega);simp only[cY,nD,n,bdZ,oc];refine(q<|by omega).apply _ _ _ _ _ ?_;grind [be3,eH,cP,aOL,fK,dX]
def vd{w:am}(a:hU w)(h:bcV w=U):vL w:=by obtain⟨b,hs⟩:=aQA h;refine⟨Rr a h,?_,by grind [Bq]⟩;grind [oh,cP,fK,mQ,eH,wJ,decide_eq_false_iff_not]
def kJ(t:Int):List aP->Nat->List Nat|[],_=>[]|e::l,i=>(if e.aq=t then[i] else[])++kJ t l (i+1)
theorem QH{t:Int}:∀{a b:List aP} {i:Nat},kJ t (a++b) i=kJ t a i++kJ t b (i+L a)
 |[],b,i=>by simp[kJ]
 |e::a,b,i=>by
  simp only[zn,kJ,bje]
  rw[QH (a:=a)]
  grind
theorem Qz{t:Int}:∀{l:List aP} {i m:Nat},m<L (kJ t l i)->pS t l m i=((gd (kJ t l i) m:Nat):Int)
 |[],i,m,h=>by simp[kJ] at h
 |e::l,i,m,h=>by
  simp only[pS]
  by_cases a:e.aq=t
  ·rw[f8 a]
   cases m with
   |zero=>simp[kJ,a,gd]
   |succ m=>
    rw[dB (by omega),show((m+1:Nat):Int)-1=(m:Int) by omega]
    rw[Qz (l:=l) (i:=i+1) (m:=m)<|by grind [kJ]]
    simp[kJ,a,gd]
  ·rw[dB a]
   rw[Qz (l:=l) (i:=i+1) (m:=m)<|by grind [kJ]]
   simp[kJ,a]
theorem anU{t:Int}{l:List aP}:∀{k:Nat},k<=L l->kJ t (l.take k) 0=fj l t k
 |0,_=>by simp[kJ,fj]
 |k+1,h=>by
  have a:k<L l:=by omega
  rw[iJ a,<-bT a,QH,anU (k:=k) (by omega),Bb]
  grind [gd,kJ]
def aEv{w:am}{t:Int}{k m:Nat}(b:k<=L w.ac)(c:m<L (fj w.ac t k)):oV w t m=(gd (fj w.ac t k) m:Nat):=by have a:kJ t w.ac 0=fj w.ac t k++kJ t (w.ac.drop k) k:=(by(conv=>lhs;rw[<-List.take_append_drop k w.ac]);grind [QH,anU]);grind [oV,Qz,gd,List.getElem?_append_left]
theorem aBC{l:List Int}{i j:Nat}{v:Int}(h:i≠j):gd (l.set i v) j=gd l j:=by grind [gd,oq]
def axw{w:am}(h:bcV w=U){t:Int}(b:aF (L w.init.count) t):∀k,k<=L w.ac->gd (cY w k).count t.toNat=gd w.init.count t.toNat+(L (fj w.ac t k):Int)/\L (cY w k).count=L w.init.count:=by obtain⟨d,hs⟩:=aQA h;obtain⟨r,n,j,m,o⟩:=tC d;intro k;induction k with|zero=>grind [cY,fj]|succ k g=>intro u;obtain⟨v,f⟩:=g (by omega);have a:=hs k (by omega);have l:=(wK d k<|by omega).cn;have q:t.toNat<L (cY w k).count:=(by have:=b.1;have:=b.2;omega);simp only[cY,nD,a,bdZ,oc,zq];refine⟨?_,f⟩;simp only[be3,eH,cP] at a;have c:=a.1;simp only[aOL,cP,fK] at c;have e:=dX.1 c.1.1.1.2;have i:=e.1;have p:=b.1;rw[Bb];by_cases s:(gd w.ac k).aq=t;grind [a6G,GJ,ig,gd,cY,eM];grind [aBC]
def anT{w:am}(p:hU w)(h:bcV w=U):xv w:=by obtain⟨A,hs⟩:=aQA h;obtain⟨v,K,G,H,O⟩:=tC A;have B:=vd p h;have o:L w.init.count=L w.aQ.ay:=(by grind [fN]);have e:∀c∈w.init.count,0<=c/\c<=400:=λc C=>(by have:=v.cn c C;omega);refine⟨B,p.2.2.1,λk q=>?_,⟨o,e⟩,λk q x d=>?_⟩;grind [wK,vH.ce,vH.fu,vH.co];have g:=hs k q;simp only[be3,eH,cP] at g;have n:=g.2.2.2.2;have m:=g.1;simp only[aOL,cP,fK] at m;have z:=dX.1 m.1.1.1.2;simp only[bip,cP,fK,j4] at n;obtain⟨⟨D,E⟩,R⟩:=n;have f:aF (L w.init.count) (gd w.ac k).aq:=(by simp_all);obtain⟨y,P⟩:=axw h f k (by omega);have F:=e _<|ii f;have N:=wF (l:=w.ac) (t:=(gd w.ac k).aq) (k:=k);have u:1<=x/\x<gd (cY w k).count (gd w.ac k).aq.toNat:=(by rcases d with d|d;obtain⟨j,i,rfl⟩:=ou d;have:=D j i;grind [uJ,bT];obtain⟨j,i,rfl⟩:=ou d;have:=E j i;grind [uJ,bT]);rw[y] at u;refine⟨by omega,by omega,λM=>?_⟩;have s:(((gd w.ac k).aq.toNat:Nat):Int)=(gd w.ac k).aq:=kA z.1;have r:(x-gd w.init.count (gd w.ac k).aq.toNat).toNat<L (fj w.ac (gd w.ac k).aq k):=(by omega);have a:qU w (gd w.ac k).aq x=U:=(by grind [bcV,eH,xH,cP,fK]);simp only[qU] at a;rw[bqL (by omega),lG] at a;have b:=aEv (w:=w) (t:=(gd w.ac k).aq) (k:=k) (by omega) r;rw[kA<|by omega] at b;rw[b] at a;simp only[bN,bh] at a;refine⟨?_,?_⟩;grind [aOu,bJ];simp only[aOu,s];rw[bT (by grind),List.getElem_map,<-bT r];exact a.2
def PW(w:am)(v:bcV w=U/\hU w):Ct 30 [.a w.c] (·=bv U):=by refine aMN rfl λS m p N=>?_;obtain⟨e,k⟩:=v;have g:=anT k e;have h:=e;simp only[bcV,bN,eH,j4] at h;obtain⟨f,D,_⟩:=h;obtain⟨d,C,B,i,E⟩:=tC f;have b:=f;simp only[oh,cP,fK,j5] at b;obtain⟨⟨⟨⟨⟨x,y⟩,T⟩,A⟩,W⟩,n⟩:=b;have F:=k;have G:=g.wo.th;obtain⟨g1,H,q,K⟩:L w.init.count=L w.aQ.ay/\L w.init.bW.ay=L w.aQ.ay/\L w.init.bW.ak=L w.aQ.ak/\L w.init.bW.done=L w.aQ.bU:=(by grind [fN,iY]);have M:L w.init.bU=L w.aQ.bU:=(by grind [fN]);have o:=n;simp only[ny,bN,j4] at o;have z:(L w.ac:Int)<=16:=(by omega);have r15:aN (V 15) w.c=V (.a w.c):=rfl;have r:L w.ac<1000000/\L w.init.count<1000000:=(by omega);have O:=Bq e 0 (by omega);have u:uZ w=U/\(∀j,j<L w.init.bW.ay->pX w j=U)/\L w.init.count=L w.init.bW.ay/\L w.init.bW.ay<1000000/\L w.init.bW.ak=L w.aQ.ak/\(∀c∈w.aQ.bC,aF (L w.aQ.ak) c.eg):=(by simp_all);have t:ny w=U/\L w.init.bW.ak=L w.aQ.ak/\L w.aQ.ak<=4/\L w.init.bW.ay<=4/\(∀l∈w.init.bW.ak,L l.bk<=100):=⟨n,q,by have:=d.sy.lo;omega,by omega,λl m=>by have:=d.sy.rd l m;omega⟩;have s:(∀j,j<L w.init.bU->L w.init.bW.done=L w.init.bU/\(gd w.init.bW.done j=I->gd w.init.bU j=0))/\L w.init.bU=L w.init.bW.done/\L w.init.bU<1000000:=(by refine⟨λj R=>⟨by omega,λP=>?_⟩,by omega,by have:=d.fu;omega⟩;grind [Ae,kN,decide_eq_false_iff_not]);simp+contextual only[akG,u0,u1,p,r15,rk,aj,ar,Do,x,y,A,i,z,r,u,t,s,g,asq,bj5,iw,ru,ip,aYF,wl,↓uL];grind
def xc:FT:=mT PW
def azI{w Lw K}:=oK xc PW w Lw K (j:=by simp+contextual only[ij,j9])
def apr:dO:=(30,xc)::apq
def apf:eJ apr:=sz (pg PW)<|Rh
def amm:=ai @azI<|@Do
def aaG a a1 b R:=(.mk _:NR apr auF Tryz.f224 [.u,a1] [a] b R).p
def aKZ{c0:List AV}{a1:AV}{R:cC}(l0:L c0=15)(h:H1 43 15 2 c0 λia b=>aaG ia a1 b R):Ct 224 [.a c0,a1] R:=z1 auF apf Tryz.func224 l0 h
def Oq(w:am)(q:Int)(e:bcV w=U/\hU w/\L w.ac<100000/\(aF (L w.ac) q->((gd w.ac q.toNat).kind=23->aF (L w.init.bW.done) (gd w.ac q.toNat).bF/\aF (L w.init.bU) (gd w.ac q.toNat).bF)/\((gd w.ac q.toNat).kind=3->aF (L w.init.cells) (gd w.ac q.toNat).bF))):Ct 224 [.a w.c,iv q] (λr=>∃t,r= .l ((dx w q).map ci) t U):=by refine aKZ rfl λj i b h=>?_;obtain⟨f,d,p1,g⟩:=e;have r15:aN (V 15) w.c=V (.a w.c):=rfl;simp+contextual only[aaG,u0,u1,b,r15,rk,aj,ar,amm,f,d,asq,ip,fh,eE,aPy,aYF,↓uL];refine⟨⟨p1,g⟩,?_⟩;intro t;exact⟨rfl,t,rfl⟩
def Fp:FT:=pn Oq
def ayp{w q Lw K}:=f211 Fp Oq w q Lw K
def aps:dO:=(224,Fp)::apr
def apg:eJ aps:=sz (aN0 Oq)<|apf
def Dp:=ai @ayp<|@amm
def atc:=I5 62 [(4,([3,20],[1,19])),(10,([3,26],[1,4,19,20,25])),(13,([3],[1,4,19,20,25,26])),(18,([3,43],[1,42])),(25,([3,55],[1,53,54])),(28,([3],[1,53,54,55])),(33,([3,71],[1,69,70])),(36,([3],[1,69,70,71])),(41,([3,83],[1,9,69,70,71,81,82])),(48,([3,98],[1,96,97])),(51,([3],[1,96,97,98])),(56,([3,113],[1,13,96,97,98,111,112]))]
def YE a b R:=(.mk _:NR aps atc Tryz.f157 [.u] [a] b R).p
def aKD{c0:List AV}{R:cC}(l0:L c0=15)(h:H1 43 15 1 c0 λia b=>YE ia b R):Ct 157 [.a c0] R:=z1 atc apg Tryz.func157 l0 h
abbrev uF:List Nat:=[37,50,66,92,122]
abbrev nf2:List Nat:=[37,50,66,92,122,8,10,14]
def NT(w:am)(hp:kB w/\L w.init.bW.ay<=4/\fN w.aQ w.init=U/\bcV w=U/\hU w):Ct 157 [.a w.c] (λr=>∃t,r= .l ((cw w).map aH8.c) t U):=by refine aKD rfl λs2 hl b1 h0=>?_;obtain⟨H,bi,S,az,av⟩:=hp;have ba:=H.ev;simp+contextual only[YE,u0,u1,b1,rk,ix,aj,↓uL];have z:∀k m:Nat,k<=16->m<=100->k*m<=16*100:=λk m a b=>Nat.mul_le_mul a b;refine iu (λa i=>[a,iv i]) 1 uF nf2 107 3 (L w.ac) (λk=>(lr (L w.ac) k).map aH8.c) (λ_=>True) trivial (.inl ⟨rfl,rfl⟩) λk a Y u _ hG hF=>?_;have c1:box Y (1,1)=_:=hF.bt b1;have R:L Y=4096:=(by rw[hF.1,hl]);simp only[qz 25,aI,u0,u1,c1,rk,ix,aj,bh,↓uL];refine⟨λh=>?_,λh=>?_⟩;have j:=aL h;have bc:=AS (L w.ac) k;have bd:=z k (L w.ac) (by omega) (by omega);refine iu (λa i=>[a,iv i]) 1 uF nf2 107 3 (L w.ac) (λm=>(lr (L w.ac) k++nB k m).map aH8.c) (λ_=>True) trivial (by grind [nB]) λm a2 M hm _ q d=>?_;have v:L M=4096:=(by rw[d.1,R]);have be:=Qu k m;simp only[qz 61,aI,di,u0,u1,qz 83,qy 4,qy 6,xy,↓uL];refine⟨λo=>⟨λs=>?_,λs=>?_⟩,λo=>?_⟩;refine rF ⟨1,k,m⟩ q (by decide) (by omega) (by simp;omega) λX A g3 p=>?_;simp only[qz 81,aI,au,fE,cS,aY,↓uL];refine bcW (mk:=λa i=>[a,iv i]) (λ_ _=>rfl) (aL o) (by omega) trivial ?_ (d.trans<|p.mono<|by decide);grind [nB,uP,bje];simp only[qz 81,aI,au,fE,cS,aY,↓uL];refine bcW (mk:=λa i=>[a,iv i]) (λ_ _=>rfl) (aL o) (by omega) trivial ?_ d;grind [nB,uP];have f:m=L w.ac:=(by grind);subst f;refine bcW (mk:=λa i=>[a,iv i]) (λ_ _=>rfl) j (by omega) trivial ?_<|hF.trans d;grind [lr,tq];have e:k=L w.ac:=(by grind);subst e;have a0:=AS (L w.ac)<|L w.ac;have a8:=z (L w.ac) (L w.ac) (by omega) (by omega);clear h u;refine iu (λa i=>[a,iv i]) 1 uF nf2 107 3 (L w.ac) (λk=>(lr (L w.ac) (L w.ac)++mK k).map aH8.c) (λ_=>True) trivial (by grind [mK]) λk a1 Y1 u _ O C=>?_;have c2:box Y1 (1,1)=_:=C.bt c1;have ad:L Y1=4096:=(by rw[C.1,R]);simp only[qz 109,qy 8,aI,u0,u1,c2,rk,ix,aj,CW,↓uL];refine⟨λh=>?_,λh=>?_⟩;refine rF ⟨2,k,0⟩ O (by decide) (by omega) (by simp[AT];omega) λX A g3 p=>?_;simp only[qz 10,au,fE,cS,aY,↓uL];refine bcW (mk:=λa i=>[a,iv i]) (λ_ _=>rfl) (aL h) (by omega) trivial ?_ (C.trans<|p.mono<|by decide);grind [mK,an5,bje];have e:k=L w.ac:=(by grind);subst e;clear h u;generalize ap:lr (L w.ac) (L w.ac)++mK (L w.ac)=T at O;have aK:L T<=1700:=(by rw[<-ap,a6G,AT];omega);refine iu (λa i=>[a,iv i]) 1 uF nf2 107 3 (L w.ac) (λk=>(T++kh w.ac k).map aH8.c) (λ_=>True) trivial (by grind [kh]) λk a2 M u _ q d=>?_;have c3:box M (1,1)=_:=d.bt c2;have v:L M=4096:=(by rw[d.1,ad]);simp only[qz 151,aI,di,qz 173,qy 12,u0,u1,c3,rk,ix,aj,bh,↓uL];refine⟨λh=>⟨u7 h,?_⟩,λh=>?_⟩;refine eF rfl rfl (by decide) (by omega) λA p b3=>?_;have bb:=AU w.ac k;simp+contextual only[qz 14,qy 16,qy 18,u0,u1,b3,rk,aj,ar,Dp,CW,↓uL];refine⟨λs=>?_,λs=>?_⟩;refine rF ⟨3,k,0⟩ (q.fr p<|by decide) (by decide) (by rw[p.1,v];decide) (by simp;omega) λX B g3 F4=>?_;simp only[qz 171,aI,au,fE,cS,aY,↓uL];refine bcW (mk:=λa i=>[a,iv i]) (λ_ _=>rfl) (aL h) (by omega) trivial ?_ (d.trans<|(p.mono<|by decide).trans<|F4.mono<|by decide);grind [kh,uP,bje];simp only[qz 171,aI,au,fE,cS,aY,↓uL];refine bcW (mk:=λa i=>[a,iv i]) (λ_ _=>rfl) (aL h) (by omega) trivial ?_ (d.trans<|p.mono<|by decide);rw[kh,uP,s];simpa[kh] using q.fr p (by decide);have e:k=L w.ac:=(by grind);subst e;clear h u;generalize aX:T++kh w.ac (L w.ac)=G at q;have aM:L G<=1800:=(by grind [AU,a6G]);refine iu (λa i=>[a,iv i]) 1 uF nf2 107 3 (L w.ac) (λk=>(G++ki w k).map aH8.c) (λ_=>True) trivial (by grind [ki]) λk X A u _ P x=>?_;have c4:box A (1,1)=_:=x.bt c3;have E:L A=4096:=(by rw[x.1,v]);simp only[qz 199,aI,di,qz 221,qy 20,u0,u1,c4,rk,ix,aj,bh,↓uL];refine⟨λh=>⟨u7 h,?_⟩,λh=>?_⟩;refine eF rfl rfl (by decide) (by omega) λW n Z=>?_;have j:=aL h;have N:box W (1,1)=_:=n.bt c4;have a9:=vU w (k:Int);have bg:=AW w k;have ax:=z k (1+L w.ac) (by omega) (by omega);have r15:aN (V 15) w.c=V (.a w.c):=rfl;simp+contextual only[qz 22,u0,u1,Z,N,r15,rk,aj,ar,Dp,bh,↓uL];refine⟨λs=>?_,λs=>?_⟩;simp only[qz 219,aI,au,fE,cS,aY,↓uL];refine bcW (mk:=λa i=>[a,iv i]) (λ_ _=>rfl) j (by omega) trivial ?_ (x.trans<|n.mono<|by decide);have:dx w (k:Int)=[]:=(by grind [fR,gd,dx]);rw[ki,tq,this,mU,cL];exact P.fr n (by decide);refine⟨⟨az,av,by omega,λhq=>?_⟩,λt'=>?_⟩;obtain⟨bf,_⟩:=H.named (k:=k) j;simp only[fN,bN,j4] at S;obtain⟨f1,f2,f3,f4⟩:=iY S.1;grind [oU,qP];refine iu (λa i=>[a,iv i]) 1 uF nf2 107 3 (L<|dx w (k:Int)) (λm=>(G++ki w k++((dx w (k:Int)).take m).map λb=>(⟨4,(k:Int),b⟩:aH8)).map aH8.c) (λ_=>True) trivial (by grind [Gr.fr]) λm a4 B hm _ y g=>?_;have F:L B=4096:=(by rw[g.1,n.1,E]);simp only[qz 247,qy 24,aI,u0,u1,tf,rk,qM,bh,xy,↓uL];refine⟨λo=>⟨u7 o,?_⟩,λo=>?_⟩;have f:=aL o;refine rF ⟨4,k,gd (dx w (k:Int)) m⟩ y (by decide) (by omega) (by simp;omega) λa5 aV g5 ae=>?_;simp only[qz 26,au,fE,cS,aY,↓uL];refine bcW (mk:=λa i=>[a,iv i]) (λ_ _=>rfl) f (by omega) trivial ?_ (g.trans<|ae.mono<|by decide);grind [EC];have f:m=L (dx w (k:Int)):=(by grind);subst f;simp only[qz 219,aI,au,fE,cS,aY,↓uL];refine bcW (mk:=λa i=>[a,iv i]) (λ_ _=>rfl) j (by omega) trivial ?_ (x.trans<|(n.mono<|by decide).trans g);grind [ki,tq,bje,gV];have e:k=L w.ac:=(by grind);subst e;clear h u;generalize aZ:G++ki w (L w.ac)=K at P;have aO:L K<=3500:=(by grind [AW,a6G]);have hN:cw w=K++jp w (L w.ac):=(by grind [cw]);refine iu (λa i=>[a,iv i]) 1 uF nf2 107 3 (L w.ac) (λk=>(K++jp w k).map aH8.c) (λ_=>True) trivial (by grind [jp]) λk a4 B u _ y g=>?_;have N:box B (1,1)=_:=g.bt c4;have F:L B=4096:=(by rw[g.1,E]);simp only[qz 289,aI,di,qz 311,qy 28,u0,u1,N,rk,ix,aj,bh,↓uL];refine⟨λh=>⟨u7 h,?_⟩,λh=>?_⟩;refine eF rfl rfl (by decide) (by omega) λW n Z=>?_;have j:=aL h;have c6:box W (1,1)=_:=n.bt N;have bk:=Qv w k;have ax:=z k (L w.init.bW.ay+L w.ac) (by omega) (by omega);simp+contextual only[qz 30,u0,u1,Z,c6,rk,aj,ar,Dp,↓uL];refine⟨λs=>?_,λs=>⟨(by omega),λt'=>?_⟩⟩;simp only[qz 309,aI,au,fE,cS,aY,↓uL];refine bcW (mk:=λa i=>[a,iv i]) (λ_ _=>rfl) j (by omega) trivial ?_ (g.trans<|n.mono<|by decide);have:pR w k=[]:=(by grind [pR]);rw[jp,tq,this,cL];exact y.fr n (by decide);have aW:pN (gd w.ac k)=U:=(by grind);have bj:=Rp w (gd w.ac k).bF (gd w.ac k).aq;refine iu (λa i=>[a,iv i]) 1 uF nf2 107 3 (L<|mR w (gd w.ac k).bF (gd w.ac k).aq) (λm=>(K++jp w k++((mR w (gd w.ac k).bF (gd w.ac k).aq).take m).map λb=>(⟨5,(k:Int),b⟩:aH8)).map aH8.c) (λ_=>True) trivial (by simpa using y.fr n (by decide)) λm a6 Y6 hm _ ao D=>?_;have aR:L Y6=4096:=(by rw[D.1,n.1,F]);simp only[qz 337,qy 32,aI,u0,u1,tf,rk,qM,bh,xy,↓uL];refine⟨λo=>⟨u7 o,?_⟩,λo=>?_⟩;have f:=aL o;refine rF ⟨5,k,gd (mR w (gd w.ac k).bF (gd w.ac k).aq) m⟩ ao (by decide) (by omega) (by simp;omega) λa7 Y7 g7 F7=>?_;simp only[qz 34,au,fE,cS,aY,↓uL];refine bcW (mk:=λa i=>[a,iv i]) (λ_ _=>rfl) f (by omega) trivial ?_ (D.trans<|F7.mono<|by decide);grind [EC];have f:m=L (mR w (gd w.ac k).bF (gd w.ac k).aq):=(by grind);subst f;simp only[qz 309,aI,au,fE,cS,aY,↓uL];refine bcW (mk:=λa i=>[a,iv i]) (λ_ _=>rfl) j (by omega) trivial ?_ (g.trans<|(n.mono<|by decide).trans D);simp_all [jp,tq,bje,pR,f8,gV];have e:k=L w.ac:=(by grind);subst e;rw[hN];grind [qV]
def BQ:FT:=om NT
def ax6{w Lw K}:=f111 BQ NT w Lw K
def apt:dO:=(157,BQ)::aps
def Ey:eJ apt:=sz (rj NT)<|apg
def Lb:=ai @ax6<|@Dp
def atd:=I5 19 [(4,([24],[1,3,22,23])),(7,([],[1,3,22,23,24])),(13,([52],[3,50,51]))]
def H8 a b R:=(.mk _:NS apt atd Tryz.f82 [.u] [a] b R).p
def aKE{c0:List AV}{s0:ae}{R:be}(hs:L s0=4096)(l0:L c0=15)(h:HB1 43 15 1 c0 s0 λc b=>H8 c b R):EB 82 [.a c0] s0 R:=zB1 atd Ey Tryz.func82 hs l0 h
def Ho b a c R:=(.mk _:NS apt at1 Tryz.f95 [b, .u] [a] c R).p
def aKh{c:AV}{b:List AV}{s0:ae}{R:be}(hs:L s0=4096)(l1:L b=3)(h:HB1 107 3 3 b s0 λe d=>Ho c e d R):EB 95 [c, .a b] s0 R:=zB1 at1 Ey Tryz.func95 hs l1 h
abbrev ym:MT:=⟨U,[(0,0),(1,0),(2,0)], .int .i64<|Int.ofNat 0⟩
def bsr(x:aH8):Value:= .agg #[.int .i64 x.kind, .int .i64 x.a, .int .i64 x.b]
def mC:Nat->List aH8->List (Value×Value)|_,[]=>[]|i,x::l=>(bsr x, .int .i64 i)::mC (i+1) l
theorem amE:∀{l:List aH8} {i:Nat} {x:aH8},mC i (l++[x])=mC i l++[(bsr x, .int .i64 ((i+L l:Nat):Int))]
 |[],i,x=>rfl
 |y::l,i,x=>by
  simp only[zn,mC,bZ]
  rw[amE,show i+1+L l=i+(L l+1) by omega]
theorem Qd{x y:aH8}:pO ym (bsr x) (bsr y)=V (Q<|x=y):=by obtain⟨a,b,c⟩:=x;obtain⟨e,g,h⟩:=y;by_cases i:a=e<;>by_cases j:b=g<;>by_cases k:c=h<;>simp[pO,bsr,nW,sS,i,j,k]
def al7{x:aH8}:∀{l:List aH8} {i j:Nat},x∉l->lg ym (bsr x) (mC i l) j=V J
 |[],_,_,_=>rfl
 |y::l,i,j,h=>by
  have c:¬x=y:=(by simp_all)
  simp only[mC,lg,Qd,bqL c]
  exact al7 (by simp_all)
def al9{x:aH8}:∀{l:List aH8} {i j:Nat},x∈l->lg ym (bsr x) (mC i l) j=V (V (j+l.idxOf x, .int .i64 ((i+l.idxOf x:Nat):Int)))
 |[],_,_,h=>by simp at h
 |y::l,i,j,h=>by
  by_cases c:x=y
  ·grind [mC,lg,Qd]
  ·have g:x∈l:=by simp_all
   have e:(y::l).idxOf x=l.idxOf x+1:=by
    grind
   simp only[mC,lg,Qd,bqL c]
   rw[al9 (l:=l) (i:=i+1) (j:=j+1) g,e,show i+1+l.idxOf x=i+(l.idxOf x+1) by omega,show j+1+l.idxOf x=j+(l.idxOf x+1) by omega]
def am6{x:aH8}:ww U (.a<|aH8.c x)=V (bsr x):=rfl
def KH:∀{c:List (Value×Value)},xF (c.map ent)=V c
 |[]=>rfl
 |(k,v)::c=>by simp only[ji,ent,xF,KH];rfl
def anJ{x:aH8}:qR ym (bsr x)=U:=by simp[qR,bsr]
def luV{Y:ae}{b:Id}{t:TypeId}{x:aH8}{l:List aH8}{o n:Nat}(e:box Y b=V ⟨t,0,U,U,[(mC 0 l).map ent]⟩)(h:x∈l):oP ym Y (.g 0 b o n) (.a<|aH8.c x) I=V (iv<|l.idxOf x):=by simp only[oP,am6,e,aQd,ul,asq,aNV,KH,anJ,al9 h,eE,brx,aj]
def muV{Y:ae}{b:Id}{t:TypeId}{x:aH8}{l:List aH8}{o n:Nat}{v:Int}{K:ae->Prop}(e:box Y b=V ⟨t,0,U,U,[(mC 0 l).map ent]⟩)(h:x∉l)(j:v=L l)(i:∀Y',Fx Y Y' [b]->box Y' b=V ⟨t,0,U,U,[(mC 0<|l++[x]).map ent]⟩->K Y'):sV (muA ym Y (.g 0 b o n) (.a<|aH8.c x)<|iv v) K:=by simp only[muA,am6,e,ul,asq,aNV,KH,anJ,al7 h];refine i _ (wc e) ?_;grind [lO,amE]
def mmI{t:TypeId}{Y:ae}{d:Nat}{K:be}(c:d<L Y)(h:∀v Y',Fx Y Y' []->bK Y (d,v)->box Y' (d,v)=V ⟨t,0,U,U,[[]]⟩->K (.g 0 (d,v) 0 0) Y'):eV (oS t Y d) K:=by have e:oS t Y d=V (.g 0 (zt Y d) 0 0,put Y d ⟨t,0,U,U,[[]]⟩):=(by simp[oS,aRI,c]);rw[e];exact h _ _ (kH c) (qQ Y d)<|be7 c
def bxI{e:TypeId}{z d:Nat}{cs:List AV}{Y:ae}{K:be}(j:L cs=z)(i:0<z)(c:d<L Y)(h:∀v Y',Fx Y Y' []->bK Y (d,v)->box Y' (d,v)=V ⟨e,z,U,U,[cs]⟩->K (.p (d,v) 0 0) Y'):eV (bxA e z Y d<|.a cs) K:=by have g:bxA e z Y d (.a cs)=V (.p (zt Y d) 0 0,put Y d ⟨e,z,U,U,[cs]⟩):=(by grind [bxA,eY,aRI]);rw[g];exact h _ _ (kH c) (qQ Y d)<|be7 c
def pT(w:am)(k t:Nat):List (List AV):=(fj w.ac t k).map λ(j:Nat)=>[iv j]
structure bD(Y:ae)(b:Id)(w:am)(ns:List aH8)(out:List<|List Int)(n wk a:AV)(bm bo:Id)(f:Nat->AV):Prop where
 bx:box Y b=V ⟨157,20,U,U,[w.c++[n, .g 0 bm 0 0,wk, .m bo<|L w.aQ.ay,a]]⟩
 nm:∃t o,n= .l (ns.map aH8.c) t o
 mp:∃t,box Y bm=V ⟨t,0,U,U,[(mC 0 ns).map ent]⟩
 gw:bc Y 107 3 wk ((aR ns 5).map aH8.c)
 ow:lJ Y bo 38 3 73 (L w.aQ.ay) (pT w<|L w.ac) f
 gr:bc Y 38 1 a (out.map λc=>[sl ci c])
 le:L Y=4096
 sb:b.1=18
 sm:bm.1=11
 so:bo.1=16
 sw:∀k∈aA wk,k.1=45
 sa:∀k∈aA a,k.1=12
theorem aEl{ns:List aH8}{x:aH8}(h:x∈ns):dP ns x=(ns.idxOf x:Int)+1:=by rw[dP,f8 h]
def aH4{w:am}{k t:Nat}:∀r∈pT w k t,L r=1:=by intro r c;obtain⟨y,_,rfl⟩:=dN.1 c;rfl
def aCA{w:am}{Y:ae}(hl:L Y=4096)(hw:bcV w=U)(hf:hU w)(cK:(cw w).Nodup)(cM:L (cw w)<100000):∃r Y1,(∃b n wk bm bo f,r= .p b 0 0/\bD Y1 b w (cw w) [] n wk (.l [] U U) bm bo f/\Fx Y Y1 []/\bK Y b/\bK Y bm/\bK Y bo)/\cZ aS GG 82 [.a w.c] Y r Y1:=by refine aKE hl rfl λs2 v1 K2 cU cV b1=>?_;have F:Fx Y s2 []:=K2.fx [];have bx:L s2=4096:=K2.len.trans hl;obtain⟨hB,hs⟩:=aQA hw;obtain⟨I0,cH,cF,cG,bI⟩:=tC hB;have hN:kB w/\L w.init.bW.ay<=4/\fN w.aQ w.init=U/\bcV w=U/\hU w:=⟨Rr hf hw,I0.sy.th,bI,hw,hf⟩;have hW:=vd hf hw;have cR:=hW.th;have r15:aN (V 15) w.c=V (.a w.c):=rfl;simp only[H8,u0,u1,b1,r15,ar,Lb,hN,asq,ip,↓uL];intro t;refine⟨.inl rfl,?_⟩;refine mmI (by omega) λo s3 O N3 bi=>?_;have c1:=O.kq b1;have bz:L s3=4096:=O.len.trans bx;simp only[qz 4,u0,u1,c1,rk,aj,dc,cT,↓uL];refine AP (by decide) (by decide) (by omega) (by omega) λbo s4 bu No P bj=>?_;have d1:=P.kq c1;have dm:=P.kq bi;have bA:L s4=4096:=P.len.trans bz;have bt:bM aN7 [(0,15),(15,1),(16,1),(17,1),(18,1),(19,1)] [(0, .a w.c),(1, .l ((cw w).map aH8.c) t U),(2, .g 0 (11,o) 0 0),(4, .m bo<|L w.aQ.ay)]=V (.a<|w.c++[.l ((cw w).map aH8.c) t U, .g 0 (11,o) 0 0, .l [] U U, .m bo<|L w.aQ.ay, .l [] U U]):=rfl;simp only[qz 6,bt,aY,↓uL];refine bxI (by simp[am.c,J9.c,sA.c,aW.c]) (by decide) (by omega) λu C R N5 b5=>?_;have e1:=R.kq d1;have em:=R.kq dm;have eo:=R.kq bj;have ab:L C=4096:=R.len.trans bA;have a9:Fx s2 C []:=((O.trans P).trans R);generalize cN:cw w=ns at*;have bG:∃t' o',(AV.l (ns.map aH8.c) t U)= .l (ns.map aH8.c) t' o':=⟨_,_,rfl⟩;generalize bC:(AV.l (ns.map aH8.c) t U)=n0 at*;refine dT rfl ?_;have aD:((11,o):Id)≠bo:=(by grind);have az:((18,u):Id)≠bo:=(by grind);simp only[aPF b5,u0,u1,b5,rkC,aj,↓uL];rw[<-bC];simp only[u0,u1,gT,↓uL];refine yV (L ns) (λk _ Y'=>∃wk,Fx C Y' [(18,u),(11,o)]/\box Y' (18,u)=V ⟨157,20,U,U,[w.c++[n0, .g 0 (11,o) 0 0,wk, .m bo<|L w.aQ.ay, .l [] U U]]⟩/\box Y' (11,o)=V ⟨155,0,U,U,[(mC 0<|ns.take k).map ent]⟩/\bc Y' 107 3 wk ((aR (ns.take k) 5).map aH8.c)/\∀q∈aA wk,bK C q/\q.1=45) ⟨.l [] U U,Fx.refl _ _,b5,em,bc.nil,by simp[aA]⟩ ?_;rintro k _ Y6 hk ⟨wk,S,f5,fm,gw,pw⟩;have bB:L Y6=4096:=S.len.trans ab;simp only[qz 25,au,aI,u0,u1,di,qz 47,qy 10,lX,rk,bh,↓uL];refine⟨λh=>⟨u7 h,?_⟩,λh=>?_⟩;have A:=aL h;refine ic bB λv7 Y7 W N7 b7=>?_;refine cy (cs:=aH8.c<|gd ns k) b7 rfl rfl (by decide) λY8 F8 b8=>?_;have av:box Y8 (5,v7)=V ⟨107,3,U,U,[aH8.c<|gd ns k]⟩:=b8;have E:Fx Y6 Y8 []:=(W.trans F8).mono (by grind [bK.no]);have g5:=E.kq f5;have gm:=E.kq fm;have aF:aN (V 3) (aH8.c<|gd ns k)=V (.a<|aH8.c<|gd ns k):=rfl;simp only[qz 12,aPF g5,u0,u1,g5,av,aF,rkC,aj,au,↓uL];have bF:gd ns k∉ns.take k:=(by grind [ou,bT,List.getElem_inj]);refine muV gm bF (by simp_all) λD M cJ=>?_;have af:box D (11,o)=V ⟨155,0,U,U,[(mC 0<|ns.take<|k+1).map ent]⟩:=(by grind [iJ,bT]);have h5:=M.kq g5;have h8:=M.kq av;have G:=(gw.fx E<|by simp).fx M (by grind);have aB:=Qg (ns:=ns) (kd:=5) A;have T:Fx C D [(18,u),(11,o)]:=((S.trans E).trans M).mono (by simp);have aC:L D=4096:=T.len.trans ab;simp+contextual only[qz 14,qy 16,u0,u1,h8,rk,aj,↓uL];refine⟨λhb=>?_,λhb=>?_⟩;simp only[aPF h5,u0,u1,h5,h8,aF,rkC,aj,Db,bQ,↓uL];refine gD G rfl (by decide) (by omega) uT uT (by have:=fZ (λx:aH8=>Q<|x.kind=5)<|ns.take k;simp only[bJ,bZ,aO1,aR] at*;grind) λH ap aw v hi hp=>?_;have a5:((18,u):Id)∉aA wk:=(by grind);have a4:((11,o):Id)∉aA wk:=(by grind);have k5:=v.keep _ _ a5 h5;have km:=v.keep _ _ a4 af;simp only[qz 18,aPF k5,u0,u1,k5,aj,↓uL];refine cy (y:=1) (j:=17) (cs:=[H]) k5 (ms aw) rfl (by simp[am.c,J9.c,sA.c,aW.c]) λbe N m5=>?_;have bL:box be (18,u)=V ⟨157,20,U,U,[w.c++[n0, .g 0 (11,o) 0 0,H, .m bo<|L w.aQ.ay, .l [] U U]]⟩:=m5;have mm:=N.kq km;simp only[qz 20,↓uL];refine dT rfl ?_;have aE:∀q∈aA H,bK C q/\q.1=45:=λq s=>(by grind [bK.old]);simp only[qz 45,au,aI,cS,aY,↓uL];refine yU A ⟨H,?_,bL,mm,?_,aE⟩;refine((T.trans v).trans N).mono ?_;intro q s;simp only[dF,eW,ql,bie] at s⊢;grind [bK.no];have:=aw.fx N (λq s e=>by simp at e;subst e;have:=(aE _ s).2;simp at this);rw[aB,f8<|qc hb,dg];exact this;simp only[qz 45,au,aI,cS,aY,↓uL];refine yU A ⟨wk,T,h5,af,?_,pw⟩;rw[aB,dB<|brD hb,cL];exact G;have aa:k=L ns:=(by grind);subst aa;rw[gV] at fm gw;have bl:box Y6 (1,v1)=_:=S.kq e1;simp only[bl,u0,u1,rk,aj,cT,↓uL];have cC:∀q:Id,q∈aA wk->q≠bo:=(by grind);have O6:lJ Y6 bo 38 3 73 (L w.aQ.ay) (pT w 0) (λ_=> .l [] U U):=(by refine⟨?_,(by grind [pT,fj,bc.nil]),(by grind [aA]),by grind [aA]⟩;have:=S.keep _ _ (by simp;exact⟨az.symm,aD.symm⟩) eo;rw[this,Q0];rfl);refine yV (L w.ac) (λk _ Y'=>∃f,Fx C Y' [(18,u),(11,o),bo]/\box Y' (18,u)=V ⟨157,20,U,U,[w.c++[n0, .g 0 (11,o) 0 0,wk, .m bo<|L w.aQ.ay, .l [] U U]]⟩/\box Y' (11,o)=V ⟨155,0,U,U,[(mC 0 ns).map ent]⟩/\bc Y' 107 3 wk ((aR ns 5).map aH8.c)/\lJ Y' bo 38 3 73 (L w.aQ.ay) (pT w k) f/\∀i,i<L w.aQ.ay->∀q∈aA (f i),bK C q) ⟨_,S.mono (by simp),f5,fm,gw,O6,by grind [aA]⟩ ?_;rintro k _ Y7 cI ⟨f,W,p5,pm,ax,O7,cD⟩;have ad:L Y7=4096:=W.len.trans ab;simp only[qz 79,qy 22,au,aI,u0,u1,ix,rk,bh,↓uL];refine⟨λh2=>⟨u7 h2,?_⟩,λh2=>?_⟩;have A:=aL h2;refine ic ad λv8 Y8 F8 N8 b8=>?_;refine cy (y:=7) (cs:=aP.c<|gd w.ac k) b8 rfl rfl (by decide) λD M b9=>?_;have bg:box D (7,v8)=V ⟨62,7,U,U,[aP.c<|gd w.ac k]⟩:=b9;have z:Fx Y7 D []:=(F8.trans M).mono (by grind [bK.no]);have q5:=z.kq p5;have qm:=z.kq pm;have G:=ax.fx z (by simp);have X:=O7.keep z (by simp) (by simp);have aC:L D=4096:=z.len.trans ad;have B:=(hN.1.named A).2;have ag:(gd w.ac k).aq.toNat<L w.aQ.ay:=(by have:=B.1;have:=B.2;omega);simp only[qz 24,qy 26,aPF q5,u0,u1,q5,bg,rk,rkC,aj,X.ix B,X.ld ag,iz,bQ,au,↓uL];have cO:=wF (l:=w.ac) (t:=(gd w.ac k).aq.toNat) (k:=k);refine anO (by':=8) (zs:=fB) (d:=73) (e:=3) (new:=[[iv k]]) X B rfl (by rw[aC];decide) aH4 (by simp) (by simp only[pT,bJ,bZ,aO1];omega) λa p ap f' ao cl Z ha cm v ci=>?_;have r5:=Z _ _ q5 az<|.inl rfl;have rm:=Z _ _ qm aD<|.inl rfl;have aZ:bc ap 107 3 wk ((aR ns 5).map aH8.c):=(by refine G.fx v λq s cQ=>?_;grind [lJ.pl]);simp only[qz 28,qz 30,↓uL];refine dT ?_ ?_;have bH:=X.pl _ ag;rcases X.gr _ ag with⟨_,r4⟩|⟨⟨k4,u4⟩,r4,_⟩;rw[r4];rfl;have h4:=bH (k4,u4) (by grind [aA]);simp only at h4;subst h4;rw[r4];rfl;simp only[au,cS,aY,↓uL];have br:(λj=>if j=(gd w.ac k).aq.toNat then pT w k j++[[iv k]] else pT w k j)=pT w (k+1):=(by funext j;have h0:=B.1;simp only[pT,Bb];by_cases hj:j=(gd w.ac k).aq.toNat;rw[f8 hj,f8<|by omega];simp;rw[dB hj,dB<|by omega];simp);rw[br] at ao;refine yU A ⟨f',?_,r5,rm,aZ,ao,λi hi q s=>?_⟩;refine((W.trans z).trans v).mono ?_;intro q s;simp only[dF,eW,ql,bie] at s⊢;grind [bK.no];grind [bK.old];have aa:k=L w.ac:=(by grind);subst aa;have Nb:bK Y (18,u):=N5.old<|(F.trans O).trans P;have Nm:bK Y (11,o):=N3.old F;have bb:bK Y bo:=No.old<|F.trans O;refine⟨(18,u),n0,wk,(11,o),bo,f,rfl,⟨p5,bG,⟨155,pm⟩,ax,O7,bc.nil,ad,rfl,rfl,bu,λq s=>(pw q s).2,by simp[aA]⟩,?_,Nb,Nm,bb⟩;refine((F.trans a9).trans W).mono ?_;grind [bK.no]
theorem bD.fx{Y Y':ae}{b:Id}{w:am}{ns:List aH8}{out:List (List Int)}{n wk a:AV}{bm bo:Id}{f:Nat->AV}(C:bD Y b w ns out n wk a bm bo f)(F:Fx Y Y' []):bD Y' b w ns out n wk a bm bo f:=by obtain⟨t,c⟩:=C.mp;exact⟨F.kq C.bx,C.nm,(by grind [Fx.keep]),C.gw.fx F (by simp),C.ow.keep F (by simp) (by simp),C.gr.fx F (by simp),F.len.trans C.le,C.sb,C.sm,C.so,C.sw,C.sa⟩
section
variable{Y:ae}{b:Id}{w:am}{ns:List aH8}{out:List (List Int)}{n wk a:AV}{bm bo:Id}{f:Nat->AV}{d:Nat}{K:be}
theorem aDD(C:bD Y b w ns out n wk a bm bo f)(u:L ns<100000){x:aH8}(m:x∈ns):∃r g,(r=iv (dP ns x)/\Fx Y g [])/\cZ aS GG 95 [.p b 0 0, .a<|aH8.c x] Y r g:=by refine aKh C.le rfl λo y j q v k=>?_;have i:Fx Y o []:=j.fx [];have e:=C.fx i;have bx:=e.bx;obtain⟨t,l⟩:=e.mp;have h:aN (V 3) (aH8.c x)=V (.a<|aH8.c x):=rfl;have s:ns.idxOf x<L ns:=(by grind);simp only[Ho,aPF bx,u0,u1,bx,rkC,k,h,aj,luV l m,cS,aY,aNN,aoz,↓uL];grind [fX,aEl]
def lq(C:bD Y b w ns out n wk a bm bo f)(g:L ns<100000){x:aH8}(h:x∈ns)(e:K (iv<|dP ns x) Y):cB 95 [.p b 0 0, .a<|aH8.c x] Y d K:=aS2 rfl (aDD C g h) e
end
def apu:dO:=apt
def sg:eJ apu:=Ey
def Lc:=@Lb
def Hc a a1 b s0 R:=(.mk _:NS apu at1 Tryz.f40 [a,a1,b] [] s0 R).p
def aJ8{a a1 b:AV}{s0:ae}{R:be}(hs:L s0=4096)(h:Hc a a1 b s0 R):EB 40 [a,a1,b] s0 R:=zB at1 sg Tryz.func40 h
def Hj a a1 s0 R:=(.mk _:NS apu at1 Tryz.f39 [a,a1] [] s0 R).p
def aKd{a a1:AV}{s0:ae}{R:be}(hs:L s0=4096)(h:Hj a a1 s0 R):EB 39 [a,a1] s0 R:=zB at1 sg Tryz.func39 h
def Hk a a1 s0 R:=(.mk _:NS apu at1 Tryz.f92 [a,a1] [] s0 R).p
def aKe{a a1:AV}{s0:ae}{R:be}(hs:L s0=4096)(h:Hk a a1 s0 R):EB 92 [a,a1] s0 R:=zB at1 sg Tryz.func92 h
def bt9 a a1 s0 R:=(.mk _:NS apu auO Tryz.f36 [a,a1] [] s0 R).p
def aJ6{a a1:AV}{s0:ae}{R:be}(hs:L s0=4096)(h:bt9 a a1 s0 R):EB 36 [a,a1] s0 R:=zB auO sg Tryz.func36 h
def HF a a1 s0 R:=(.mk _:NS apu auS Tryz.f93 [a,a1] [] s0 R).p
def aKp{a a1:AV}{s0:ae}{R:be}(hs:L s0=4096)(h:HF a a1 s0 R):EB 93 [a,a1] s0 R:=zB auS sg Tryz.func93 h
def asZ:=I5 12 [(4,([7,13],[0,1,11,12])),(7,([7],[0,1,11,12,13]))]
def CN a(I2:aG)(c:bu) f b d:=Rg->aV (gt a 1) (iv 1) λe=>I2 [gt b 0,e] d/\c [gt b 0,e] d<c a f
def Xq a G d e a1(f:aG):=ao 1 a G (gt d 1) λH=>aM a H λK=>rV (cO a e) λi=>aB 0 a i λj=>aB 7 a j λk=>Qfl 6 a k λl=>ao 1 a l a1 λm=>aM a m λn=>aO .sub K n λc=>aO .geq c (iv 0) λb=>Qct b c λo=>Qct b e λp=>Qot b (rV<|cO a p) λq=>aT b 18 a q λr=>Qct b a1 λs=>Qot b (ao 1 a r s) λt=>Qot b (aM a t) λu=>Qot b (aJ a u) λv=>Qot b (aU o v) λw=>aD b w (bv I) λx=>ah x (rV (cO a e) λy=>Qfl 18 a y λz=>ao 1 a z a1 λA=>aM a A λB=>ao 1 a B c λC=>aM a C λD=>eV (aX bH 1 a [(0,D)]) λE g=>eV (Gy 3 fB 8 g 54 (gt d 0) E) λF h=>f [F] h)<|f [gt d 0] a
def Xr t1 d c a1 R I2 e a b:=Rg->aU (gt a 1) t1 λt4=>ah t4 (jV 7 (CN a I2 e b)<|Xq b d a c a1)<|aNN R b [gt a 0]
def HG b a1 a s0 R:=aJ s0 a λt1=>lV [.l [] U U,iv 0] s0<|Xr t1 a b a1 R
def aKq{a a1 b:AV}{s0:ae}{R:be}(hs:L s0=4096)(h:HG a a1 b s0 R):EB 91 [a,a1,b] s0 R:=zB asZ sg Tryz.func91 h
def as9:=I5 11 [(4,([5,13],[0,1,11,12])),(7,([5],[0,1,11,12,13]))]
def HW a a1 s0 R:=(.mk _:NS apu as9 Tryz.f37 [a,a1] [] s0 R).p
def aKA{a a1:AV}{s0:ae}{R:be}(hs:L s0=4096)(h:HW a a1 s0 R):EB 37 [a,a1] s0 R:=zB as9 sg Tryz.func37 h
def as8:=I5 12 [(4,([7],[0,6]))]
def HV a a1 s0 R:=(.mk _:NS apu as8 Tryz.f35 [a,a1] [] s0 R).p
def aKz{a a1:AV}{s0:ae}{R:be}(hs:L s0=4096)(h:HV a a1 s0 R):EB 35 [a,a1] s0 R:=zB as8 sg Tryz.func35 h
def as2:=I5 16 [(4,([22],[5,20,21]))]
def HL a a1 s0 R:=(.mk _:NS apu as2 Tryz.f158 [a,a1] [] s0 R).p
def aKt{a a1:AV}{s0:ae}{R:be}(hs:L s0=4096)(h:HL a a1 s0 R):EB 158 [a,a1] s0 R:=zB as2 sg Tryz.func158 h
section
variable{Y:ae}{b:Id}{w:am}{ns:List aH8}{out:List (List Int)}{n wk a:AV}{bm bo:Id}{f:Nat->AV}{d:Nat}{K:be}
def av9{k x y:Int}:bM br8 aon [(0,iv k),(1,iv x),(2,iv y)]=V (.a<|aH8.c ⟨k,x,y⟩):=rfl
def als{k x:Int}:bM br8 aon [(0,iv k),(1,iv x)]=V (.a<|aH8.c ⟨k,x,0⟩):=rfl
def aDw(C:bD Y b w ns out n wk a bm bo f)(e:L ns<100000){x y:Int}(g:(⟨1,x,y⟩:aH8)∈ns):∃r c,(r=iv (lB ns x y)/\Fx Y c [])/\cZ aS GG 40 [.p b 0 0,iv x,iv y] Y r c:=by refine aJ8 C.le ?_;simp only[Hc,qy 2,av9,aY,↓uL];exact lq C e g ⟨rfl,Fx.refl _ _⟩
def kg(C:bD Y b w ns out n wk a bm bo f)(e:L ns<100000){x y:Int}(g:(⟨1,x,y⟩:aH8)∈ns)(c:K (iv<|lB ns x y) Y):cB 40 [.p b 0 0,iv x,iv y] Y d K:=aS2 rfl (aDw C e g) c
def aDA(C:bD Y b w ns out n wk a bm bo f)(e:L ns<100000){x:Int}(g:(⟨2,x,0⟩:aH8)∈ns):∃r c,(r=iv (lE ns x)/\Fx Y c [])/\cZ aS GG 39 [.p b 0 0,iv x] Y r c:=by refine aKd C.le ?_;simp only[Hj,qy 2,als,aY,↓uL];exact lq C e g ⟨rfl,Fx.refl _ _⟩
def gq(C:bD Y b w ns out n wk a bm bo f)(e:L ns<100000){x:Int}(g:(⟨2,x,0⟩:aH8)∈ns)(c:K (iv<|lE ns x) Y):cB 39 [.p b 0 0,iv x] Y d K:=aS2 rfl (aDA C e g) c
def aDB(C:bD Y b w ns out n wk a bm bo f)(e:L ns<100000){x:Int}(g:(⟨3,x,0⟩:aH8)∈ns):∃r c,(r=iv (lF ns x)/\Fx Y c [])/\cZ aS GG 92 [.p b 0 0,iv x] Y r c:=by refine aKe C.le ?_;simp only[Hk,qy 2,als,aY,↓uL];exact lq C e g ⟨rfl,Fx.refl _ _⟩
def AQ(C:bD Y b w ns out n wk a bm bo f)(e:L ns<100000){x:Int}(g:(⟨3,x,0⟩:aH8)∈ns)(c:K (iv<|lF ns x) Y):cB 92 [.p b 0 0,iv x] Y d K:=aS2 rfl (aDB C e g) c
theorem bD.ne{q:Id}{x:bY}(C:bD Y b w ns out n wk a bm bo f)(c:box Y q=V x)(e:x.var=U\/x.elem≠38):q∉aA a:=λh=>by
 have:=C.gr.ids q h
 grind
def bD.na(C:bD Y b w ns out n wk a bm bo f):b∉aA a:=C.ne C.bx<|.inl rfl
theorem bD.upd{Y':ae}{out':List (List Int)}{e:AV}(C:bD Y b w ns out n wk a bm bo f)(F:Fx Y Y'<|aA a++[b])(p:box Y' b=V ⟨157,20,U,U,[w.c++[n, .g 0 bm 0 0,wk, .m bo<|L w.aQ.ay,e]]⟩)(r:bc Y' 38 1 e<|out'.map λc=>[sl ci c])(o:∀k∈aA e,k.1=12):bD Y' b w ns out' n wk e bm bo f:=by obtain⟨t,s⟩:=C.mp;have j:∀{q:Id} {x:bY},box Y q=V x->x.var=U\/x.elem≠38->q.1≠18->q∉aA a++[b]:=(by grind [bD.ne,bD.sb]);refine⟨p,C.nm,(by grind [Fx.keep,bD.sm]),C.gw.fx F λq h=>j (C.gw.ids q h) (.inr<|by simp) (by grind [bD.sw]),C.ow.keep F (j C.ow.bx (.inl rfl)<|by rw[C.so];decide)<|λi l q h=>j ((C.ow.gr i l).ids q h) (.inr<|by simp)<|by rw[C.ow.pl i l q h];decide,r,F.len.trans C.le,C.sb,C.sm,C.so,C.sw,o⟩
theorem aDu(C:bD Y b w ns out n wk a bm bo f)(ho:L out<1000000000){x:AV}{c:List Int}(hx:dG Y x= .l (c.map ci) I I)(hc:L c<1000000)(hp:(∃r t o,x= .l r t o)\/∃k m,x= .m k m/\k.1≠18):∃r A,(∃a1,r= .t []/\bD A b w ns (out++[c]) n wk a1 bm bo f/\Ad Y A b a a1)/\cZ aS GG 36 [.p b 0 0,x] Y r A:=by refine aJ6 C.le ?_;have bx:=C.bx;simp only[bt9,aPF bx,u0,u1,bx,rkC,aj,↓uL];refine Kr (bA:=c.map ci) hx fF (by grind) (by simp[gY]) (by rw[C.le];decide) λB A g1 P F=>?_;have C1:=C.fx P;simp only[qz 2,qy 4,↓uL];rw[show aYp=[.l [] I I] from rfl];refine bsI g1 λT F2=>?_;have an:∀k∈aA a,k∉aA B:=λk N z=>(F k z).1.no _<|C.gr.ids k N;have al:b∉aA B:=λz=>(F b z).1.no _ C.bx;have D:Fx Y T []:=(P.trans F2).mono (by grind [bK.no]);have i:=C.fx D;refine gD i.gr rfl (by decide) (by rw[i.le];decide) (by simp) (by simp) (by simp;omega) λs Y3 X R hi hs=>?_;have H:=R.keep _ _ i.na i.bx;simp only[qz 6,aPF H,u0,u1,H,aj,↓uL];refine cy (y:=1) (j:=19) (cs:=[s]) H (ms X) rfl (by simp[am.c,J9.c,sA.c,aW.c]) λG S b4=>?_;have W:box G b=V ⟨157,20,U,U,[w.c++[n, .g 0 bm 0 0,wk, .m bo<|L w.aQ.ay,s]]⟩:=b4;simp only[qz 8,↓uL];have E:Fx T G (aA a++[b]):=R.trans S;have M:∀q∈aA s,q∉[b]:=λq O e=>(by simp at e;subst e;rcases hi q O with h|h;exact C.na h;exact h.no _ i.bx);have C4:=i.upd E W (out':=out++[c]) (by rw[dg];exact X.fx S M) (λq O=>(hs q O).elim (i.sa q) id);have hA:Ad Y G b a s:=(by refine⟨(D.trans E).mono ?_,by grind [bK.old]⟩;grind);refine dT ?_ ⟨s,rfl,C4,hA⟩;have u:=C.sb;obtain⟨b1,b2⟩:=b;simp only at u;subst u;have Z:(∃r t o,B= .l r t o)\/∃v m,B= .m (10,v) m:=(by rcases g1 with⟨_,h⟩|⟨⟨k1,k2⟩,h,_⟩;grind;have:=(F (k1,k2)<|by rw[h];simp[aA]).2;grind);rcases hp with⟨r,t,o,rfl⟩|⟨⟨k1,k2⟩,m,rfl,N⟩<;>rcases Z with⟨r',t',o',rfl⟩|⟨v,m',rfl⟩<;>simp[eL,okT,tok,lb,gz,dC,pP,dK]<;>(try exactλe=>N e)<;>(omega)
def anw(C:bD Y b w ns out n wk a bm bo f)(s:L out<1000000000){x:AV}{c:List Int}(v:dG Y x= .l (c.map ci) I I)(q:L c<1000000)(u:(∃r t o,x= .l r t o)\/∃k m,x= .m k m/\k.1≠18)(j:∀g e,bD e b w ns (out++[c]) n wk g bm bo f->Ad Y e b a g->K (.t []) e):cB 36 [.p b 0 0,x] Y d K:=by refine jH rfl (aDu C s v q u) ?_;rintro r e ⟨g,rfl,i,h⟩;exact⟨h.fx.len,j g e i h⟩
def boV(C:bD Y b w ns out n wk a bm bo f)(j:L out<1000000000)(c:List Int)(i:L c<1000000){t o:Bool}(h:∀g e,bD e b w ns (out++[c]) n wk g bm bo f->Ad Y e b a g->K (.t []) e):cB 36 [.p b 0 0, .l (c.map ci) t o] Y d K:=anw C j rfl i (by simp) h
def avK{e:TypeId}{z:Nat}{x:AV}{bA:List (List AV)}(h:bc Y e z x bA):dG Y x= .l bA I I:=by rcases h with⟨rfl,rfl⟩|⟨k,rfl,c⟩;rfl;simp[dG,eR,gi,c,nrm,gK]
theorem qB{x:AV}{l:List aH8}{k:Nat}{K:cC}(e:bc Y 107 3 x<|l.map aH8.c)(i:k<L l):(rV (cz 3 Y x<|iv k) λt=>rV (vl (V 3) Y t) K)=K (.a<|aH8.c<|gd l k):=by rcases e with⟨g,_⟩|⟨b,rfl,h⟩;simp_all;simp_all [cz,rV,vl,iE,aN,bT,aH8.c]
def gO(ns l:List aH8)(y:Int):List Int:=(l.filter λv=>Q<|v.b=y).map<|dP ns
theorem aMV{ns l:List aH8}{y:Int}{k:Nat}(h:k<L l):gO ns (l.take<|k+1) y=gO ns (l.take k) y++(if(gd l k).b=y then[dP ns<|gd l k] else[]):=by grind [iJ,gO,bT]
theorem aDX(C:bD Y b w ns out n wk a bm bo f)(S:L ns<100000)(y:Int):∃r g,(bc g 3 1 r ((gO ns (aR ns 5) y).map ci)/\Fx Y g []/\∀b∈aA r,bK Y b)/\cZ aS GG 37 [.p b 0 0,iv y] Y r g:=by refine aKA C.le ?_;have bx:=C.bx;have A:L (aR ns 5)<=L ns:=fZ _ _;have q:∀x∈aR ns 5,x∈ns:=λx T=>(jW.1 T).1;simp only[HW,aPF bx,u0,u1,bx,rkC,aj,lnI C.gw,bJ,↓uL];have o:=C.gw;generalize aR ns 5=l at A q o;refine jD (α:=AV) (λa i=>[a,iv i]) 1 (L l) (λk r Y'=>bc Y' 3 1 r ((gO ns (l.take k) y).map ci)/\Fx Y Y' []/\∀b∈aA r,bK Y b) (s0:= .l [] U U) ⟨bc.nil,Fx.refl _ _,by simp[aA]⟩ ?_;rintro k r g R ⟨g1,j,u⟩;have B:L g=4096:=j.len.trans C.le;simp only[qz 25,au,ck,aI,u0,u1,di,qz 47,qy 2,bh,↓uL];refine⟨λh=>?_,λh=>?_⟩;have e:=aL h;rw[qB (o.fx j<|by simp) e];refine ic B λv Y2 E Z M=>?_;refine cy (cs:=aH8.c<|gd l k) M rfl rfl (by decide) λt G N=>?_;have z:box t _=V ⟨107,3,U,U,[aH8.c<|gd l k]⟩:=N;have m:Fx g t []:=(E.trans G).mono (by grind [bK.no]);have F:Fx Y t []:=j.trans m;have O:=g1.fx m (by simp);have W:=aMV (ns:=ns) (y:=y) e;have D:aN (V 3) (aH8.c<|gd l k)=V (.a<|aH8.c<|gd l k):=rfl;simp+contextual only[qz 4,u0,u1,z,D,rk,aj,au,ck,↓uL];have X:L (gO ns (l.take k) y)<=k:=(by grind [gO]);refine⟨λP=>?_,λP=>?_⟩;refine lq (C.fx F) S (q _<|ig e) ?_;simp only[qz 6,qy 8,qy 10,iz,bQ,au,↓uL];refine gD (new:=[[iv<|dP ns<|gd l k]]) O rfl (by decide) (by rw[F.len,C.le];decide) fF (by simp) (by grind) λa4 Y4 g4 H hi _=>?_;simp only[qz 45,au,ck,aI,u0,u1,↓uL];refine dR (mk:=λa i=>[a,iv i]) (s:=r) (λ_ _=>rfl) e (by omega) ⟨?_,(F.trans H).mono (by grind [bK.no]),λk R=>?_⟩;simp_all;grind [bK.old];simp only[qz 45,au,ck,aI,u0,u1,↓uL];refine dR (mk:=λa i=>[a,iv i]) (s:=r) (λ_ _=>rfl) e (by omega) ⟨?_,F,u⟩;simp_all;rw[oB<|bw h] at g1;exact⟨g1,j,u⟩
def anC(C:bD Y b w ns out n wk a bm bo f)(e:L ns<100000)(y:Int)(c:∀t,K (.l ((gO ns (aR ns 5) y).map ci) t U) Y):cB 37 [.p b 0 0,iv y] Y d K:=xC rfl (aDX C e y) c
theorem aDO(C:bD Y b w ns out n wk a bm bo f)(hw:L w.ac<1000000){j:Int}(T:aF (L w.ac) j):∃r m,(r=iv (kr w j)/\Fx Y m [])/\cZ aS GG 158 [.p b 0 0,iv j] Y r m:=by refine aKt C.le ?_;have bx:=C.bx;simp only[HL,qy 2,aPF bx,u0,u1,bx,rkC,rk,ix,aj,↓uL];refine⟨T,?_⟩;refine ic C.le λW s3 F N3 M=>?_;refine cy (y:=7) (cs:=aP.c<|gd w.ac j.toNat) M rfl rfl (by decide) λt G N=>?_;have A:box t (5,W)=V ⟨62,7,U,U,[aP.c<|gd w.ac j.toNat]⟩:=N;have l:Fx Y t []:=(F.trans G).mono (by grind [bK.no]);have u:=C.fx l;have q:=u.bx;simp only[qz 4,aPF q,u0,u1,q,rkC,rk,aj,cT,↓uL];refine yV (L w.ac) (λk _ Y'=>Fx t Y' []/\∀i,i<k->pV (gd w.ac j.toNat) (gd w.ac i)=I) ⟨Fx.refl _ _,by simp⟩ ?_;rintro k _ m hk ⟨e,R⟩;have B:L m=4096:=e.len.trans u.le;have O:=e.kq A;simp+contextual only[qz 25,qy 6,au,aI,u0,u1,ix,rk,bh,↓uL];refine⟨λh=>⟨u7 h,?_⟩,λh=>?_⟩;have D:=aL h;refine ic B λv Y2 E N2 H=>?_;refine cy (y:=7) (cs:=aP.c<|gd w.ac k) H rfl rfl (by decide) λo x z=>?_;have s:box o (7,v)=V ⟨62,7,U,U,[aP.c<|gd w.ac k]⟩:=z;have g:Fx m o []:=(E.trans x).mono (by grind [bK.no]);have P:=g.kq O;simp+contextual only[qz 8,u0,u1,s,P,rk,aj,au,aNN,aoz,↓uL];have Z:Fx Y o []:=(l.trans e).trans g;have X:pV (gd w.ac j.toNat) (gd w.ac k)=U->iv (k:Int)=iv (kr w j)/\Fx Y o []:=(by grind [kr,KW]);refine⟨(by grind [pV]),λh1=>⟨(by grind [pV]),λh2=>⟨(by grind [pV]),λh3=>?_⟩⟩⟩;exact yU D ⟨e.trans g,by grind [pV]⟩;have:=KX (p:=λi=>pV (gd w.ac j.toNat)<|gd w.ac i) (n:=L w.ac) (λi S=>R i<|bkb S<|bw h);simp only[kr,this,aNN,aoz];exact⟨trivial,l.trans e⟩
theorem aDW(C:bD Y b w ns out n wk a bm bo f)(hw:L w.ac<1000000){k:Int}(o:aF (L w.ac) k)(B:aF (L w.init.bW.ay) (gd w.ac k.toNat).aq)(S:L w.init.bW.ay<1000000):∃r e,((∃v,r= .t [iv v,bv (bh0 w k).2]/\((bh0 w k).2=U->v=(bh0 w k).1))/\Fx Y e [])/\cZ aS GG 35 [.p b 0 0,iv k] Y r e:=by refine aKz C.le ?_;have bx:=C.bx;have N:=o.1;have O:=o.2;have P:=B.1;have R:=B.2;simp only[HV,aPF bx,u0,u1,bx,rkC,rk,ix,aj,↓uL];refine⟨o,?_⟩;rw[eM (by omega)<|by omega];refine⟨λvs Y'=>∃i:Nat,vs=[iv<|(i:Int)-1]/\i<=k.toNat/\Fx Y Y' []/\od w.ac (gd w.ac k.toNat).aq i=od w.ac (gd w.ac k.toNat).aq k.toNat,λvs _=>match vs with|[.s (.int _ i)]=>(i+1).toNat|_=>0,(by grind [Fx.refl]),?_⟩;rintro vs e ⟨i,rfl,Z,m,X⟩;have q:=C.fx m;have j:=q.bx;simp only[qz 25,qy 2,au,aI,aPF j,u0,u1,j,rkC,rk,ix,aj,dc,↓uL];refine⟨λh=>?_,λh=>?_⟩;simp only[j4] at h;obtain⟨i,rfl⟩:∃M,i=M+1:=⟨i-1,by omega⟩;have H:((i+1:Nat):Int)-1=(i:Int):=(by omega);rw[H];have A:aF (L w.ac) (i:Int):=⟨by omega,by omega⟩;refine⟨A,?_⟩;rw[bh];refine ic q.le λv W D T F=>?_;refine cy (y:=7) (cs:=aP.c<|gd w.ac i) F rfl rfl (by decide) λu E G=>?_;have x:box u (8,v)=V ⟨62,7,U,U,[aP.c<|gd w.ac i]⟩:=G;have g:Fx e u []:=(D.trans E).mono (by grind [bK.no]);simp+contextual only[qz 4,u0,u1,x,rk,aj,au,aNN,aoz,↓uL];refine⟨λz=>?_,λz=>?_⟩;simp only[bN,j4] at z;have l:od w.ac (gd w.ac k.toNat).aq k.toNat=V i:=(by grind [od]);refine⟨⟨(i:Int),?_,λ_=>?_⟩,m.trans g⟩;simp[bh0,l];simp[bh0,l];rw[eM (by omega)<|by omega];refine⟨⟨i,rfl,by omega,m.trans g,?_⟩,by omega⟩;grind [od];simp only[j5] at h;obtain rfl:i=0:=(by omega);grind [od,eM,aNN,aoz,bh0]
def awL{fn:Nat}{xs:List AV}{Q:cC}(l:uQ.elem fn=U)(k:∀r,Q r->∃v u,r= .t [.s v, .s u])(h:∃r c,(Q r/\Fx Y c [])/\cZ aS GG fn xs Y r c)(j:∀r,Q r->K r Y):cB fn xs Y d K:=by obtain⟨r,c,⟨e,g⟩,i⟩:=h;obtain⟨v,u,rfl⟩:=k r e;refine⟨_,c,i,g.len,?_⟩;rw[f8<|show GG.rd fn=U from l];exact⟨g.kp,rfl,j _ e⟩
def aEi(C:bD Y b w ns out n wk a bm bo f)(g:L w.ac<1000000){j:Int}(e:aF (L w.ac) j)(c:K (iv<|kr w j) Y):cB 158 [.p b 0 0,iv j] Y d K:=aS2 rfl (aDO C g e) c
theorem anB(C:bD Y b w ns out n wk a bm bo f)(h:L w.ac<1000000){k:Int}(e:aF (L w.ac) k)(g:aF (L w.init.bW.ay) (gd w.ac k.toNat).aq)(c:L w.init.bW.ay<1000000)(i:∀v,((bh0 w k).2=U->v=(bh0 w k).1)->K (.t [iv v,bv (bh0 w k).2]) Y):cB 35 [.p b 0 0,iv k] Y d K:=awL (Q:=λr=>∃v,r= .t [iv v,bv (bh0 w k).2]/\((bh0 w k).2=U->v=(bh0 w k).1)) rfl (by simp_all) (aDW C h e g c) (by simp_all)
def aRQ(l:List aP)(t:Int)(k:Nat):List Int:=(fj l t k).map λ(j:Nat)=>(j:Int)
theorem wE{l:List aP}{t:Int}{k:Nat}:L (aRQ l t k)=L (fj l t k):=by simp[aRQ]
theorem Ba{l:List aP}{t:Int}{k:Nat}:aRQ l t (k+1)=aRQ l t k++if(gd l k).aq=t then[(k:Int)] else[]:=by grind [aRQ,Bb]
theorem btL{w:am}{k t:Nat}:pT w k t=(aRQ w.ac t k).map ci:=by simp[pT,aRQ,vA,Function.comp_def]
theorem QC{l:List aP}{t:Int}{j:Nat}:∀{k:Nat},j<=k->∃r,aRQ l t k=aRQ l t j++r
 |0,h=>(by simp_all)
 |k+1,h=>by
  rcases jj j (k+1) with c|c
  ·obtain⟨r,e⟩:=QC (l:=l) (t:=t) (show j<=k by omega)
   grind [Ba]
  ·exact⟨[],by grind⟩
def aEY{l:List aP}{t:Int}{k:Nat}:∀x∈aRQ l t k,0<=x/\x<k:=by intro x e;obtain⟨j,c,rfl⟩:=dN.1 e;have:=fq.1 (jW.1 c).1;omega
theorem QI{l:List aP}{t:Int}:∀{k:Nat},qT l t k=if 0<L (aRQ l t k) then gd (aRQ l t k) (L (aRQ l t k)-1) else-1
 |0=>by simp[qT,aRQ,fj]
 |k+1=>by
  rw[qT,Ba]
  by_cases h:(gd l k).aq=t
  ·grind [gd]
  ·rw[dB h,dB h,cL]
   exact QI
theorem aE5{A r:List Int}{x:Int}(h:x∉A):oW (A++x::r) x=L A:=by grind [oW]
theorem aDL(C:bD Y b w ns out n wk a bm bo f)(B:L w.ac<1000000){j:Int}(k:aF (L w.ac) j)(e:aF (L w.aQ.ay) (gd w.ac j.toNat).aq):∃r o,(r=iv (lw w.ac j)/\Fx Y o [])/\cZ aS GG 93 [.p b 0 0,iv j] Y r o:=by refine aKp C.le ?_;have bx:=C.bx;have g:(gd w.ac j.toNat).aq.toNat<L w.aQ.ay:=(by have:=e.1;have:=e.2;omega);have v:(((gd w.ac j.toNat).aq.toNat:Nat):Int)=(gd w.ac j.toNat).aq:=kA e.1;have i:=C.ow.gr _ g;rw[btL,v] at i;have s:=k.1;have z:=k.2;have u:((j.toNat:Nat):Int)=j:=kA s;obtain⟨r,c⟩:=QC (l:=w.ac) (t:=(gd w.ac j.toNat).aq) (show j.toNat+1<=L w.ac by omega);rw[Ba,f8 rfl,bje,u] at c;have m:oW (aRQ w.ac (gd w.ac j.toNat).aq<|L w.ac) j=L (aRQ w.ac (gd w.ac j.toNat).aq j.toNat):=(by rw[c];exact aE5 λy=>by have:=(aEY _ y).2;omega);have x:L (aRQ w.ac (gd w.ac j.toNat).aq<|L w.ac)<=L w.ac:=(by rw[wE];exact wF);have A:L (aRQ w.ac (gd w.ac j.toNat).aq j.toNat)<=j.toNat:=(by rw[wE];exact wF);simp only[HF,aPF bx,u0,u1,bx,rkC,rk,ix,aj,↓uL];refine⟨k,?_⟩;simp only[C.ow.ix e,C.ow.ld g,aY,jM,kU,jt,tW,avK i,Lc,↓uL];rw[show AV.l ((aRQ w.ac (gd w.ac j.toNat).aq<|L w.ac).map ci) I I=sl ci (aRQ w.ac (gd w.ac j.toNat).aq<|L w.ac) from rfl];simp only[Lc,AL,ip,m,u0,u1,↓uL];refine⟨by omega,λh=>?_,λh=>?_⟩;simp only[j4] at h;rw[eM (by omega)<|by omega];have q:aF (L<|aRQ w.ac (gd w.ac j.toNat).aq<|L w.ac) ((L (aRQ w.ac (gd w.ac j.toNat).aq j.toNat):Int)-1):=(by rw[c];simp only[a6G,bZ];exact⟨by omega,by omega⟩);simp only[Dw i q,aNN,aoz];refine⟨?_,Fx.refl _ _⟩;rw[lw,QI,f8 (by omega),c];congr 1;have:(((L (aRQ w.ac (gd w.ac j.toNat).aq j.toNat):Int)-1).toNat)=L (aRQ w.ac (gd w.ac j.toNat).aq j.toNat)-1:=(by omega);grind [gd];grind [aNN,aoz,Fx.refl,lw,QI]
def anA(C:bD Y b w ns out n wk a bm bo f)(h:L w.ac<1000000){j:Int}(e:aF (L w.ac) j)(g:aF (L w.aQ.ay) (gd w.ac j.toNat).aq)(c:K (iv<|lw w.ac j) Y):cB 93 [.p b 0 0,iv j] Y d K:=aS2 rfl (aDL C h e g) c
theorem alO{l:List aP}{u:Int}:∀{k:Nat},k<=L l->lU l u k=L (aRQ l u k)
 |0,_=>by simp[lU,aRQ,fj]
 |k+1,h=>by
  rw[alN (by omega),Ba,a6G,alO<|by omega]
  grind
theorem Q7{p:Nat->Bool}{k:Nat}:fw p (k+1)=fw p k++if p k=U then[(k:Int)] else[]:=by grind [fw,qn]
theorem Er{w:am}{u x:Int}:∀{k:Nat},k<=L w.ac->fw (lm w u x) k=if 0<=x-gd w.init.count u.toNat/\x-gd w.init.count u.toNat<(L (aRQ w.ac u k):Int) then[gd (aRQ w.ac u k) (x-gd w.init.count u.toNat).toNat] else[]
 |0,_=>by simp[fw,aRQ,fj]
 |k+1,h=>by
  have i:=Er (w:=w) (u:=u) (x:=x) (k:=k) (by omega)
  have e:=alO (l:=w.ac) (u:=u) (k:=k) (by omega)
  generalize o:x-gd w.init.count u.toNat=m at i⊢
  rw[Ba]
  by_cases c:(gd w.ac k).aq=u
  ·rw[f8 c,a6G,GJ]
   by_cases j:m=L (aRQ w.ac u k)
   ·have g:lm w u x k=U:=by simp only[lm,c,e,bj5,iw,j4];omega
    rw[Q7,f8 g,i,dB (by omega),f8 (by omega),j]
    simp[gd]
   ·have g:lm w u x k=I:=by simp only[lm,c,e,bj5,iw,j5];omega
    grind [Q7,gd]
  grind [lm,Q7]
theorem DT{w:am}{u:Int}{l:List Int}{k:Nat}(h:k<L l):bqV w u l (k+1)=bqV w u l k++fw (lm w u<|gd l k) (L w.ac):=by grind [bqV,iJ,bT]
theorem aDM(C:bD Y b w ns out n wk a bm bo f)(hw:L w.ac<=16){u:Int}{l:List Int}(hl:L l<100000)(y:aF (L w.aQ.ay) u)(X:L w.init.count=L w.aQ.ay)(W:0<=gd w.init.count u.toNat/\gd w.init.count u.toNat<=400)(T:∀x∈l,-1000<=x/\x<=1000):∃r g,(bc g 3 1 r ((fg w u l).map ci)/\Fx Y g []/\∀b∈aA r,bK Y b)/\cZ aS GG 91 [.p b 0 0,iv u,sl ci l] Y r g:=by refine aKq C.le ?_;have A:u.toNat<L w.aQ.ay:=(by have:=y.1;have:=y.2;omega);have H:((u.toNat:Nat):Int)=u:=kA y.1;simp only[HG,u0,u1,cT,↓uL];refine jD (α:=AV) (λa i=>[a,iv i]) 1 (L l) (λk r Y'=>bc Y' 3 1 r ((bqV w u l k).map ci)/\L (bqV w u l k)<=k/\Fx Y Y' []/\∀b∈aA r,bK Y b) (s0:= .l [] U U) ⟨bc.nil,by simp[bqV],Fx.refl _ _,by simp[aA]⟩ ?_;rintro k r g R ⟨g1,Z,v,D⟩;have j:=C.fx v;have bx:=j.bx;have aa:L g=4096:=j.le;have B:=j.ow.gr _ A;rw[btL,H] at B;have M:aF (L w.init.count) u:=(by simp_all);simp only[Xr,au,ck,aI,u0,u1,di,Xq,ix,rk,aPF bx,bx,rkC,bh,aj,dc,↓uL];refine⟨λh=>⟨u7 h,M,?_⟩,λh=>?_⟩;have c:=aL h;have ab:=T _<|ig c;have e:=Er (w:=w) (u:=u) (x:=gd l k) (k:=L w.ac)<|dA _;have S:L (aRQ w.ac u<|L w.ac)<=L w.ac:=(by rw[wE];exact wF);generalize hm:gd l k-gd w.init.count u.toNat=m at e⊢;have N:dq.wrap m=m:=(by grind [eM]);rw[N];have F:fS g (f u.toNat)=V (iv<|L<|aRQ w.ac u<|L w.ac):=(by rw[lnI B,bJ]);have z:¬(0<=m/\m<(L (aRQ w.ac u<|L w.ac):Int))->CN [r,iv k] (yI (λa i=>[a,iv i]) (L l) λk r Y'=>bc Y' 3 1 r ((bqV w u l k).map ci)/\L (bqV w u l k)<=k/\Fx Y Y' []/\∀b∈aA r,bK Y b) (gM 1<|L l) g [r] g:=(by intro G;simp only[CN,au,ck,aI,u0,u1,↓uL];refine dR (mk:=λa i=>[a,iv i]) (s:=r) (λ_ _=>rfl) c (by omega) ⟨?_,?_,v,D⟩;rw[DT c,e,dB G,cL];exact g1;rw[DT c,e,dB G,cL];omega);by_cases q:0<=m;have t:Q (0<=m)=U:=brS q;simp only[u0,u1,t,jA,aPF bx,bx,rkC,aj,j.ow.ix y,j.ow.ld A,F,ru,iw,↓uL];refine⟨λE=>?_,λE=>z<|by simp_all⟩;have o:aF (L<|aRQ w.ac u<|L w.ac) m:=⟨q,by simpa using E⟩;simp only[Dw B o,iz,bQ];refine gD (new:=[[iv<|gd (aRQ w.ac u<|L w.ac) m.toNat]]) g1 rfl (by decide) (by omega) fF (by simp) (by grind) λa4 Y4 P O hi _=>?_;simp only[CN,au,ck,aI,u0,u1,↓uL];refine dR (mk:=λa i=>[a,iv i]) (s:=r) (λ_ _=>rfl) c (by omega) ⟨?_,?_,(v.trans O).mono (by grind [bK.no]),λk R=>?_⟩;rw[DT c,e,f8 ⟨q,o.2⟩,dg];exact P;rw[DT c,e,f8 ⟨q,o.2⟩];simp;omega;grind [bK.old];have t:Q (0<=m)=I:=bqL q;simp only[u0,u1,t,jN,show∀x,mL (bv I) x (bv I)=V (bv I) fromλ_=>rfl,eE,aPy,aYF,ip,↓uL];exact z (by omega);have:k=L l:=(by grind);subst this;exact⟨g1,v,D⟩
def Qp(C:bD Y b w ns out n wk a bm bo f)(j:L w.ac<=16){u:Int}{l:List Int}(h:L l<100000)(i:aF (L w.aQ.ay) u)(e:L w.init.count=L w.aQ.ay)(c:0<=gd w.init.count u.toNat/\gd w.init.count u.toNat<=400)(k:∀x∈l,-1000<=x/\x<=1000)(g:∀t,K (.l ((fg w u l).map ci) t U) Y):cB 91 [.p b 0 0,iv u,sl ci l] Y d K:=xC rfl (aDM C j h i e c k) g
end
def apv:dO:=apu
def tB:eJ apv:=sg
def aBo:=@Lc
def asX:=I5 32 [(3,([16],[0,2,15])),(9,([4],[0,2,3,15,16])),(15,([39],[0,2,38])),(18,([],[0,2,38,39])),(24,([66],[0,65])),(27,([],[0,65,66]))]
def HC a s0 R:=(.mk _:NS apv asX Tryz.f83 [a] [] s0 R).p
def aKo{a:AV}{s0:ae}{R:be}(hs:L s0=4096)(h:HC a s0 R):EB 83 [a] s0 R:=zB asX tB Tryz.func83 h
def as3:=I5 26 [(2,([],[0,4,5,6])),(8,([55],[0,4,5,6,53,54])),(15,([11],[0,4,5,6,10])),(18,([85],[0,4,5,6,10,11,83,84])),(21,([],[0,4,5,6,10,11,83,84,85]))]
def HM b a c R:=(.mk _:NS apv as3 Tryz.f168 [b, .u] [a] c R).p
def aKu{c:AV}{b:List AV}{s0:ae}{R:be}(hs:L s0=4096)(l1:L b=3)(h:HB1 107 3 3 b s0 λe d=>HM c e d R):EB 168 [c, .a b] s0 R:=zB1 as3 tB Tryz.func168 hs l1 h
def Hl c a b d R:=(.mk _:NS apv auF Tryz.f159 [c, .u, .u] [a,b] d R).p
def aKf{d:AV}{b:List AV}{c:List AV}{s0:ae}{R:be}(hs:L s0=4096)(l1:L b=4)(e:L c=4)(h:HB2 220 4 4 b 220 4 5 c s0 λg i f=>Hl d g i f R):EB 159 [d, .a b, .a c] s0 R:=zB2 auF tB Tryz.func159 hs l1 e h
def asK:=I5 6 []
def Hg c a b d R:=(.mk _:NS apv asK Tryz.f160 [c, .u, .u] [a,b] d R).p
def aKb{d:AV}{b:List AV}{c:List AV}{s0:ae}{R:be}(hs:L s0=4096)(l1:L b=4)(e:L c=4)(h:HB2 220 4 4 b 220 4 5 c s0 λg i f=>Hg d g i f R):EB 160 [d, .a b, .a c] s0 R:=zB2 asK tB Tryz.func160 hs l1 e h
def asJ:=I5 12 [(1,([12],[0,10,11])),(7,([24],[0,2,10,11,12,22,23]))]
def Hf a s0 R:=(.mk _:NS apv asJ Tryz.f90 [a] [] s0 R).p
def aKa{a:AV}{s0:ae}{R:be}(hs:L s0=4096)(h:Hf a s0 R):EB 90 [a] s0 R:=zB asJ tB Tryz.func90 h
def asG:=I5 19 [(1,([14],[0,12,13])),(4,([],[0,12,13,14])),(13,([46],[0,2,4,12,13,14,44,45])),(16,([],[0,2,4,12,13,14,44,45,46]))]
def bua a s0 R:=(.mk _:NS apv asG Tryz.f88 [a] [] s0 R).p
def aJ7{a:AV}{s0:ae}{R:be}(hs:L s0=4096)(h:bua a s0 R):EB 88 [a] s0 R:=zB asG tB Tryz.func88 h
def asI:=I5 31 [(2,([4],[0,3])),(7,([4,5,43],[0,3,41,42])),(10,([4,5],[0,3,41,42,43])),(12,([4],[0,3,5,7,41,42,43])),(18,([8,98],[0,3,4,5,96,97])),(25,([114],[0,3,4,112,113]))]
def buc b a c R:=(.mk _:NS apv asI Tryz.f166 [b, .u] [a] c R).p
def aJ9{c:AV}{b:List AV}{s0:ae}{R:be}(hs:L s0=4096)(l1:L b=3)(h:HB1 107 3 3 b s0 λe d=>buc c e d R):EB 166 [c, .a b] s0 R:=zB1 asI tB Tryz.func166 hs l1 h
structure jb(w:am)(ns:List aH8):Prop where
 ln:L ns<100000
 bf:∀x y:Int,aF (L w.ac) x->aF (L w.ac) y->x≠y->(⟨1,x,y⟩:aH8)∈ns
 ex:∀x:Int,aF (L w.ac) x->(⟨2,x,0⟩:aH8)∈ns
 fx:∀x:Int,aF (L w.ac) x->fR (gd w.ac x.toNat)=U->(⟨3,x,0⟩:aH8)∈ns
def anX{l:List aP}{t:Int}:∀{k:Nat},qT l t k<k
 |0=>by simp[qT]
 |k+1=>by
  rw[qT]
  split
  ·omega
  ·have:=anX (l:=l) (t:=t) (k:=k);omega
def anW{w:am}{j:Nat}:lw w.ac j<j:=by simp_all [anX,lw]
def azY{p:Nat->Bool}:∀{n:Nat},0<=uo p n->uo p n<n/\p (uo p n).toNat=U:=by intro n h;by_cases m:∃i,i<n/\p i=U;obtain⟨i,o,q⟩:=m;have c:∃k,k<n/\p k=U/\∀j,j<k->p j=I:=(by induction i using Nat.strongRecOn with|_ i r=>grind);obtain⟨k,l,g,e⟩:=c;rw[KW l g e];simp_all;grind [KX]
def aIp{w:am}{j:Nat}(h:0<=kr w j):aF (L w.ac) (kr w j)/\kr w j≠j:=by obtain⟨c,g⟩:=azY h;refine⟨⟨h,c⟩,λe=>?_⟩;grind [pV,kr]
section
variable{Y:ae}{b:Id}{w:am}{ns:List aH8}{out:List (List Int)}{n wk a:AV}{bm bo:Id}{f:Nat->AV}{d:Nat}{K:be}
def mS(Y:ae)(b:Id)(w:am)(ns:List aH8)(out cl:List<|List Int)(n wk a:AV)(bm bo:Id)(f:Nat->AV):be:=λr c=>∃a1,r= .t []/\bD c b w ns (out++cl) n wk a1 bm bo f/\Ad Y c b a a1
def bsi{fn:Nat}{xs:List AV}{cl:List (List Int)}(k:uQ.elem fn=I)(h:∃r c,mS Y b w ns out cl n wk a bm bo f r c/\cZ aS GG fn xs Y r c)(j:∀e c,bD c b w ns (out++cl) n wk e bm bo f->Ad Y c b a e->K (.t []) c):cB fn xs Y d K:=by refine jH k h ?_;rintro r c ⟨e,rfl,i,g⟩;exact⟨g.fx.len,j e c i g⟩
theorem aDK(C:bD Y b w ns out n wk a bm bo f)(M:jb w ns)(ak:∀k,k<L w.ac->aF (L w.aQ.ay) (gd w.ac k).aq)(hw:L w.ac<=16)(ho:L out+L (bqD ns w)<1000000000):∃r E,mS Y b w ns out (bqD ns w) n wk a bm bo f r E/\cZ aS GG 83 [.p b 0 0] Y r E:=by have e:=M.ln;refine aKo C.le ?_;have bx:=C.bx;simp only[bqD,a6G] at ho;simp only[HC,aPF bx,u0,u1,bx,rkC,rk,aj,cT,↓uL];refine yV (L w.ac) (λk _ Y'=>∃g,bD Y' b w ns (out++(aH k).flatMap (jy ns<|L w.ac)) n wk g bm bo f/\Ad Y Y' b a g) (by grind [Ad.refl]) ?_;rintro k _ E v ⟨a1,C1,A1⟩;have l1:=fU (f:=jy ns<|L w.ac) v;simp only[qz 19,au,aI,u0,u1,↓uL];refine⟨λh=>?_,λh=>?_⟩;have O:=aL h;rw[fX<|by omega];have S:=fU (f:=jy ns<|L w.ac) (show k+1<=L w.ac by omega);rw[aNG,a6G] at S;have al:L ((aH<|L w.ac).flatMap<|my ns k)=L (jy ns (L w.ac) k):=rfl;refine AI (α:=Unit) (λ_ i=>[iv i]) 0 (L w.ac) (k+1) (by omega) (λj _ Y'=>∃g,bD Y' b w ns (out++(aH k).flatMap (jy ns<|L w.ac)++(aH j).flatMap (my ns k)) n wk g bm bo f/\Ad Y Y' b a g/\k<j) (s0:=()) (by grind [aol,my]) ?_;rintro j _ W hj ⟨F,s,t,ag⟩;have l2:=fU (f:=my ns k) hj;simp only[qz 55,au,aI,u0,u1,↓uL];refine⟨λm=>?_,λm=>?_⟩;have N:=aL m;refine kg s e (M.bf _ _ ⟨by omega,by omega⟩ ⟨by omega,by omega⟩<|by omega) ?_;simp only[qz 2,au,↓uL];refine kg s e (M.bf _ _ ⟨by omega,by omega⟩ ⟨by omega,by omega⟩<|by omega) ?_;simp only[qz 4,fi,bQ,qz 6,↓uL];refine boV s (by grind) [_,_] (by simp) λu G l q=>?_;simp only[qz 8,au,u0,u1,↓uL];refine yU N ⟨u,?_,t.trans q,by omega⟩;grind [aNG,my];refine yU O ⟨F,?_,t⟩;grind [aNG,jy];have o:k=L w.ac:=(by grind);subst o;refine yV (L w.ac) (λk _ Y'=>∃g,bD Y' b w ns (out++(aH<|L w.ac).flatMap (jy ns<|L w.ac)++(aH k).flatMap (kY ns w)) n wk g bm bo f/\Ad Y Y' b a g) (by grind) ?_;rintro k _ W v ⟨F,s,t⟩;have l2:=fU (f:=kY ns w) v;simp only[qz 91,au,aI,u0,u1,di,qz 113,↓uL];refine⟨λh=>?_,λh=>?_⟩;have c:=aL h;refine anA s (by omega) (dJ c) (by simp_all) ?_;have ah:=anW (w:=w) (j:=k);simp only[qz 10,u0,u1,au,↓uL];refine⟨λm=>?_,λm=>?_⟩;have x:=qc m;have A:=fU (f:=kY ns w)<|show k+1<=L w.ac from c;have e2:kY ns w k=[[lB ns (lw w.ac k) k],[-lE ns k,lE ns<|lw w.ac k]]:=(by rw[kY,f8 x]);rw[aNG,e2,a6G] at A;simp only[bZ,aO1] at A;have P:aF (L w.ac) (lw w.ac k):=⟨x,by omega⟩;refine kg s e (by grind [jb.bf,dJ]) ?_;simp only[qz 12,a5Y,bQ,qz 14,↓uL];refine boV s (by grind) [_] (by simp) λu G l q=>?_;simp only[qz 16,au,↓uL];refine gq l e (M.ex _<|dJ c) ?_;simp only[qz 18,de e,aY,↓uL];refine gq l e (M.ex _ P) ?_;simp only[qz 20,qy 22,qy 24,fi,bQ,↓uL];refine boV l (by grind) [_,_] (by simp) λH X y D=>?_;simp only[qz 111,au,aI,u0,u1,↓uL];refine yU c ⟨H,?_,(t.trans q).trans D⟩;grind [aNG];simp only[qz 111,au,aI,u0,u1,↓uL];refine yU c ⟨F,?_,t⟩;grind [aNG,kY];have o:k=L w.ac:=(by grind);subst o;refine yV (L w.ac) (λk _ Y'=>∃g,bD Y' b w ns (out++(aH<|L w.ac).flatMap (jy ns<|L w.ac)++(aH<|L w.ac).flatMap (kY ns w)++(aH k).flatMap (mA ns w)) n wk g bm bo f/\Ad Y Y' b a g) (by grind) ?_;rintro k _ G v ⟨u,l,q⟩;have l3:=fU (f:=mA ns w) v;simp only[qz 145,au,aI,u0,u1,di,qz 167,↓uL];refine⟨λh=>?_,λh=>?_⟩;have c:=aL h;refine aEi l (by omega) (dJ c) ?_;simp only[qz 26,u0,u1,au,↓uL];refine⟨λm=>?_,λm=>?_⟩;have x:=qc m;obtain⟨z,R⟩:=aIp x;have B:=fU (f:=mA ns w)<|show k+1<=L w.ac from c;have e3:mA ns w k=[[-lE ns k,lE ns<|kr w k],[-lE ns k,lB ns (kr w k) k]]:=(by rw[mA,f8 x]);rw[aNG,e3,a6G] at B;simp only[bZ,aO1] at B;refine gq l e (M.ex _<|dJ c) ?_;simp only[qz 28,de e,aY,↓uL];refine gq l e (M.ex _ z) ?_;simp only[qz 30,fi,bQ,qz 32,↓uL];refine boV l (by grind) [_,_] (by simp) λH X y D=>?_;simp only[qz 34,au,↓uL];refine gq y e (M.ex _<|dJ c) ?_;simp only[qz 36,de e,aY,au,↓uL];refine kg y e (M.bf _ _ z (dJ c) R) ?_;simp only[qz 38,qy 40,qy 42,fi,bQ,↓uL];refine boV y (by grind) [_,_] (by simp) λZ Y5 C5 T=>?_;simp only[qz 165,au,aI,u0,u1,↓uL];refine yU c ⟨Z,?_,(q.trans D).trans T⟩;grind [aNG];simp only[qz 165,au,aI,u0,u1,↓uL];refine yU c ⟨u,?_,q⟩;grind [aNG,mA];have o:k=L w.ac:=(by grind);subst o;exact⟨u,rfl,by grind [bqD],q⟩
def aEh(C:bD Y b w ns out n wk a bm bo f)(M:jb w ns)(g:∀k,k<L w.ac->aF (L w.aQ.ay) (gd w.ac k).aq)(j:L w.ac<=16)(i:L out+L (bqD ns w)<1000000000)(h:∀e c,bD c b w ns (out++bqD ns w) n wk e bm bo f->Ad Y c b a e->K (.t []) c):cB 83 [.p b 0 0] Y d K:=bsi rfl (aDK C M g j i) h
structure tP(w:am):Prop where
 ct:L w.init.count=L w.aQ.ay
 c0:∀u:Int,aF (L w.aQ.ay) u->0<=gd w.init.count u.toNat/\gd w.init.count u.toNat<=400
 dl:∀k,k<L w.ac->L (gd w.ac k).dI<100000/\∀x∈(gd w.ac k).dI,-1000<=x/\x<=1000
 fl:∀k,k<L w.ac->L (gd w.ac k).ep<100000/\∀x∈(gd w.ac k).ep,-1000<=x/\x<=1000
 dp:∀k,k<L w.ac->∀q∈fg w (gd w.ac k).aq (gd w.ac k).dI,aF (L w.ac) q/\fR (gd w.ac q.toNat)=U
 fr:∀k,k<L w.ac->∀q∈fg w (gd w.ac k).aq (gd w.ac k).ep,aF (L w.ac) q/\fR (gd w.ac q.toNat)=U
theorem aDy(C:bD Y b w ns out n wk a bm bo f)(M:jb w ns)(D:tP w)(q:∀k,k<L w.ac->aF (L w.aQ.ay) (gd w.ac k).aq)(hw:L w.ac<=16)(ho:L out+L ((aH<|L w.ac).flatMap<|kX ns w)<1000000000):∃r l,mS Y b w ns out ((aH<|L w.ac).flatMap<|kX ns w) n wk a bm bo f r l/\cZ aS GG 90 [.p b 0 0] Y r l:=by have z:=M.ln;refine aKa C.le ?_;have bx:=C.bx;simp only[Hf,aPF bx,u0,u1,bx,rkC,rk,aj,cT,↓uL];refine yV (L w.ac) (λk _ Y'=>∃g,bD Y' b w ns (out++(aH k).flatMap (kX ns w)) n wk g bm bo f/\Ad Y Y' b a g) (by grind [Ad.refl]) ?_;rintro k _ l hk ⟨a1,s,N⟩;simp only[qz 7,qy 2,au,aI,u0,u1,ix,rk,bh,↓uL];refine⟨λh=>⟨u7 h,?_⟩,λh=>?_⟩;have e:=aL h;refine ic s.le λv Y2 S N2 Z=>?_;refine cy (y:=7) (cs:=aP.c<|gd w.ac k) Z rfl rfl (by decide) λF T b3=>?_;have G:box F (3,v)=V ⟨62,7,U,U,[aP.c<|gd w.ac k]⟩:=b3;have E:Fx l F []:=(S.trans T).mono (by grind [bK.no]);have P:=s.fx E;simp only[qz 4,u0,u1,G,rk,aj,↓uL];refine Qp P hw (D.dl k e).1 (q k e) D.ct (D.c0 _<|q k e) (D.dl k e).2 λt=>?_;have l1:=fU (f:=kX ns w)<|show k+1<=L w.ac from e;rw[aNG,a6G] at l1;have A:=D.dp k e;have i:kX ns w k=(aH<|L<|fg w (gd w.ac k).aq (gd w.ac k).dI).flatMap (qv ns k<|fg w (gd w.ac k).aq (gd w.ac k).dI):=rfl;rw[i] at l1;generalize hL:fg w (gd w.ac k).aq (gd w.ac k).dI=Lw at A i l1;have ak:L Lw<4000000000:=(by have:L Lw=L ((aH<|L Lw).flatMap<|qv ns k Lw):=(by clear hL i l1 A;generalize L Lw=m;induction m with|zero=>rfl|succ m ih=>rw[aNG,a6G,<-ih];rfl);omega);simp only[qz 6,gT,u0,↓uL];refine yV (L Lw) (λj _ Y'=>∃g,bD Y' b w ns (out++(aH k).flatMap (kX ns w)++(aH j).flatMap (qv ns k Lw)) n wk g bm bo f/\Ad Y Y' b a g) (by grind [Ad.fxn]) ?_;rintro j _ Y4 hj ⟨W,u,B⟩;have l4:=fU (f:=qv ns k Lw) hj;simp only[qz 43,au,aI,u0,u1,tf,rk,qM,bh,↓uL];refine⟨λx=>⟨u7 x,?_⟩,λx=>?_⟩;have o:=aL x;obtain⟨q1,q2⟩:=A _<|ig o;refine gq u z (M.ex _<|dJ e) ?_;simp only[qz 8,de z,aY,↓uL];refine AQ u z (M.fx _ q1 q2) ?_;simp only[qz 10,fi,bQ,qz 12,↓uL];refine boV u (by grind) [_,_] (by simp) λX Y5 R O=>?_;simp only[qz 14,au,cS,aY,↓uL];refine yU o ⟨X,?_,B.trans O⟩;rw[aNG,<-bje];exact R;refine yU e ⟨W,?_,B⟩;grind [aNG];have H:k=L w.ac:=(by grind);subst H;exact⟨a1,rfl,s,N⟩
def aEd(C:bD Y b w ns out n wk a bm bo f)(M:jb w ns)(D:tP w)(g:∀k,k<L w.ac->aF (L w.aQ.ay) (gd w.ac k).aq)(j:L w.ac<=16)(i:L out+L ((aH<|L w.ac).flatMap<|kX ns w)<1000000000)(h:∀e c,bD c b w ns (out++(aH<|L w.ac).flatMap (kX ns w)) n wk e bm bo f->Ad Y c b a e->K (.t []) c):cB 90 [.p b 0 0] Y d K:=bsi rfl (aDy C M D g j i) h
def uf(ns:List aH8)(e c:Int):List (List Int):=if c<0\/e<0 then[] else[[-lE ns c,lE ns e],[-lE ns c,lB ns e c]]
theorem aDC(C:bD Y b w ns out n wk a bm bo f)(M:jb w ns)(ho:L out<999999990){R O g W c T:Int}{P S:Bool}(H:0<=g->aF (L w.ac) g)(N:0<=c->aF (L w.ac) c)(ae:g≠c\/c<0):∃r x,mS Y b w ns out (uf ns g c) n wk a bm bo f r x/\cZ aS GG 159 [.p b 0 0, .a [iv R,iv O,iv g,bv P], .a [iv W,iv c,iv T,bv S]] Y r x:=by have i:=M.ln;refine aKf C.le rfl rfl λZ v4 v5 D af _ _ m F=>?_;have v:Fx Y Z []:=D.fx [];have l:=C.fx v;have X:∀{p q s t:AV},aN J ([p,q,s,t].drop 1)=V q:=rfl;have y:∀{p q s t:AV},aN J ([p,q,s,t].drop 2)=V s:=rfl;simp+contextual only[Hl,u0,u1,m,F,X,y,aj,↓uL];refine⟨λh=>?_,λh=>?_⟩;simp only[aNN,aoz];simp only[fH,j4] at h;refine⟨a,rfl,?_,⟨v.mono (by simp),λk G=> .inl G⟩⟩;grind [uf];simp only[cP,j5] at h;have j:=N (by omega);have o:=H (by omega);have ad:uf ns g c=[[-lE ns c,lE ns g],[-lE ns c,lB ns g c]]:=(by grind [uf]);refine gq l i (M.ex _ j) ?_;simp only[qz 6,de i,aY,u0,u1,m,y,aj,↓uL];refine gq l i (M.ex _ o) ?_;simp only[qz 8,fi,bQ,qz 10,↓uL];refine boV l (by omega) [_,_] (by simp) λa1 x u z=>?_;have A:=z.keep m (by intro e;have:=C.sb;rw[<-e] at this;simp at this)<|l.ne m<|.inl rfl;simp only[qz 12,↓uL];refine dT ?_ ?_;simp_all [eL,lb,cq,gz,dC,dK];refine gq u i (M.ex _ j) ?_;simp only[qz 14,de i,aY,u0,u1,A,y,aj,↓uL];refine kg u i (M.bf _ _ o j<|by omega) ?_;simp only[qz 16,fi,bQ,qz 18,↓uL];refine boV u (by simp;omega) [_,_] (by simp) λE Y2 C2 B=>?_;simp only[qz 20,↓uL];refine dT ?_ ⟨E,rfl,?_,Ad.pre v<|z.trans B⟩;obtain⟨aa,ab⟩:=b;have:=C.sb;simp only at this;subst this;simp[eL,okT,tok,lb,cq,gz,dC,dK];simp_all
theorem aDz(C:bD Y b w ns out n wk a bm bo f)(M:jb w ns)(ho:L out<999999990){X y l yt o yr:Int}{W Z:Bool}(k:aF (L w.ac) y)(i:aF (L w.ac) o)(R:0<=l->aF (L w.ac) l)(m:y≠o)(G:0<=l->l≠o):∃r v,mS Y b w ns out (jI ns y l o) n wk a bm bo f r v/\cZ aS GG 160 [.p b 0 0, .a [iv X,iv y,iv l,bv W], .a [iv yt,iv o,iv yr,bv Z]] Y r v:=by have c:=M.ln;refine aKb C.le rfl rfl λT v4 v5 N ad _ _ x P=>?_;have A:Fx Y T []:=N.fx [];have g:=C.fx A;have S:∀{p q s t:AV},aN J ([p,q,s,t].drop 1)=V q:=rfl;have B:∀{p q s t:AV},aN J ([p,q,s,t].drop 2)=V s:=rfl;simp+contextual only[Hg,u0,u1,x,P,S,B,aj,↓uL];refine⟨λh=>?_,λh=>?_⟩;refine gq g c (M.ex _ k) ?_;simp only[qz 6,de c,aY,↓uL];refine gq g c (M.ex _ i) ?_;simp only[qz 8,de c,aY,↓uL];refine kg g c (M.bf _ _ k i m) ?_;simp only[qz 10,qy 12,qy 14,de c,aY,xA,bQ,↓uL];refine boV g (by omega) [_,_,_] (by simp) λa1 v j u=>⟨a1,rfl,?_,Ad.pre A u⟩;grind [jI];have h':=brD h;have z:=R (by omega);refine gq g c (M.ex _ k) ?_;simp only[qz 16,de c,aY,↓uL];refine gq g c (M.ex _ i) ?_;simp only[qz 18,de c,aY,↓uL];refine kg g c (M.bf _ _ k i m) ?_;simp only[qz 20,de c,aY,u0,u1,x,B,aj,↓uL];refine gq g c (M.ex _ z) ?_;simp only[qz 22,vR,bQ,qz 24,↓uL];refine boV g (by omega) [_,_,_,_] (by simp) λa1 v j u=>?_;have F:=u.keep x (by intro e;have:=C.sb;rw[<-e] at this;simp at this)<|g.ne x<|.inl rfl;simp only[qz 26,↓uL];refine dT ?_ ?_;obtain⟨D,E⟩:=b;have:=C.sb;simp only at this;subst this;simp[eL,okT,tok,lb,cq,gz,dC,dK];refine gq j c (M.ex _ k) ?_;simp only[qz 28,de c,aY,↓uL];refine gq j c (M.ex _ i) ?_;simp only[qz 30,de c,aY,↓uL];refine kg j c (M.bf _ _ k i m) ?_;simp only[qz 32,de c,aY,u0,u1,F,B,aj,↓uL];refine kg j c (M.bf _ _ z i<|G<|by omega) ?_;simp only[qz 34,vR,bQ,qz 36,↓uL];refine boV j (by simp;omega) [_,_,_,_] (by simp) λO Y2 C2 H=>?_;simp only[qz 38,↓uL];refine dT ?_ ⟨O,rfl,?_,Ad.pre A<|u.trans H⟩;obtain⟨D,E⟩:=b;have:=C.sb;simp only at this;subst this;simp[eL,okT,tok,lb,cq,gz,dC,dK];grind [jI]
def aEe(C:bD Y b w ns out n wk a bm bo f)(M:jb w ns)(k:L out<999999990){r o e v c u:Int}{q s:Bool}(l:0<=e->aF (L w.ac) e)(m:0<=c->aF (L w.ac) c)(i:e≠c\/c<0)(j:∀h g,bD g b w ns (out++uf ns e c) n wk h bm bo f->Ad Y g b a h->K (.t []) g):cB 159 [.p b 0 0, .a [iv r,iv o,iv e,bv q], .a [iv v,iv c,iv u,bv s]] Y d K:=bsi rfl (aDC C M k l m i) j
def anx(C:bD Y b w ns out n wk a bm bo f)(M:jb w ns)(m:L out<999999990){u g c y e x:Int}{s v:Bool}(q:aF (L w.ac) g)(r:aF (L w.ac) e)(o:0<=c->aF (L w.ac) c)(j:g≠e)(k:0<=c->c≠e)(l:∀i h,bD h b w ns (out++jI ns g c e) n wk i bm bo f->Ad Y h b a i->K (.t []) h):cB 160 [.p b 0 0, .a [iv u,iv g,iv c,bv s], .a [iv y,iv e,iv x,bv v]] Y d K:=bsi rfl (aDz C M m q r o j k) l
theorem aDR(C:bD Y b w ns out n wk a bm bo f)(M:jb w ns)(D:tP w)(al:∀k,k<L w.ac->aF (L w.aQ.ay) (gd w.ac k).aq)(hw:L w.ac<=16){r:Nat}{s:Int}(hr:r<L w.ac)(bG:fR (gd w.ac r)=U)(hm:(⟨4,(r:Int),s⟩:aH8)∈ns)(hs:0<=s->aF (L w.ac) s/\s≠(r:Int))(ho:L out+L (iP ns w r s)<999999900):∃r1 X,mS Y b w ns out (iP ns w r s) n wk a bm bo f r1 X/\cZ aS GG 168 [.p b 0 0, .a<|aH8.c ⟨4,r,s⟩] Y r1 X:=by have i:=M.ln;refine aKu C.le rfl λs2 v3 K2 bR _ b3=>?_;have F2:Fx Y s2 []:=K2.fx [];have C0:=C.fx F2;have aV:aN (V 3) (aH8.c ⟨4,(r:Int),s⟩)=V (.a<|aH8.c ⟨4,r,s⟩):=rfl;simp only[iP,a6G] at ho;simp only[HM,u0,u1,b3,aV,rk,aj,↓uL];refine lq C0 i hm ?_;simp only[qz 4,↓uL];refine dT rfl ?_;refine bsh (λvs Y'=>vs=[]/\∃q,bD Y' b w ns (out++kD ns w r s) n wk q bm bo f/\Ad Y Y' b a q) (λg hJ=>?_) ?_;simp only[qz 17,u0,u1,↓uL];refine⟨λh=>?_,λh=>hJ _ _ ⟨rfl,a,by grind [kD],⟨F2.mono (by simp),λk hk=> .inl hk⟩⟩⟩;have O:=qc h;obtain⟨E,aT⟩:=hs O;have bI:((s.toNat:Nat):Int)=s:=kA O;have F:s.toNat<L w.ac:=(by have:=E.1;have:=E.2;omega);have l:kD ns w r s=[[-lS ns r s,lE ns s],[-lS ns r s,lB ns s r]]++(aH<|L<|fg w (gd w.ac s.toNat).aq (gd w.ac s.toNat).ep).flatMap (pD ns r s<|fg w (gd w.ac s.toNat).aq (gd w.ac s.toNat).ep):=(by grind [kD]);rw[l,a6G] at ho;simp only[de i,aY,↓uL];refine gq C0 i (M.ex _ E) ?_;simp only[qz 6,fi,bQ,qz 8,↓uL];refine boV C0 (by omega) [_,_] (by simp) λa1 X N A1=>?_;simp only[qz 10,de i,aY,↓uL];refine kg N i (M.bf _ _ E (dJ hr) aT) ?_;simp only[qz 12,fi,bQ,qz 14,↓uL];refine boV N (by simp;omega) [_,_] (by simp) λa2 Y2 C2 A2=>?_;have ag:=C2.bx;simp only[qz 16,qy 18,aPF ag,u0,u1,ag,rkC,rk,ix,aj,↓uL];refine⟨E,?_⟩;refine ic C2.le λv Y3 F3 N3 d3=>?_;refine cy (y:=7) (cs:=aP.c<|gd w.ac s.toNat) d3 rfl rfl (by decide) λZ F4 d4=>?_;have H:box Z (7,v)=V ⟨62,7,U,U,[aP.c<|gd w.ac s.toNat]⟩:=d4;have T:Fx Y2 Z []:=(F3.trans F4).mono (by grind [bK.no]);have C4:=C2.fx T;simp only[qz 20,u0,u1,H,rk,aj,↓uL];refine Qp C4 hw (D.fl _ F).1 (al _ F) D.ct (D.c0 _<|al _ F) (D.fl _ F).2 λt=>?_;have hq:=D.fr _ F;generalize hL:fg w (gd w.ac s.toNat).aq (gd w.ac s.toNat).ep=Lw at hq l ho;have bA:L Lw<4000000000:=(by have:L Lw=L ((aH<|L Lw).flatMap<|pD ns r s Lw):=(by clear hL l ho hq;generalize L Lw=m;induction m with|zero=>rfl|succ m ih=>rw[aNG,a6G,<-ih];rfl);omega);simp only[qz 22,gT,u0,↓uL];refine yV (L Lw) (λj _ Y'=>∃q,bD Y' b w ns (out++[[-lS ns r s,lE ns s],[-lS ns r s,lB ns s r]]++(aH j).flatMap (pD ns r s Lw)) n wk q bm bo f/\Ad Y Y' b a q) (by grind [Ad.fxn,Ad.pre,Ad.trans]) ?_;rintro j _ Y5 hj ⟨a5,S,A5⟩;have P:=fU (f:=pD ns r s Lw) hj;simp only[qz 49,au,aI,u0,u1,tf,rk,qM,bh,de i,↓uL];refine⟨λh2=>⟨u7 h2,?_⟩,λh2=>?_⟩;have ak:=aL h2;obtain⟨q1,q2⟩:=hq _<|ig ak;refine AQ S i (M.fx _ q1 q2) ?_;simp only[qz 24,fi,bQ,qz 26,↓uL];refine boV S (by grind) [_,_] (by simp) λa6 Y6 C6 A6=>?_;simp only[qz 28,au,cS,aY,↓uL];refine yU ak ⟨a6,?_,A5.trans A6⟩;rw[aNG,<-bje];exact C6;grind;rintro vs X ⟨rfl,a1,N,A1⟩;have af:=N.bx;simp only[qz 15,qy 30,aI,aPF af,u0,u1,af,rkC,rk,ix,aj,bh,↓uL];refine⟨dJ hr,?_⟩;refine ic N.le λv Y3 F3 N3 d3=>?_;refine cy (y:=7) (cs:=aP.c<|gd w.ac r) d3 rfl rfl (by decide) λZ F4 d4=>?_;have H:box Z (10,v)=V ⟨62,7,U,U,[aP.c<|gd w.ac r]⟩:=d4;have T:Fx X Z []:=(F3.trans F4).mono (by grind [bK.no]);have C4:=N.fx T;have ah:=C4.bx;simp only[qz 32,u0,u1,H,rk,aj,↓uL];refine bsp (λg=>∀kd:Int,kd=(if(gd w.ac r).kind=23 then 22 else 4)->g [iv kd]) ?_ λg hj=>?_;intro kd bB;simp only[qz 93,aI,aPF ah,u0,u1,ah,rkC,rk,aj,cT,↓uL];have bM:∀x:aP,aTG x (gd w.ac r)=(Q (x.kind=kd)&&Q (x.bF=(gd w.ac r).bF)):=(by grind [fR,aTG]);refine yV (L w.ac) (λk _ Y'=>∃q,bD Y' b w ns (out++kD ns w r s++(aH k).flatMap (bpl ns w r s)) n wk q bm bo f/\Ad Y Y' b a q/\box Y' (10,v)=V ⟨62,7,U,U,[aP.c<|gd w.ac r]⟩) (by grind [Ad.fxn]) ?_;rintro z _ Y5 hz ⟨a5,S,A5,e5⟩;simp only[qz 109,au,aI,u0,u1,ix,rk,bh,↓uL];refine⟨λh=>?_,λh=>?_⟩;have B:=aL h;refine bsK (λg=>∀o u,bD o b w ns (out++kD ns w r s++(aH z).flatMap (bpl ns w r s)++bpl ns w r s z) n wk u bm bo f->Ad Y o b a u->box o (10,v)=V ⟨62,7,U,U,[aP.c<|gd w.ac r]⟩->g [] o) ?_ λg A=>?_;intro o u C8 R e8;simp only[qz 129,aI,au,cS,aY,↓uL];refine yU B ⟨u,?_,R,e8⟩;grind [aNG];simp only[qz 131,qy 34,au,u0,u1,ix,rk,bh,↓uL];refine⟨dJ B,?_⟩;have P:=fU (f:=bpl ns w r s)<|show z+1<=L w.ac from B;rw[aNG,a6G] at P;refine ic S.le λv6 Y6 F6 N6 d6=>?_;refine cy (y:=7) (cs:=aP.c<|gd w.ac z) d6 rfl rfl (by decide) λY7 F7 d7=>?_;have aG:box Y7 (13,v6)=V ⟨62,7,U,U,[aP.c<|gd w.ac z]⟩:=d7;have W:Fx Y5 Y7 []:=(F6.trans F7).mono (by grind [bK.no]);have G:=S.fx W;have A7:=A5.fxn W;have e7:=W.kq e5;have bn:((10,v):Id)≠b:=(by grind);simp+contextual only[qz 36,u0,u1,aG,e7,rk,aj,au,de i,↓uL];refine⟨λhc=>?_,λhc=>?_⟩;refine A Y7 a5 ?_ A7 e7;grind [bpl];simp only[cP,j5,aNS] at hc;have bO:(z:Int)≠s:=(by omega);have bL:aTG (gd w.ac z) (gd w.ac r)=U:=(by simp_all);have bH:(r:Int)≠z:=(by intro e;have br:r=z:=(by omega);grind [aTG]);have bC:¬((z:Int)=s\/aTG (gd w.ac z) (gd w.ac r)=I):=(by simp_all);refine⟨λO=>?_,λO=>?_⟩;have aK:=qc O;have l:bpl ns w r s z=[[-lS ns r s,-lE ns z,lB ns z s,lB ns r z]]:=(by grind [bpl]);rw[l] at P A;simp only[bZ,aO1] at P;refine gq G i (M.ex _<|dJ B) ?_;simp only[qz 38,de i,aY,au,↓uL];refine kg G i (by grind [jb.bf,dJ]) ?_;simp only[qz 40,au,↓uL];refine kg G i (by grind [jb.bf,dJ]) ?_;simp only[qz 42,qy 44,qy 46,vR,bQ,↓uL];refine boV G (by grind) [_,_,_,_] (by simp) λu o C8 R=>?_;exact A o u C8 (A7.trans R) (by grind [Ad.keep,bD.ne]);have aK:=brD O;have l:bpl ns w r s z=[[-lS ns r s,-lE ns z,lB ns r z]]:=(by grind [bpl]);rw[l] at P A;simp only[bZ,aO1] at P;refine gq G i (M.ex _<|dJ B) ?_;simp only[qz 48,de i,aY,au,↓uL];refine kg G i (by grind [jb.bf,dJ]) ?_;simp only[qz 50,qy 52,qy 54,xA,bQ,↓uL];refine boV G (by grind) [_,_,_] (by simp) λu o C8 R=>?_;exact A o u C8 (A7.trans R) (by grind [Ad.keep,bD.ne]);have aO:z=L w.ac:=(by grind);subst aO;refine⟨a5,rfl,?_,A5⟩;grind [iP];simp only[qz 95,u0,u1,H,rk,aj,↓uL];refine⟨λh=>hj 22 (by simp_all),λh=>hj 4<|by simp_all⟩
def aEj(C:bD Y b w ns out n wk a bm bo f)(M:jb w ns)(D:tP w)(i:∀k,k<L w.ac->aF (L w.aQ.ay) (gd w.ac k).aq)(q:L w.ac<=16){r:Nat}{s:Int}(o:r<L w.ac)(h:fR (gd w.ac r)=U)(l:(⟨4,(r:Int),s⟩:aH8)∈ns)(hs:0<=s->aF (L w.ac) s/\s≠(r:Int))(m:L out+L (iP ns w r s)<999999900)(j:∀g e,bD e b w ns (out++iP ns w r s) n wk g bm bo f->Ad Y e b a g->K (.t []) e):cB 168 [.p b 0 0, .a<|aH8.c ⟨4,r,s⟩] Y d K:=bsi rfl (aDR C M D i q o h l hs m) j
structure sE(w:am)(ns:List aH8):Prop where
 ok:∀x∈aR ns 5,aF (L w.ac) x.a/\pN (gd w.ac x.a.toNat)=U/\(0<=x.b->aF (L w.ac) x.b/\x.b≠x.a)
 ln:L (aR ns 5)<=1000
def iO(ns:List aH8)(k:Nat)(c:Int)(l:List aH8)(j:Nat):List (List Int):=if(gd l j).b=c then[[-lE ns k,-dP ns (gd l j),lB ns (gd l j).a k]] else[]
def bru(ns:List aH8)(w:am)(k:Nat):List (List Int):=
 if(gd w.ac k).kind=17/\(bh0 w k).2=U then(-lE ns k::gO ns (aR ns 5) (bh0 w k).1)::(aH<|L<|aR ns 5).flatMap (iO ns k (bh0 w k).1<|aR ns 5) else[]
theorem bsg{Y:ae}{e:TypeId}{z d by':Nat}{zs:List AV}{a:AV}{bA new:List (List AV)}{t o:Bool}{K:be}(v:gA Y e z a bA)(B:L zs=z)(p:0<z)(i:d<L Y)(A:∀r∈bA,L r=z)(y:∀r∈new,L r=z)(x:(L bA+L new)*(by'+1)<=1099511627776)(j:∀c Y',gA Y' e z c (bA++new)->Fx Y Y' (aA a)->(∀b∈aA c,b∈aA a\/(bK Y b/\b.1=d))->K c Y'):eV (Gy e zs by' Y d a<|.l new t o) K:=by rcases v with⟨o',rfl⟩|⟨b,rfl,u⟩;unfold Gy;simp only[gL];by_cases k:L new=0;rw[f8 k];have m:new=[]:=(by simp_all);subst m;exact j _ _ (.inl ⟨o',by simp⟩) (Fx.refl _ _) (by simp[aA]);rw[dB k,f8 ⟨by omega,by simp[aRI,i],by simp_all⟩];rw[f8 ⟨by simp_all,by grind [lx]⟩];refine j _ _ (.inr ⟨zt Y d,by simp,?_⟩) ((kH i).mono<|by simp) (by simp[aA];exact⟨qQ Y d,rfl⟩);grind [be7];refine gD (.inr ⟨b,rfl,u⟩) B p i A y x λc Y' g F C D=>j c Y' ?_ F λq E=>?_;rcases g with⟨s,rfl⟩|h;exact .inl ⟨U,by rw[s]⟩;exact .inr h;grind
theorem Ea(C:bD Y b w ns out n wk a bm bo f)(l:L out<1000000000){x:AV}(c:List Int)(h:gA Y 3 1 x<|c.map ci)(j:L c<1000000)(m:∀k∈aA x,k.1≠18)(i:∀g e,bD e b w ns (out++[c]) n wk g bm bo f->Ad Y e b a g->K (.t []) e):cB 36 [.p b 0 0,x] Y d K:=by refine anw C l (ali h) j ?_ i;rcases h with⟨o,rfl⟩|⟨k,rfl,_⟩;simp;grind [aA]
theorem aDv(C:bD Y b w ns out n wk a bm bo f)(M:jb w ns)(Wk:sE w ns)(bj:∀k,k<L w.ac->aF (L w.aQ.ay) (gd w.ac k).aq)(bg:L w.init.bW.ay=L w.aQ.ay)(bi:L w.aQ.ay<=4)(hw:L w.ac<=16)(ho:L out+L ((aH<|L w.ac).flatMap<|bru ns w)<999999900):∃r N,mS Y b w ns out ((aH<|L w.ac).flatMap<|bru ns w) n wk a bm bo f r N/\cZ aS GG 88 [.p b 0 0] Y r N:=by have q:=M.ln;have bk:=Wk.ln;refine aJ7 C.le ?_;have bx:=C.bx;simp only[bua,aPF bx,u0,u1,bx,rkC,rk,aj,cT,↓uL];refine yV (L w.ac) (λk _ Y'=>∃E,bD Y' b w ns (out++(aH k).flatMap (bru ns w)) n wk E bm bo f/\Ad Y Y' b a E) (by grind [Ad.refl]) ?_;rintro k _ N hk ⟨a1,C1,A1⟩;simp only[qz 7,au,aI,u0,u1,ix,rk,bh,↓uL];refine⟨λh=>?_,λh=>?_⟩;have l:=aL h;refine bsK (λg=>∀m O,bD m b w ns (out++(aH k).flatMap (bru ns w)++bru ns w k) n wk O bm bo f->Ad Y m b a O->g [] m) ?_ λg u=>?_;intro m O B H;simp only[qz 27,aI,au,cS,aY,↓uL];refine yU l ⟨O,?_,H⟩;grind [aNG];simp only[qz 29,qy 2,au,u0,u1,ix,rk,bh,↓uL];refine⟨dJ l,?_⟩;have l1:=fU (f:=bru ns w)<|show k+1<=L w.ac from l;rw[aNG,a6G] at l1;refine ic C1.le λv Y2 F2 N2 b2=>?_;refine cy (y:=7) (cs:=aP.c<|gd w.ac k) b2 rfl rfl (by decide) λD F3 b3=>?_;have al:box D (3,v)=V ⟨62,7,U,U,[aP.c<|gd w.ac k]⟩:=b3;have P:Fx N D []:=(F2.trans F3).mono (by grind [bK.no]);have A:=C1.fx P;have X:=A1.fxn P;simp only[qz 4,u0,u1,al,rk,aj,au,↓uL];refine⟨λh1=>?_,λh1=>?_⟩;refine u D a1 ?_ X;grind [bru];have bc:(gd w.ac k).kind=17:=(by simp_all);refine anB A (by omega) (dJ l) (by simp_all) (by omega) λv' az=>?_;simp only[qz 6,oJ,pG,aY,u0,u1,au,↓uL];refine⟨λh2=>?_,λh2=>?_⟩;refine u D a1 ?_ X;grind [bru];have an:(bh0 w k).2=U:=(by grind);obtain rfl:=az an;generalize bn:(bh0 w (k:Int)).1=i at*;have W:bru ns w k=(-lE ns k::gO ns (aR ns 5) i)::(aH<|L<|aR ns 5).flatMap (iO ns k i<|aR ns 5):=(by grind [bru]);rw[W,bZ] at l1;rw[W] at u;refine gq A q (M.ex _<|dJ l) ?_;simp only[qz 8,de q,aY,a5Y,bQ,↓uL];refine anC (d:=0) A q _ λt=>?_;simp only[qz 12,↓uL];have bl:L (gO ns (aR ns 5) i)<=1000:=(by grind [gO]);refine bsg (bA:=[-lE ns k].map ci) (.inl ⟨U,rfl⟩) rfl (by decide) (by rw[A.le];decide) fF fF (by grind) λx4 Y4 g4 F4 be=>?_;rw[<-dg] at g4;have R:Fx D Y4 []:=F4.mono (by simp[aA]);have C4:=A.fx R;simp only[qz 14,↓uL];refine Ea C4 (by grind) _ g4 (by simp;omega) (by grind [aA]) λa5 Y5 C5 A5=>?_;have T:=C5.bx;simp only[qz 16,aPF T,u0,u1,T,rkC,aj,lnI C5.gw,bJ,↓uL];have a7:Ad Y Y5 b a a5:=(X.fxn R).trans A5;rw[show[-lE ns k]++gO ns (aR ns 5) i= -lE ns k::gO ns (aR ns 5) i from rfl] at C5;refine yV (L<|aR ns 5) (λj _ Y'=>∃E,bD Y' b w ns (out++(aH k).flatMap (bru ns w)++[-lE ns k::gO ns (aR ns 5) i]++(aH j).flatMap (iO ns k i<|aR ns 5)) n wk E bm bo f/\Ad Y Y' b a E) (by grind) ?_;rintro j _ Y6 hj ⟨a6,C6,A6⟩;have l6:=fU (f:=iO ns k i<|aR ns 5) hj;simp only[qz 79,au,aI,u0,u1,↓uL];refine⟨λh3=>?_,λh3=>?_⟩;have o:=aL h3;refine bsK (λg=>∀x z,bD x b w ns (out++(aH k).flatMap (bru ns w)++[-lE ns k::gO ns (aR ns 5) i]++(aH j).flatMap (iO ns k i<|aR ns 5)++iO ns k i (aR ns 5) j) n wk z bm bo f->Ad Y x b a z->g [] x) ?_ λg s=>?_;intro x z C9 Z;simp only[qz 99,aI,au,cS,aY,↓uL];refine yU o ⟨z,?_,Z⟩;grind [aNG];simp only[qz 101,qy 18,au,u0,u1,↓uL];have G:=fU (f:=iO ns k i<|aR ns 5)<|show j+1<=L (aR ns 5) from o;rw[aNG,a6G] at G;obtain⟨o1,o2,o3⟩:=Wk.ok _<|ig o;have aw:gd (aR ns 5) j∈ns:=(jW.1<|ig o).1;rw[qB C6.gw o];refine ic C6.le λv7 Y7 F7 N7 d7=>?_;refine cy (cs:=aH8.c<|gd (aR ns 5) j) d7 rfl rfl (by decide) λm F8 d8=>?_;have F:box m (7,v7)=V ⟨107,3,U,U,[aH8.c<|gd (aR ns 5) j]⟩:=d8;have S:Fx Y6 m []:=(F7.trans F8).mono (by grind [bK.no]);have B:=C6.fx S;have H:=A6.fxn S;have aB:aN (V 3) (aH8.c<|gd (aR ns 5) j)=V (.a<|aH8.c<|gd (aR ns 5) j):=rfl;simp only[qz 20,u0,u1,F,rk,aj,au,↓uL];refine⟨λh4=>?_,λh4=>?_⟩;have bd:=qc h4;have av:iO ns k i (aR ns 5) j=[[-lE ns k,-dP ns (gd (aR ns 5) j),lB ns (gd (aR ns 5) j).a k]]:=(by grind [iO]);rw[av] at G s;simp only[bZ,aO1] at G;have ar:(gd (aR ns 5) j).a≠(k:Int):=(by intro e;simp_all [pN]);refine gq B q (M.ex _<|dJ l) ?_;simp only[qz 22,de q,aY,u0,u1,F,aB,aj,↓uL];refine lq B q aw ?_;simp only[qz 24,de q,aY,u0,u1,F,rk,aj,au,↓uL];refine kg B q (M.bf _ _ o1 (dJ l) ar) ?_;simp only[qz 26,xA,bQ,qz 28,↓uL];refine boV B (by grind) [_,_,_] (by simp) λz x C9 Z=>?_;simp only[qz 30,↓uL];refine dT ?_<|s x z C9<|H.trans Z;obtain⟨ba,bb⟩:=b;have:=C.sb;simp only at this;subst this;simp[eL,okT,tok,lb,cq,gz,dC,dK];refine s m a6 ?_ H;grind [iO];refine u Y6 a6 ?_ A6;grind;have ax:k=L w.ac:=(by grind);subst ax;exact⟨a1,rfl,C1,A1⟩
def alf{e:TypeId}{z by' d:Nat}{zs:List AV}{s x:AV}{c:TypeId}{bA:List (List AV)}(h:gA Y c z x bA):Gy e zs by' Y d s x=Gy e zs by' Y d s (.l bA U U):=by have:gL Y x=gL Y (.l bA U U):=(by rcases h with⟨o,rfl⟩|⟨k,rfl,g⟩;rfl;simp[gL,g]);unfold Gy;rw[this]
def alV{x y:aH8}:a6F .eql 2 [(0,0),(1,0),(2,0)] (.a<|aH8.c x) (.a<|aH8.c y)=V (bv<|Q<|x=y):=by obtain⟨a,b,c⟩:=x;obtain⟨e,g,h⟩:=y;by_cases i:a=e<;>by_cases j:b=g<;>by_cases k:c=h<;>simp[a6F,nW,sS,aH8.c,i,j,k]
def j8(w:am)(x y:aH8):Bool:=Q (y=x)||(Q (y.a=x.a)&&Q ((gd w.ac x.a.toNat).kind=18))
def eZ(x y:aH8):Bool:=Q (y.b=x.b)&&Q (y.a≠x.a)
def jd(ns:List aH8)(x:aH8):List Int:= -lE ns x.a::(if 0<=x.b then[-lE ns x.b,-lB ns x.b x.a] else[])
def kZ(ns:List aH8)(w:am)(l:List aH8)(x:aH8):List Int:=jd ns x++(l.filter<|j8 w x).map (dP ns)
def brU(ns:List aH8)(w:am)(l:List aH8)(x:aH8)(j:Nat):List (List Int):=[kZ ns w l x++[-dP ns (gd (l.filter<|eZ x) j),lB ns (gd (l.filter<|eZ x) j).a x.a]]
def qw(ns:List aH8)(w:am)(x:aH8):List (List Int):=(kZ ns w (aR ns 5) x++((aR ns 5).filter<|eZ x).map (dP ns))::(aH<|L<|(aR ns 5).filter<|eZ x).flatMap (brU ns w (aR ns 5) x)
def bc.t{e:TypeId}{z:Nat}{x:AV}{bA:List (List AV)}(h:bc Y e z x bA):gA Y e z x bA:=by rcases h with⟨rfl,rfl⟩|h;exact .inl ⟨U,rfl⟩;exact .inr h
theorem pH{α:Type}[Inhabited α]{p:α->Bool}{l:List α}{k:Nat}(h:k<L l):(l.take<|k+1).filter p=(l.take k).filter p++if p (gd l k)=U then[gd l k] else[]:=by grind [iJ,bT]
theorem aDx(C:bD Y b w ns out n wk a bm bo f)(M:jb w ns)(Wk:sE w ns)(hw:L w.ac<=16){x:aH8}(hx:x∈aR ns 5)(ho:L out+L (qw ns w x)<999999900):∃r1 Y1,mS Y b w ns out (qw ns w x) n wk a bm bo f r1 Y1/\cZ aS GG 166 [.p b 0 0, .a<|aH8.c x] Y r1 Y1:=by
 have A:=M.ln
 have dE:=Wk.ln
 obtain⟨x1,x2,x3⟩:=Wk.ok x hx
 refine aJ9 C.le rfl λP v3 K2 dH nf b3=>?_
 have F2:Fx Y P []:=K2.fx []
 have F:=C.fx F2
 simp only[buc,u0,u1,b3,rk,aj,↓uL]
 refine gq F A (M.ex _ x1) ?_
 simp only[qz 4,de A,aY,a5Y,bQ,qz 6,↓uL]
 refine bsh (λvs Y'=>∃y0,vs=[y0]/\gA Y' 3 1 y0 ((jd ns x).map ci)/\Fx P Y' []/\∀q∈aA y0,bK P q/\q.1=37) (λe hJ=>?_) ?_
 ·simp only[qz 17,u0,u1,b3,rk,aj,↓uL]
  refine⟨λh=>?_,λh=>hJ _ _ ⟨_,rfl, .inl ⟨U,by grind [jd]⟩,Fx.refl _ _,by simp[aA]⟩⟩
  have h0:=qc h
  obtain⟨bn,cr⟩:=x3 h0
  refine gq F A (M.ex _ bn) ?_
  simp only[qz 8,de A,aY,u0,u1,b3,rk,aj,↓uL]
  refine kg F A (M.bf _ _ bn x1 cr) ?_
  simp only[qz 10,qy 12,de A,aY,fi,bQ,↓uL]
  refine bsg (bA:=[-lE ns x.a].map ci) (.inl ⟨U,rfl⟩) rfl (by decide) (by rw[F.le];decide) fF fF (by simp) λy4 Y4 g4 F4 du=>?_
  rw[<-dg] at g4
  simp only[qz 14,↓uL]
  refine dT rfl (hJ _ _ ⟨y4,rfl,?_,F4.mono (by simp[aA]),λq m=>?_⟩)
  ·grind [jd]
  grind [aA]
 ·rintro vs Y1 ⟨y0,rfl,g0,F1,P0⟩
  have C1:=F.fx F1
  have ba:=C1.bx
  have dn:=F1.kq b3
  have cv:=C1.gw
  have aT:∀y∈aR ns 5,y∈ns:=λy hy=>(jW.1 hy).1
  simp only[qz 15,aI,au,aPF ba,u0,u1,ba,rkC,aj,lnI cv,bJ,↓uL]
  refine jD (α:=AV×AV) (λa i=>[a.1,a.2,iv i]) 2 (L<|aR ns 5) (λk a Y'=>gA Y' 3 1 a.1 ((jd ns x++(((aR ns 5).take k).filter<|j8 w x).map (dP ns)).map ci)/\bc Y' 107 3 a.2 ((((aR ns 5).take k).filter<|eZ x).map aH8.c)/\Fx P Y' []/\(∀q∈aA a.1,bK P q/\(q.1=37\/q.1=75))/\∀q∈aA a.2,bK P q/\q.1=91) (s0:=(y0, .l [] U U)) (by grind [bc.nil,aA]) ?_
  rintro k ⟨y,o⟩ Y2 hk ⟨gy,go,aw,Py,Po⟩
  simp only at gy go Py Po
  have C2:=F.fx aw
  simp only[qz 43,qy 30,au,ck,nr,aI,u0,u1,di,qz 65,qy 16,↓uL]
  refine⟨λh=>?_,λh=>?_⟩
  ·have H:=aL h
   rw[qB C2.gw H]
   refine ic C2.le λv7 Y3 F3 N3 d3=>?_
   refine cy (cs:=aH8.c<|gd (aR ns 5) k) d3 rfl rfl (by decide) λY4 F4 d4=>?_
   have be:box Y4 (7,v7)=V ⟨107,3,U,U,[aH8.c<|gd (aR ns 5) k]⟩:=d4
   have ax:Fx Y2 Y4 []:=(F3.trans F4).mono (by grind [bK.no])
   have ay:=aw.trans ax
   have C4:=F.fx ay
   have bb:=C4.bx
   have a7:=ay.kq b3
   have cB:aN (V 3) (aH8.c x)=V (.a<|aH8.c x):=rfl
   have br:aN (V 3) (aH8.c<|gd (aR ns 5) k)=V (.a<|aH8.c<|gd (aR ns 5) k):=rfl
   have bk:=gy.fx ax (by simp)
   have cj:=go.fx ax (by simp)
   have dz:L (jd ns x++(((aR ns 5).take k).filter<|j8 w x).map (dP ns))<=3+k:=by
    grind [jd]
   have dy:L (((aR ns 5).take k).filter<|eZ x)<=k:=by
    grind
   simp only[qz 18,di,↓uL]
   refine bsh (λvs Y'=>∃y',vs=[y']/\gA Y' 3 1 y' ((jd ns x++(((aR ns 5).take<|k+1).filter<|j8 w x).map (dP ns)).map ci)/\Fx Y4 Y' (aA y)/\∀q∈aA y',bK P q/\(q.1=37\/q.1=75)) (λe hJ=>?_) ?_
   ·simp+contextual only[qz 77,u0,u1,be,a7,cB,br,rk,ix,alV,aPF bb,bb,rkC,aj,au,ck,nr,↓uL]
    refine⟨λ_ _=>x1,λhb=>?_,λhb=>?_⟩
    ·refine lq C4 A (aT _<|ig H) ?_
     simp only[qz 20,qy 22,qy 24,a5Y,bQ,au,↓uL]
     refine bsg bk rfl (by decide) (by rw[C4.le];decide) fF fF (by grind) λy5 Y5 g5 F5 dv=>hJ _ _ ⟨y5,rfl,?_,F5,λq m=>?_⟩
     ·grind [pH,j8]
     grind [bK.old]
    ·refine hJ _ _ ⟨y,rfl,?_,Fx.refl _ _,Py⟩
     rw[pH H,dB (by grind [j8]),cL]
     exact bk
   ·rintro vs Y5 ⟨y',rfl,bl,F5,aD⟩
    have aV:∀{q:Id},q.1≠37->q.1≠75->q∉aA y:=(by grind)
    have d5:=F5.keep _ _ (aV (by simp)<|by simp) be
    have cc:=F5.keep _ _ (aV (by simp)<|by simp) a7
    have cl:=cj.fx F5 (λq m=>aV (by rw[(Po q m).2];decide)<|by rw[(Po q m).2];decide)
    have az:Fx P Y5 []:=(ay.trans F5).mono (by grind [bK.no])
    simp+contextual only[qz 75,qy 26,qy 28,aI,u0,u1,d5,cc,br,rk,aj,au,ck,nr,Db,bQ,↓uL]
    have dt:(Q ((gd (aR ns 5) k).b=x.b)&&Q ((gd (aR ns 5) k).a≠x.a))=eZ x (gd (aR ns 5) k):=rfl
    refine⟨λhb=>?_,λhb=>?_⟩
    ·refine gD cl rfl (by decide) (by rw[az.len,F.le];decide) uT uT (by grind) λo6 Y6 g6 F6 dw dD=>?_
     simp only[qz 63,aI,au,ck,nr,cS,aY,↓uL]
     refine dR (p:=2) (mk:=λ(a:AV×AV) i=>[a.1,a.2,iv i]) (s:=(y,o)) (s':=(y',o6)) (λ_ _=>rfl) H (by omega) ⟨bl.fx F6 λq m N=>?_,?_,(az.trans F6).mono (by grind [bK.no]),aD,λq m=>?_⟩
     ·have h1:=(Po q N).2
      rcases(aD q m).2 with h2|h2<;>(omega)
     ·grind [pH]
     grind [bK.old]
    ·simp only[qz 63,aI,au,ck,nr,cS,aY,↓uL]
     refine dR (p:=2) (mk:=λ(a:AV×AV) i=>[a.1,a.2,iv i]) (s:=(y,o)) (s':=(y',o)) (λ_ _=>rfl) H (by omega) ⟨bl,?_,az,aD,Po⟩
     grind [pH]
  ·have cx:k=L (aR ns 5):=(by grind)
   subst cx
   rw[gV] at gy go
   rw[show jd ns x++((aR ns 5).filter<|j8 w x).map (dP ns)=kZ ns w (aR ns 5) x from rfl] at gy
   have bL:∀v∈(aR ns 5).filter (eZ x),v∈aR ns 5/\eZ x v=U:=(by simp)
   have dr:L (kZ ns w (aR ns 5) x)<=1003:=by
    grind [jd,kZ]
   have ds:L ((aR ns 5).filter<|eZ x)<=1000:=by
    grind
   have cu:qw ns w x=(kZ ns w (aR ns 5) x++((aR ns 5).filter<|eZ x).map (dP ns))::(aH<|L<|(aR ns 5).filter<|eZ x).flatMap (brU ns w (aR ns 5) x):=rfl
   have ct:∀j,brU ns w (aR ns 5) x j=[kZ ns w (aR ns 5) x++[-dP ns (gd ((aR ns 5).filter<|eZ x) j),lB ns (gd ((aR ns 5).filter<|eZ x) j).a x.a]]:=λ_=>rfl
   rw[cu,bZ] at ho
   generalize hL:kZ ns w (aR ns 5) x=Lw at*
   generalize hO:(aR ns 5).filter (eZ x)=O at*
   simp only[nS,bQ]
   rw[alf gy]
   refine bsg (bA:=[]) (.inl ⟨U,rfl⟩) rfl (by decide) (by rw[C2.le];decide) (by simp) fF (by simp;omega) λz7 Y7 g7 F7 dx=>?_
   rw[dW] at g7
   have a6:Fx Y2 Y7 []:=F7.mono (by simp[aA])
   simp only[qz 32,au,ck,u0,lnI<|go.fx a6<|by simp,bJ,↓uL]
   refine jD (α:=AV) (λa i=>[a,iv i]) 1 (L O) (λj z Y'=>gA Y' 3 1 z ((Lw++(O.take j).map (dP ns)).map ci)/\Fx Y2 Y' []/\∀q∈aA z,bK Y2 q/\(q.1=95\/q.1=107)) (s0:=z7) ⟨by simpa using g7,a6,by grind [aA]⟩ ?_
   rintro j z Y8 hj ⟨g8,F8,P8⟩
   have C8:=C2.fx F8
   have cm:=go.fx F8 (by simp)
   simp only[qz 109,qy 34,au,ck,aI,u0,u1,↓uL]
   refine⟨λh2=>?_,λh2=>?_⟩
   ·have bq:=aL h2
    rw[qB cm bq]
    refine ic C8.le λcC Y9 F9 N9 d9=>?_
    refine cy (cs:=aH8.c<|gd O j) d9 rfl rfl (by decide) λad bV ce=>?_
    have bB:box ad (10,cC)=V ⟨107,3,U,U,[aH8.c<|gd O j]⟩:=ce
    have aB:Fx Y8 ad []:=(F9.trans bV).mono (by grind [bK.no])
    have R:=F8.trans aB
    have aX:aN (V 3) (aH8.c<|gd O j)=V (.a<|aH8.c<|gd O j):=rfl
    simp only[qz 36,u0,u1,bB,aX,↓uL]
    refine lq (C2.fx R) A (by grind [ig]) ?_
    simp only[qz 38,qy 40,a5Y,bQ,au,↓uL]
    refine bsg (g8.fx aB<|by simp) rfl (by decide) (by rw[R.len,C2.le];decide) fF fF (by simp;omega) λcG b2 dp av bH=>?_
    simp only[qz 42,au,ck,cS,aY,↓uL]
    refine dR (p:=1) (mk:=λa i=>[a,iv i]) (s:=z) (s':=cG) (λ_ _=>rfl) bq (by omega) ⟨?_,(R.trans av).mono (by grind [bK.no]),λq m=>?_⟩
    ·grind [iJ,bT]
    ·rcases bH q m with h|h
     ·exact P8 q h
     grind [bK.old]
   ·have aQ:j=L O:=(by grind)
    subst aQ
    rw[gV] at g8
    have cn:=gy.fx F8 (by simp)
    refine Ea C8 (by omega) _ g8 (by simp;omega) (by grind) λa9 Y9 C9 A9=>?_
    have bM:∀q∈aA y,q.1≠18:=(by grind)
    have bp:∀{r:ae},gA r 3 1 y (Lw.map ci)->∀q∈aA y,∃bx,box r q=V bx/\bx.elem≠38:=by
     intro r g q m
     rcases g with⟨o',rfl⟩|⟨k',rfl,hb⟩
     ·simp[aA] at m
     grind [aA]
    have E:∀{r S:ae} {T ab:AV} {oo:List (List Int)},bD r b w ns oo n wk T bm bo f->Ad r S b T ab->gA r 3 1 y (Lw.map ci)->gA S 3 1 y (Lw.map ci):=by
     intro r S T ab oo Ca Aa g
     refine g.fx Aa.fx λq m N=>?_
     rcases eW.1 N with h|h
     ·grind [bD.sb]
     ·obtain⟨bx,h1,h2⟩:=bp g q m
      grind [bD.ne]
    have D:∀{r S:ae} {T ab:AV} {oo:List (List Int)},bD r b w ns oo n wk T bm bo f->Ad r S b T ab->bc r 107 3 o (O.map aH8.c)->bc S 107 3 o (O.map aH8.c):=by
     intro r S T ab oo Ca Aa g
     refine g.fx Aa.fx λq m N=>?_
     rcases eW.1 N with h|h
     ·grind [bD.sb]
     ·exact Ca.ne (g.ids q m) (.inr<|by simp) h
    have aP:((3,v3):Id)≠b:=by grind
    have a8:=F8.kq<|aw.kq b3
    have cd:=A9.keep a8 aP<|C8.ne a8<|.inl rfl
    have bO:Ad Y Y9 b a a9:=(by grind [Ad.pre])
    have bj:=D C8 A9 (go.fx F8<|by simp)
    have co:=E C8 A9 cn
    simp only[qz 44,au,ck,u0,lnI bj,bJ,↓uL]
    refine yV (L O) (λj _ Y'=>∃a',bD Y' b w ns (out++[Lw++O.map (dP ns)]++(aH j).flatMap (brU ns w (aR ns 5) x)) n wk a' bm bo f/\Ad Y Y' b a a'/\gA Y' 3 1 y (Lw.map ci)/\bc Y' 107 3 o (O.map aH8.c)/\box Y' (3,v3)=V ⟨107,3,U,U,[aH8.c x]⟩) ⟨a9,by simpa using C9,bO,co,bj,cd⟩ ?_
    rintro j _ ad hj ⟨b9,a5,a4,aK,aJ,aF⟩
    have dG:=fU (f:=brU ns w (aR ns 5) x) hj
    simp only[qz 151,qy 46,au,ck,aI,u0,u1,↓uL]
    refine⟨λh3=>?_,λh3=>?_⟩
    ·have af:=aL h3
     obtain⟨m1,m2⟩:=bL _<|ig af
     obtain⟨o1,o2,o3⟩:=Wk.ok _ m1
     have cz:(gd O j).a≠x.a:=by
      grind [eZ]
     have aU:=fU (f:=brU ns w (aR ns 5) x)<|show j+1<=L O from af
     rw[aNG,a6G,ct] at aU
     simp only[bZ,aO1] at aU
     rw[qB aJ af]
     refine ic a5.le λcD b2 av dh cf=>?_
     refine cy (cs:=aH8.c<|gd O j) cf rfl rfl (by decide) λG bW cg=>?_
     have bC:box G (12,cD)=V ⟨107,3,U,U,[aH8.c<|gd O j]⟩:=cg
     have t:Fx ad G []:=(av.trans bW).mono (by grind [bK.no])
     have ap:=a5.fx t
     have bG:=aK.fx t (by simp)
     have aX:aN (V 3) (aH8.c<|gd O j)=V (.a<|aH8.c<|gd O j):=rfl
     simp only[qz 48,qy 50,nS,bQ,au,↓uL]
     rw[alf bG]
     refine bsg (bA:=[]) (.inl ⟨U,rfl⟩) rfl (by decide) (by rw[ap.le];decide) (by simp) fF (by simp;omega) λcH b4 bg bX c2=>?_
     rw[dW] at bg
     have B:Fx G b4 []:=bX.mono (by simp[aA])
     have aq:=ap.fx B
     have bd:=B.kq bC
     have bz:=B.kq<|t.kq aF
     simp only[qz 52,u0,u1,bd,aX,↓uL]
     refine lq aq A (aT _ m1) ?_
     simp only[qz 54,de A,aY,u0,u1,bd,bz,rk,aj,↓uL]
     refine kg aq A (M.bf _ _ o1 x1 cz) ?_
     simp only[qz 56,qy 58,fi,bQ,↓uL]
     refine bsg bg rfl (by decide) (by rw[aq.le];decide) fF fF (by simp;omega) λdI b5 bi bY bI=>?_
     rw[<-dg] at bi
     have dj:∀q∈aA cH,bK G q/\q.1=120:=(by grind [aA])
     have Z:Fx G b5 []:=(B.trans bY).mono (by grind [bK.no])
     have X:=ap.fx Z
     have u:=t.trans Z
     simp only[qz 60,↓uL]
     refine Ea X (by grind [a6G,bZ,aO1]) _ bi (by simp;omega) (λq m=>by
      rcases bI q m with h|h
      ·grind
      omega) λca dk dd W=>?_
     simp only[qz 62,↓uL]
     refine dT ?_ ?_
     ·have:=C.sb
      clear aP bM E D bp
      obtain⟨dl,dm⟩:=b
      simp only at this
      subst this
      simp[eL,okT,tok,lb,cq,gz,dC,dK]
     ·have aG:=u.kq aF
      simp only[au,cS,aY,↓uL]
      refine dR (p:=0) (mk:=λ_ i=>[iv i]) (s:=()) (s':=()) (λ_ _=>rfl) af (by omega) ⟨ca,?_,(a4.fxn u).trans W,E X W<|aK.fx u<|by simp,D X W<|aJ.fx u<|by simp,W.keep aG aP<|X.ne aG<|.inl rfl⟩
      grind [aNG]
    ·have aQ:j=L O:=(by grind)
     subst aQ
     simp only[aNN,aoz]
     refine⟨b9,rfl,?_,a4⟩
     grind
end
def apw:dO:=apv
def wS:eJ apw:=tB
def amn:=@aBo
def asW:=I5 44 [(2,([19],[0,17,18])),(5,([],[0,17,18,19])),(12,([67],[0,65,66])),(18,([80],[0,5,65,66,67,78,79])),(21,([],[0,5,65,66,67,78,79,80])),(26,([107],[0,105,106])),(32,([120],[0,9,105,106,107,118,119])),(35,([],[0,9,105,106,107,118,119,120])),(39,([160],[0,158,159]))]
def Hy a s0 R:=(.mk _:NS apw asW Tryz.f87 [a] [] s0 R).p
theorem aKn{a:AV}{s0:ae}{R:be}(hs:L s0=4096)(h:Hy a s0 R):EB 87 [a] s0 R:=zB asW wS Tryz.func87 h
def asL:=I5 18 [(1,([10],[0,1,8,9])),(7,([20],[0,1,5,8,9,10,18,19])),(10,([],[0,1,5,8,9,10,18,19,20]))]
def Hh a a1 s0 R:=(.mk _:NS apw asL Tryz.f84 [a,a1] [] s0 R).p
def aKc{a a1:AV}{s0:ae}{R:be}(hs:L s0=4096)(h:Hh a a1 s0 R):EB 84 [a,a1] s0 R:=zB asL wS Tryz.func84 h
def as7:=I5 27 [(1,([16],[0,14,15])),(4,([],[0,14,15,16])),(13,([4,5,44],[0,2,14,15,16,42,43])),(16,([4,5],[0,2,14,15,16,42,43,44])),(22,([73],[0,14,15,16,71,72]))]
def HS a s0 R:=(.mk _:NS apw as7 Tryz.f89 [a] [] s0 R).p
def aKy{a:AV}{s0:ae}{R:be}(hs:L s0=4096)(h:HS a s0 R):EB 89 [a] s0 R:=zB as7 wS Tryz.func89 h
def asP:=I5 11 [(4,([27],[2,3,25,26])),(7,([],[2,3,25,26,27]))]
def Hm a s0 R:=(.mk _:NS apw asP Tryz.f41 [a] [] s0 R).p
def aKg{a:AV}{s0:ae}{R:be}(hs:L s0=4096)(h:Hm a s0 R):EB 41 [a] s0 R:=zB asP wS Tryz.func41 h
end Go.Ab
