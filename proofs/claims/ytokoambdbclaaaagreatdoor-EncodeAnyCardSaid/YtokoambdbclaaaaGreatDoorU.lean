/- Part of the proof of EncodeAny, made short by a program: Notif Base CPQ LPR CPR LR CR LLV CLV LLW CLW LLX CLX LLY CLY LLZ CLZ. -/
import Derived.Test.YtokoambdbclaaaaGreatDoorT
set_option linter.all false
set_option maxRecDepth 100000
open And renaming intro->ai
open Bool renaming and_eq_true->bN,eq_false_or_eq_true->sq,false->I,false_eq_true->eE,not_eq_false'->fK,not_eq_true'->eH,not_false->kN,not_true->fh,or_eq_false_iff->cP,true->U,true_and->iw
open Decidable renaming decide->Q
open Go.IntKind renaming i64->dq
open Go.Proofs.Tryz renaming prog->aS
open Int renaming ofNat_lt->RF,toNat_natCast->bh
open List renaming append_assoc->cC,append_nil->cL,drop->rz,drop_succ_cons->nM,drop_zero->ip,filter_congr->aqJ,length->L,length_append->bq,length_cons->bZ,length_filter_le->fZ,length_map->bJ,length_nil->bO,length_range->sz,length_replicate->oA,length_take->gC,map_append->dg,mem_append->dF,mem_cons->eW,mem_map->dN,mem_range->fq,mem_singleton->cE,nil_append->dW,not_mem_nil->ql,range->aH,range_succ->qn,replicate->er,take_length->gV,take_of_length_le->oB
open Nat renaming eq_zero_or_pos->oD,le_antisymm->bP,le_refl->dA,le_trans->gl,reduceAdd->dc,zero_add->aj
open Option renaming none->J,some->V
namespace Go.Ab
open Go Go.RowKit Go.Proofs
def nT(ns:List ap)(w:am)(l:List ap)(x:ap):List (List Int):=(kZ ns w l x++(l.filter (eZ x)).map (dP ns))::(aH (L (l.filter (eZ x)))).flatMap (pB ns w l x)
def ng(ns:List ap)(w:am)(l:List ap)(k:Nat):List (List Int):=
 if(gd w.ac k).kind=17/\(e9 w k).2=U then(-lE ns k::gO ns l (e9 w k).1)::(aH (L l)).flatMap (iO ns k (e9 w k).1 l) else[]
def sN(ns:List ap)(w:am)(l:List ap):List (List Int):=((aH (L l)).flatMap λk=>iW ns (gd l k))++((aH (L l)).flatMap (lP ns l)++((aH (L l)).flatMap (lQ ns w l)++(((aH (L l)).flatMap λk=>nT ns w l (gd l k))++(aH (L w.ac)).flatMap (ng ns w l))))
theorem KT{α β:Type}[Inhabited α]{p:α->Bool}{g:α->β}{l:List α}:∀{k:Nat},k<=L l->(aH k).flatMap (λj=>if p (gd l j)=U then[g (gd l j)] else[])=((l.take k).filter p).map g
 |0,_=>by simp
 |k+1,h=>by
  rw[cr,KT (by omega),pH (by omega),dg]
  congr 1
  split<;>rfl
theorem aHX{α β:Type}[Inhabited α]{g:α->β}{l:List α}:(aH (L l)).flatMap (λj=>[g (gd l j)])=l.map g:=by have h:=KT (p:=λ_=>U) (g:=g) (l:=l) (dA _);simp only[if_true,gV] at h;rw[h,List.filter_eq_self.2 (λ_ _=>rfl)]
def ue(ns:List ap)(w:am)(l:List ap)(x:ap)(j:Nat):List (List Int):=if eZ x (gd l j)=U then[kZ ns w l x++[-dP ns (gd l j),lB ns (gd l j).a x.a]] else[]
theorem axi{ns:List ap}{w:am}{l:List ap}{x:ap}:(aH (L l)).flatMap (ue ns w l x)=(aH (L (l.filter (eZ x)))).flatMap (pB ns w l x):=by have c:=KT (p:=eZ x) (g:=λy=>kZ ns w l x++[-dP ns y,lB ns y.a x.a]) (l:=l) (dA _);have e:=aHX (g:=λy=>kZ ns w l x++[-dP ns y,lB ns y.a x.a]) (l:=l.filter (eZ x));rw[gV] at c;exact c.trans e.symm
theorem alM{ns:List ap}{w:am}{l:List ap}{x:ap}:L (nT ns w l x)<=L l+1:=by unfold nT;rw[bZ];have h:=eU (f:=pB ns w l x) (c:=1) (λj=>by simp[pB]) (L (l.filter (eZ x)));have:=fZ (eZ x) l;omega
section
variable{Y:ae}{b:Id}{w:am}{ns:List ap}{out:List (List Int)}{n a:AV}{d:Nat}{K:be}
theorem slV{l:List ap}{i:Int}{K:bd}{t o:Bool}:rV (fo 3 Y (.l (l.map ap.c) t o) (V (iv i)) J J) K=((0<=i/\i<=L l)/\K (.l ((l.drop i.toNat).map ap.c) t o)):=slT λ_=>rfl
theorem tj{x:ap}:ef (V 3) Y (.q (ap.c x))=V (.a (ap.c x)):=rfl
theorem aCC(B:cm Y b w ns out n a)(D:L ns<100000)(W:WV w)(hV:∀x∈aR ns 5,aF (L w.ac) x.a/\(0<=x.b->aF (L w.ac) x.b))(e8:L (aR ns 5)<=400)(ho:L out<100000000):∃r Y1,sj Y b w ns out (sN ns w (aR ns 5)) n a r Y1/\cZ aS GG DM [.p b 0 0] Y r Y1:=by
 refine aMr B.le ?_
 have nb:∀{k v:Nat},k≠sB->(k,v)≠b:=λ{k v} h e=>h (by have:=B.sb;rw[<-e] at this;exact this)
 simp only[Jx,↓uL]
 refine De B D 5 λt=>?_
 have e7:L (aR ns 5)<=L ns:=fZ _ _
 generalize dm:aR ns 5=l at*
 simp only[ah9,gT,u0,↓uL]
 refine yV (L l) (λk _ m=>∃u,cm m b w ns (out++(aH k).flatMap λk=>iW ns (gd l k)) n u/\Ad Y m b a u) ⟨a,by simpa using B,Ad.refl _ _ _⟩ ?_
 rintro i _ Y1 hi ⟨a1,B1,A1⟩
 have m1:=eU (f:=λk=>iW ns (gd l k)) (c:=3) (λk=>by unfold iW;split<;>simp) i
 simp+contextual only[ait,au,aI,u0,u1,gT,↓uL]
 refine⟨λh=>?_,λh=>?_⟩
 ·have T:=aL h
  refine mG (λvs m=>vs=[]/\∃u,cm m b w ns (out++((aH i).flatMap λk=>iW ns (gd l k))++iW ns (gd l i)) n u/\Ad Y m b a u) (λg hJ=>?_) ?_
  ·simp only[aim,au,lX,u0,u1,tj,bh,↓uL]
   refine⟨dJ T,?_⟩
   generalize gd l i=x at*
   refine cV B1.le λv2 Y2 F2 N2 b2=>?_
   refine cy (cs:=ap.c x) b2 rfl rfl (by decide) λY3 F3 b3=>?_
   have bG:box Y3 (4,v2)=V ⟨66,3,U,U,[ap.c x]⟩:=b3
   have c1:Fx Y1 Y3 []:=F2.tn F3 N2.no
   have B3:=B1.kp c1
   have A3:=A1.fxn c1
   simp only[aid,u0,u1,bG,rk,aj,↓uL]
   refine nc (d:=0) B3 D _ _ _ ?_
   simp only[aic,de D,u0,u1,bG,rk,aj,↓uL]
   refine ig (d:=0) B3 D _ ?_
   simp only[aib,fi,bQ,aia,↓uL]
   refine fQ B3 (by simp only[bq];omega) [_,_] λa4 H R A4=>?_
   have b4:=A4.keep bG (nb (by decide)) (B3.nv bG (.inl rfl))
   simp+contextual only[ah6,de D,u0,u1,b4,rk,aj,↓uL]
   refine⟨λhb=>?_,λhb=>hJ [] H ⟨rfl,a4,?_,A3.trans A4⟩⟩
   ·refine ig (d:=0) R D _ ?_
    simp only[ahV,fi,bQ,ahK,↓uL]
    refine fQ R (by simp only[bq,bZ,bO];omega) [_,_] λa5 Y5 O A5=>?_
    have b5:=A5.keep b4 (nb (by decide)) (R.nv b4 (.inl rfl))
    simp only[ahB,de D,u0,u1,b5,rk,aj,↓uL]
    refine kV (d:=0) O D _ _ ?_
    simp only[ahq,fi,bQ,↓uL]
    refine fQ O (by simp only[bq,bZ,bO];omega) [_,_] λa6 Y6 B6 A6=>hJ [] Y6 ⟨rfl,a6,?_,((A3.trans A4).trans A5).trans A6⟩
    rw[iW,if_pos (of_decide_eq_true hb)]
    simpa using B6
   ·rw[iW,if_neg (of_decide_eq_false hb),cL]
    exact R
  ·rintro vs m ⟨rfl,u,B',A'⟩
   simp only[aih,au,aI,u0,u1,↓uL]
   refine yU T ⟨u,?_,A'⟩
   rw[cr,<-cC]
   exact B'
 rw[bP hi (bw h)] at B1 m1
 generalize dh:out++((aH (L l)).flatMap λk=>iW ns (gd l k))=O1 at B1
 have o1:L O1<=L out+L l*3:=by rw[<-dh,bq];omega
 clear hi h i
 refine yV (L l) (λk _ m=>∃u,cm m b w ns (O1++(aH k).flatMap (lP ns l)) n u/\Ad Y m b a u) ⟨a1,by simpa using B1,A1⟩ ?_
 rintro i _ Y2 hi ⟨a2,B2,A2⟩
 have m2:=eU (f:=lP ns l) (c:=400) (λk=>gl (eU (f:=λj=>ju ns (gd l k) (gd (l.drop (k+1)) j)) (c:=1) (λj=>by unfold ju;split<;>simp) _) (by simp;omega)) i
 simp+contextual only[aiq,au,aI,u0,u1,lX,tj,bh,gT,↓uL]
 refine⟨λh=>⟨bA h,?_⟩,λh=>?_⟩
 ·have T:=aL h
  refine cV B2.le λv3 Y3 F3 N3 b3=>?_
  refine cy (cs:=ap.c (gd l i)) b3 rfl rfl (by decide) λH F4 b4=>?_
  have ae:box H (7,v3)=V ⟨66,3,U,U,[ap.c (gd l i)]⟩:=b4
  have ao:Fx Y2 H []:=F3.tn F4 N3.no
  have R:=B2.kp ao
  simp only[ahw,au,u0,u1,slV,gT,↓uL]
  rw[fX (by omega)]
  refine⟨⟨by omega,by omega⟩,?_⟩
  simp only[bh]
  have bz:lP ns l i=(aH (L (l.drop (i+1)))).flatMap λj=>ju ns (gd l i) (gd (l.drop (i+1)) j):=rfl
  have en:L (l.drop (i+1))<=L l:=by simp
  generalize l.drop (i+1)=q at*
  refine yV (L q) (λj _ m=>∃u,cm m b w ns (O1++(aH i).flatMap (lP ns l)++(aH j).flatMap λj=>ju ns (gd l i) (gd q j)) n u/\Ad Y m b a u/\box m (7,v3)=V ⟨66,3,U,U,[ap.c (gd l i)]⟩) ⟨a2,by simpa using R,A2.fxn ao,ae⟩ ?_
  rintro j _ Y5 hj ⟨a5,O,A5,b5⟩
  have m5:=eU (f:=λj=>ju ns (gd l i) (gd q j)) (c:=1) (λj=>by unfold ju;split<;>simp) j
  simp+contextual only[air,au,aI,u0,u1,↓uL]
  refine⟨λh5=>?_,λh5=>?_⟩
  ·refine mG (λvs m=>vs=[]/\∃u,cm m b w ns (O1++(aH i).flatMap (lP ns l)++((aH j).flatMap λj=>ju ns (gd l i) (gd q j))++ju ns (gd l i) (gd q j)) n u/\Ad Y m b a u/\box m (7,v3)=V ⟨66,3,U,U,[ap.c (gd l i)]⟩) (λg hJ=>?_) ?_
   ·simp only[aii,au,lX,u0,u1,tj,bh,↓uL]
    refine⟨bA h5,?_⟩
    generalize gd q j=y at*
    generalize gd l i=x at*
    refine cV O.le λv6 Y6 F6 N6 b6=>?_
    refine cy (cs:=ap.c y) b6 rfl rfl (by decide) λS F7 b7=>?_
    have av:box S (9,v6)=V ⟨66,3,U,U,[ap.c y]⟩:=b7
    have aB:Fx Y5 S []:=F6.tn F7 N6.no
    have G:=O.kp aB
    have A7:=A5.fxn aB
    have P:=aB.kq b5
    simp+contextual only[ahv,u0,u1,P,av,rk,aj,↓uL]
    refine⟨λhc=>?_,λhc=>hJ [] S ⟨rfl,a5,?_,A7,P⟩⟩
    ·refine nc (d:=0) G D _ _ _ ?_
     simp only[ahu,de D,u0,u1,av,rk,aj,↓uL]
     refine nc (d:=0) G D _ _ _ ?_
     simp only[aht,de D,aY,fi,bQ,ahs,↓uL]
     refine fQ G (by simp only[bq];omega) [_,_] λa8 Y8 B8 A8=>?_
     simp only[ahr,↓uL]
     refine dT (by simp[eL,lb,cq,cD,dC,dK]) (hJ [] Y8 ⟨rfl,a8,?_,A7.trans A8,A8.keep P (nb (by decide)) (G.nv P (.inl rfl))⟩)
     rw[ju,if_pos (of_decide_eq_true hc)]
     exact B8
    ·rw[ju,if_neg (of_decide_eq_false hc),cL]
     exact G
   ·rintro vs m ⟨rfl,u,B',A',b'⟩
    simp only[aie,au,aI,u0,u1,↓uL]
    refine yU (aL h5) ⟨u,?_,A',b'⟩
    rw[cr,<-cC]
    exact B'
  ·refine yU T ⟨a5,?_,A5⟩
   rw[cr,<-cC,bz]
   rw[bP hj (bw h5)] at O
   exact O
 rw[bP hi (bw h)] at B2 m2
 generalize dj:O1++(aH (L l)).flatMap (lP ns l)=O2 at B2
 have o2:L O2<=L O1+L l*400:=by rw[<-dj,bq];omega
 clear hi h i
 refine yV (L l) (λk _ m=>∃u,cm m b w ns (O2++(aH k).flatMap (lQ ns w l)) n u/\Ad Y m b a u) ⟨a2,by simpa using B2,A2⟩ ?_
 rintro i _ Y2 hi ⟨a3,ba,cX⟩
 have m3:=eU (f:=lQ ns w l) (c:=400) (λk=>gl (eU (f:=λj=>jk ns w (gd l k) (gd (l.drop (k+1)) j)) (c:=1) (λj=>by unfold jk;split<;>simp) _) (by simp;omega)) i
 simp+contextual only[ais,au,aI,u0,u1,lX,tj,bh,gT,↓uL]
 refine⟨λh=>⟨bA h,?_⟩,λh=>?_⟩
 ·have T:=aL h
  refine cV ba.le λv3 Y3 F3 N3 b3=>?_
  refine cy (cs:=ap.c (gd l i)) b3 rfl rfl (by decide) λH F4 b4=>?_
  have ae:box H (11,v3)=V ⟨66,3,U,U,[ap.c (gd l i)]⟩:=b4
  have ao:Fx Y2 H []:=F3.tn F4 N3.no
  have R:=ba.kp ao
  simp only[ahC,au,u0,u1,slV,gT,↓uL]
  rw[fX (by omega)]
  refine⟨⟨by omega,by omega⟩,?_⟩
  simp only[bh]
  have bz:lQ ns w l i=(aH (L (l.drop (i+1)))).flatMap λj=>jk ns w (gd l i) (gd (l.drop (i+1)) j):=rfl
  have en:L (l.drop (i+1))<=L l:=by simp
  generalize l.drop (i+1)=q at*
  refine yV (L q) (λj _ m=>∃u,cm m b w ns (O2++(aH i).flatMap (lQ ns w l)++(aH j).flatMap λj=>jk ns w (gd l i) (gd q j)) n u/\Ad Y m b a u/\box m (11,v3)=V ⟨66,3,U,U,[ap.c (gd l i)]⟩) ⟨a3,by simpa using R,cX.fxn ao,ae⟩ ?_
  rintro j _ Y5 hj ⟨a5,O,A5,b5⟩
  have m5:=eU (f:=λj=>jk ns w (gd l i) (gd q j)) (c:=1) (λj=>by unfold jk;split<;>simp) j
  simp+contextual only[aiu,au,aI,u0,u1,↓uL]
  refine⟨λh5=>?_,λh5=>?_⟩
  ·refine mG (λvs m=>vs=[]/\∃u,cm m b w ns (O2++(aH i).flatMap (lQ ns w l)++((aH j).flatMap λj=>jk ns w (gd l i) (gd q j))++jk ns w (gd l i) (gd q j)) n u/\Ad Y m b a u/\box m (11,v3)=V ⟨66,3,U,U,[ap.c (gd l i)]⟩) (λg hJ=>?_) ?_
   ·simp only[aij,au,lX,u0,u1,tj,bh,↓uL]
    refine⟨bA h5,?_⟩
    generalize gd q j=y at*
    have cF:=(hV (gd l i) (dB T)).1
    generalize gd l i=x at*
    refine cV O.le λv6 Y6 F6 N6 b6=>?_
    refine cy (cs:=ap.c y) b6 rfl rfl (by decide) λS F7 b7=>?_
    have av:box S (13,v6)=V ⟨66,3,U,U,[ap.c y]⟩:=b7
    have aB:Fx Y5 S []:=F6.tn F7 N6.no
    have G:=O.kp aB
    have A7:=A5.fxn aB
    have P:=aB.kq b5
    have bf:=G.bx
    have ew:=dy (i:=0) (j:=0) bf
    rcases sq (Q (x.a=y.a)) with bg|bg
    ·simp+contextual only[Jy,u0,u1,P,av,rk,aj,bg,jA,qE,uO,cond_true,ew,bf,kn,ix,↓uL]
     refine⟨cF,λhc=>?_,λhc=>hJ [] S ⟨rfl,a5,?_,A7,P⟩⟩
     ·refine nc (d:=0) G D _ _ _ ?_
      simp only[ahA,de D,u0,u1,av,rk,aj,↓uL]
      refine nc (d:=0) G D _ _ _ ?_
      simp only[ahz,de D,aY,fi,bQ,ahy,↓uL]
      refine fQ G (by simp only[bq];omega) [_,_] λa8 Y8 B8 A8=>?_
      simp only[ahx,↓uL]
      refine dT (by simp[eL,lb,cq,cD,dC,dK]) (hJ [] Y8 ⟨rfl,a8,?_,A7.trans A8,A8.keep P (nb (by decide)) (G.nv P (.inl rfl))⟩)
      rw[jk,if_pos ⟨of_decide_eq_true bg,of_decide_eq_true hc⟩]
      exact B8
     ·rw[jk,if_neg (λF=>of_decide_eq_false hc F.2),cL]
      exact G
    ·simp+contextual only[Jy,u0,u1,P,av,rk,aj,bg,jN,xM,uO,cond_false,↓uL]
     refine⟨λh=>(nomatch h),λ_=>hJ [] S ⟨rfl,a5,?_,A7,P⟩⟩
     rw[jk,if_neg (λF=>of_decide_eq_false bg F.1),cL]
     exact G
   ·rintro vs m ⟨rfl,u,B',A',b'⟩
    simp only[aif,au,aI,u0,u1,↓uL]
    refine yU (aL h5) ⟨u,?_,A',b'⟩
    rw[cr,<-cC]
    exact B'
  ·refine yU T ⟨a5,?_,A5⟩
   rw[cr,<-cC,bz]
   rw[bP hj (bw h5)] at O
   exact O
 rw[bP hi (bw h)] at ba m3
 generalize dk:O2++(aH (L l)).flatMap (lQ ns w l)=O3 at ba
 have o3:L O3<=L O2+L l*400:=by rw[<-dk,bq];omega
 clear hi h i
 refine yV (L l) (λk _ m=>∃u,cm m b w ns (O3++(aH k).flatMap λk=>nT ns w l (gd l k)) n u/\Ad Y m b a u) ⟨a3,by simpa using ba,cX⟩ ?_
 rintro i _ Y2 hi ⟨a4,aO,cY⟩
 have m4:=eU (f:=λk=>nT ns w l (gd l k)) (c:=401) (λk=>by have:=alM (ns:=ns) (w:=w) (l:=l) (x:=gd l k);omega) i
 simp+contextual only[aiv,au,aI,u0,u1,lX,tj,bh,gT,↓uL]
 refine⟨λh=>⟨bA h,?_⟩,λh=>?_⟩
 ·have T:=aL h
  refine cV aO.le λv3 Y3 F3 N3 b3=>?_
  refine cy (cs:=ap.c (gd l i)) b3 rfl rfl (by decide) λH F4 b4=>?_
  have ae:box H (15,v3)=V ⟨66,3,U,U,[ap.c (gd l i)]⟩:=b4
  have ao:Fx Y2 H []:=F3.tn F4 N3.no
  have R:=aO.kp ao
  have A4:=cY.fxn ao
  have cF:=(hV (gd l i) (dB T)).1
  have cW:∀u m,cm m b w ns (O3++((aH i).flatMap λk=>nT ns w l (gd l k))++nT ns w l (gd l i)) n u->Ad Y m b a u->yI (λ(_:Unit) i=>[iv i]) (L l) (λk (_:Unit) m=>∃u,cm m b w ns (O3++(aH k).flatMap λk=>nT ns w l (gd l k)) n u/\Ad Y m b a u) [iv (dq.wrap ((i:Int)+1))] m/\gM 0 (L l) [iv (dq.wrap ((i:Int)+1))] m<gM 0 (L l) [iv i] Y2:=by
   intro u m B' A'
   refine yU T ⟨u,?_,A'⟩
   rw[cr,<-cC]
   exact B'
  generalize bH:O3++((aH i).flatMap λk=>nT ns w l (gd l k))=O4 at*
  have o4:L O4<=L O3+i*401:=by rw[<-bH,bq];omega
  generalize gd l i=x at*
  simp only[ahU,u0,u1,ae,rk,aj,↓uL]
  refine ig (d:=0) R D _ ?_
  simp only[ahT,de D,aY,f7,bQ,ahS,↓uL]
  refine mG (λvs m=>∃y0,vs=[y0]/\gA m 3 1 y0 ((jd ns x).map ci)/\Fx H m []/\∀q∈aA y0,bK H q/\q.1=206) (λg hJ=>?_) ?_
  ·simp only[aik,u0,u1,ae,rk,aj,↓uL]
   refine⟨λh=>?_,λh=>hJ _ _ ⟨_,rfl, .inl ⟨U,by rw[jd,if_neg (of_decide_eq_false h)]⟩,Fx.refl _ _,by simp[aA]⟩⟩
   have h0:=of_decide_eq_true h
   refine ig (d:=0) R D _ ?_
   simp only[ahR,de D,aY,u0,u1,ae,rk,aj,↓uL]
   refine kV (d:=0) R D _ _ ?_
   simp only[ahQ,de D,aY,fi,bQ,↓uL]
   refine qs (rows:=[-lE ns x.a].map ci) (.inl ⟨U,rfl⟩) rfl (by decide) (by rw[R.le];decide) fF fF (by simp) λy5 Y5 g5 F5 eo=>?_
   rw[<-dg] at g5
   simp only[ahP,↓uL]
   refine dT (by simp[eL,lb,cq,cD,dC,dK]) (hJ _ _ ⟨y5,rfl,?_,F5.mono (by simp[aA]),λq C=>?_⟩)
   ·rw[jd,if_pos h0];exact g5
   ·rcases eo q C with h|h
    ·simp[aA] at h
    ·exact h
  ·rintro vs Y5 ⟨y0,rfl,g0,F5,P0⟩
   simp only[aig,aI,au,gT,u0,↓uL]
   refine jD (α:=AV) (λa i=>[a,iv i]) 1 (L l) (λk y m=>gA m 3 1 y ((jd ns x++((l.take k).filter (j8 w x)).map (dP ns)).map ci)/\Fx H m []/\∀q∈aA y,bK H q/\(q.1=206\/q.1=246)) (s0:=y0) ⟨by simpa using g0,F5,λq C=>⟨(P0 q C).1, .inl (P0 q C).2⟩⟩ ?_
   rintro k y Y6 hk ⟨gy,F6,Py⟩
   have B6:=R.kp F6
   have dn:L ((jd ns x++((l.take k).filter (j8 w x)).map (dP ns)))<=3+k:=by
    have A:=fZ (j8 w x) (l.take k)
    simp only[gC] at A
    have E:L (jd ns x)<=3:=by unfold jd;split<;>simp
    simp only[bq,bJ];omega
   simp+contextual only[aiw,au,ck,aI,u0,u1,di,ail,lX,tj,bh,↓uL]
   refine⟨λh6=>⟨bA h6,?_⟩,λh6=>?_⟩
   ·have bv:=aL h6
    refine cV B6.le λv7 S F7 N7 b7=>?_
    refine cy (cs:=ap.c (gd l k)) b7 rfl rfl (by decide) λY8 F8 b8=>?_
    have eb:box Y8 (18,v7)=V ⟨66,3,U,U,[ap.c (gd l k)]⟩:=b8
    have c3:Fx Y6 Y8 []:=F7.tn F8 N7.no
    have aq:=F6.trans c3
    have B8:=R.kp aq
    have da:=B8.bx
    have ex:=dy (i:=0) (j:=0) da
    have bX:=aq.kq ae
    have dd:=gy.fx c3 (by simp)
    have ey:aN (V 3) (ap.c x)=V (.a (ap.c x)):=rfl
    have ez:aN (V 3) (ap.c (gd l k))=V (.a (ap.c (gd l k))):=rfl
    have bL:∀y' m,gA m 3 1 y' ((jd ns x++((l.take (k+1)).filter (j8 w x)).map (dP ns)).map ci)->Fx H m []->(∀q∈aA y',bK H q/\(q.1=206\/q.1=246))->JA [y,iv k] (yI (λa i=>[a,iv i]) (L l) λk y m=>gA m 3 1 y ((jd ns x++((l.take k).filter (j8 w x)).map (dP ns)).map ci)/\Fx H m []/\∀q∈aA y,bK H q/\(q.1=206\/q.1=246)) (gM 1 (L l)) Y6 [y'] m:=by
     intro y' m q1 q2 q3
     simp only[JA,au,ck,aI,u0,u1,↓uL]
     exact dR (mk:=λa i=>[a,iv i]) (s:=y) (s':=y') (λ_ _=>rfl) bv (by omega) ⟨q1,q2,q3⟩
    simp+contextual only[ahE,u0,u1,eb,bX,ey,ez,rk,ix,alV,ex,da,kn,aj,au,ck,↓uL]
    refine⟨λ_ _=>cF,λhb=>?_,λhb=>bL y Y8 ?_ aq Py⟩
    ·refine nc (d:=0) B8 D _ _ _ ?_
     simp only[ahD,f7,bQ,au,↓uL]
     refine qs dd rfl (by decide) (by rw[B8.le];decide) fF fF (by simp only[bJ,bZ,bO];omega) λy9 Y9 g9 F9 ep=>bL y9 Y9 ?_ ((aq.trans F9).mono (by simp only[dW];exactλq C=> .inr (Py q C).1.no)) (λq C=>?_)
     ·rw[pH bv,if_pos (show j8 w x (gd l k)=U from hb)]
      simpa using g9
     ·rcases ep q C with F|F
      ·exact Py q F
      ·exact⟨F.1.old aq, .inr F.2⟩
    ·rw[pH bv,if_neg (show¬j8 w x (gd l k)=U fromλF=>by rw[show j8 w x (gd l k)=I from hb] at F;cases F),cL]
     exact dd
   ·have eq:k=L l:=bP hk (bw h6)
    subst eq
    rw[gV] at gy dn
    rw[show jd ns x++(l.filter (j8 w x)).map (dP ns)=kZ ns w l x from rfl] at gy dn
    have cx:nT ns w l x=(kZ ns w l x++(l.filter (eZ x)).map (dP ns))::(aH (L l)).flatMap (ue ns w l x):=by rw[nT,axi]
    have bI:∀j,ue ns w l x j=if eZ x (gd l j)=U then[kZ ns w l x++[-dP ns (gd l j),lB ns (gd l j).a x.a]] else[]:=λ_=>rfl
    have ej:L (l.filter (eZ x))<=L l:=fZ _ _
    generalize hL:kZ ns w l x=Lw at*
    refine alD gy (by omega) (by rw[B6.le];decide) λy7 S g7 F7 N7=>?_
    have G:=B6.kp F7
    have c8:=(F6.trans F7).kq ae
    simp only[ahO,u0,u1,c8,rk,aj,↓uL]
    refine Ks (d:=0) G D _ _ λt2=>?_
    rw[dm,show nG ns l x.b x.a=(l.filter (eZ x)).map (dP ns) from rfl]
    generalize el:(l.filter (eZ x)).map (dP ns)=Wk at*
    have em:L Wk<=L l:=by rw[<-el,bJ];exact ej
    simp only[ahN,↓uL]
    refine gD g7 rfl (by decide) (by rw[G.le];decide) fF fF (by simp only[bJ];omega) λy8 Y8 g8 F8 cz dr=>?_
    rw[<-dg] at g8
    have aq:Fx H Y8 []:=((F6.trans F7).trans F8).mono (by simp only[dW];exactλq C=> .inr (((N7 q C).1.old F6).no))
    have B8:=R.kp aq
    have A8:=A4.fxn aq
    have cG:∀{q:Id},bK H q->bK Y q:=λh=>h.old A4.fx
    simp only[ahM,↓uL]
    refine Dd B8 (by omega) _ g8.t A8 (λq C=>?_) λa9 Y9 B9 A9 F9=>?_
    ·rcases cz q C with F|F
     ·exact cG ((N7 q F).1.old F6)
     ·exact cG (F.old (F6.trans F7))
    have yp:∀q∈aA y,q.1=206\/q.1=246:=λq C=>(Py q C).2
    have eg:gA Y9 3 1 y (Lw.map ci):=by
     refine((gy.fx F7 (by simp)).fx F8 λq C z=>?_).fx F9 λq C z=>?_
     ·have A:=(N7 q z).2
      rcases yp q C with E|E<;>(rw[A] at E;simp at E)
     ·rcases eW.1 z with rfl|z
      ·rcases yp _ C with E|E<;>(rw[B8.sb] at E;exact absurd E (by decide))
      ·rcases dF.1 z with z|z
       ·have A:=B8.sa q z
        rcases yp q C with E|E<;>(rw[A] at E;simp at E)
       ·have A:q.1=250\/q.1=257:=(dr q z).imp (λh=>(N7 q h).2) id
        rcases yp q C with E|E<;>rcases A with A|A<;>(rw[A] at E;simp at E)
    have ec:=F8.keep _ _ (λC=>by have A:=(N7 _ C).2;simp at A) c8
    have ed:=F9.keep _ _ (λz=>by
     rcases eW.1 z with h|z
     ·exact nb (by decide) h
     ·rcases dF.1 z with z|z
      ·have A:=B8.sa _ z;simp at A
      ·have A:(15:Nat)=250\/(15:Nat)=257:=(dr _ z).imp (λh=>(N7 _ h).2) id
       omega) ec
    simp only[ahL,↓uL]
    refine dT (by
     rcases gy with⟨o,rfl⟩|⟨bb,rfl,hb⟩
     ·simp[eL,lb,cq,cD,dC,dK,au]
     ·have A:=yp bb (by simp[aA])
      obtain⟨b1,b2⟩:=bb
      rcases A with A|A<;>(simp only at A;subst A;simp[eL,lb,cq,cD,dC,dK,au])) ?_
    simp only[gT,u0,↓uL]
    refine yV (L l) (λj _ m=>∃u,cm m b w ns (O4++[Lw++Wk]++(aH j).flatMap (ue ns w l x)) n u/\Ad Y m b a u/\gA m 3 1 y (Lw.map ci)/\box m (15,v3)=V ⟨66,3,U,U,[ap.c x]⟩) ⟨a9,by simpa using B9,A9,eg,ed⟩ ?_
    rintro j _ aD hj ⟨aT,aa,a0,dI,dE⟩
    have et:=eU (f:=ue ns w l x) (c:=1) (λj=>by rw[bI];split<;>simp) j
    simp+contextual only[aix,au,ck,aI,u0,u1,di,ain,lX,tj,bh,↓uL]
    refine⟨λaf=>⟨bA af,?_⟩,λaf=>?_⟩
    ·have cB:=aL af
     refine cV aa.le λcH d5 cb cg cn=>?_
     refine cy (cs:=ap.c (gd l j)) cn rfl rfl (by decide) λad cc co=>?_
     have X:box ad (20,cH)=V ⟨66,3,U,U,[ap.c (gd l j)]⟩:=co
     have M:Fx aD ad []:=cb.tn cc cg.no
     have N:=aa.kp M
     have an:=a0.fxn M
     have aJ:=M.kq dE
     have aZ:=dI.fx M (by simp)
     have aK:∀u m,cm m b w ns (O4++[Lw++Wk]++(aH j).flatMap (ue ns w l x)++ue ns w l x j) n u->Ad Y m b a u->gA m 3 1 y (Lw.map ci)->box m (15,v3)=V ⟨66,3,U,U,[ap.c x]⟩->JB [iv j] (yI (λ_ i=>[iv i]) (L l) λj (_:Unit) m=>∃u,cm m b w ns (O4++[Lw++Wk]++(aH j).flatMap (ue ns w l x)) n u/\Ad Y m b a u/\gA m 3 1 y (Lw.map ci)/\box m (15,v3)=V ⟨66,3,U,U,[ap.c x]⟩) (gM 0 (L l)) aD [] m:=by
      intro u m q1 q2 q3 q4
      simp only[JB,au,aI,u0,u1,↓uL]
      refine yU cB ⟨u,?_,q2,q3,q4⟩
      rw[cr,<-cC]
      exact q1
     rcases sq (Q ((gd l j).b=x.b)) with aU|aU
     ·simp+contextual only[Jz,u0,u1,X,aJ,rk,aj,aU,jA,qE,uO,cond_true,au,↓uL]
      refine⟨λbS=>?_,λbS=>aK aT ad ?_ an aZ aJ⟩
      ·refine alD aZ (by omega) (by rw[N.le];decide) λfa c5 ee aQ bc=>?_
       have a7:=N.kp aQ
       have c7:=aQ.kq X
       have cu:=aQ.kq aJ
       simp only[ahJ,u0,u1,c7,rk,aj,↓uL]
       refine nc (d:=0) a7 D _ _ _ ?_
       simp only[ahI,de D,aY,u0,u1,c7,cu,rk,aj,↓uL]
       refine kV (d:=0) a7 D _ _ ?_
       simp only[ahH,fi,bQ,↓uL]
       refine gD ee rfl (by decide) (by rw[a7.le];decide) fF fF (by simp only[bJ,bZ,bO];omega) λeA d6 db cd dO dQ=>?_
       rw[<-dg] at db
       have bF:Fx ad d6 []:=(aQ.trans cd).mono (by simp only[dW];exactλq C=> .inr ((bc q C).1.no))
       have bD:=N.kp bF
       have dZ:=an.fxn bF
       simp only[ahG,↓uL]
       refine Dd bD (by simp only[bq,bZ,bO];omega) _ db.t dZ (λq C=>?_) λd8 c6 d3 d0 c0=>?_
       ·rcases dO q C with F|F
        ·exact(bc q F).1.old an.fx
        ·exact(F.old aQ).old an.fx
       have bM:∀q∈aA eA,q.1=279\/q.1=296:=λq C=>(dQ q C).imp (λh=>(bc q h).2) id
       have dL:gA c6 3 1 y (Lw.map ci):=by
        refine((aZ.fx aQ (by simp)).fx cd λq C z=>?_).fx c0 λq C z=>?_
        ·have A:=(bc q z).2
         rcases yp q C with E|E<;>(rw[A] at E;simp at E)
        ·rcases eW.1 z with rfl|z
         ·rcases yp _ C with E|E<;>(rw[bD.sb] at E;exact absurd E (by decide))
         ·rcases dF.1 z with z|z
          ·have A:=bD.sa q z
           rcases yp q C with E|E<;>(rw[A] at E;simp at E)
          ·have A:=bM q z
           rcases yp q C with E|E<;>rcases A with A|A<;>(rw[A] at E;simp at E)
       have dG:=cd.keep _ _ (λC=>by have A:=(bc _ C).2;simp at A) cu
       have dH:=c0.keep _ _ (λz=>by
        rcases eW.1 z with h|z
        ·exact nb (by decide) h
        ·rcases dF.1 z with z|z
         ·have A:=bD.sa _ z;simp at A
         ·have A:=bM _ z;simp at A) dG
       simp only[ahF,↓uL]
       refine dT (by
        rcases gy with⟨o,rfl⟩|⟨bb,rfl,hb⟩
        ·simp[eL,lb,cq,cD,dC,dK,au]
        ·have A:=yp bb (by simp[aA])
         obtain⟨b1,b2⟩:=bb
         rcases A with A|A<;>(simp only at A;subst A;simp[eL,lb,cq,cD,dC,dK,au])) (aK d8 c6 ?_ d0 dL dH)
       rw[bI,if_pos (show eZ x (gd l j)=U by rw[eZ,aU,iw];exact bS)]
       exact d3
      ·rw[bI,if_neg (show¬eZ x (gd l j)=U by rw[eZ,aU,iw];intro F;rw[F] at bS;cases bS),cL]
       exact N
     ·simp+contextual only[Jz,u0,u1,X,aJ,rk,aj,aU,jN,xM,uO,cond_false,au,↓uL]
      refine⟨λh=>(nomatch h),λ_=>aK aT ad ?_ an aZ aJ⟩
      rw[bI,if_neg (show¬eZ x (gd l j)=U by rw[eZ,aU,Bool.false_and];intro F;cases F),cL]
      exact N
    ·rw[bP hj (bw af)] at aa
     refine cW aT aD ?_ a0
     rw[cx]
     simpa using aa
 ·rw[bP hi (bw h)] at aO m4
  generalize bH:O3++((aH (L l)).flatMap λk=>nT ns w l (gd l k))=O4 at aO
  have o4:L O4<=L O3+L l*401:=by rw[<-bH,bq];omega
  clear hi h i
  have c9:=aO.bx
  simp only[dy c9,u0,u1,c9,kn,aj,cT,↓uL]
  refine yV (L w.ac) (λk _ m=>∃u,cm m b w ns (O4++(aH k).flatMap (ng ns w l)) n u/\Ad Y m b a u) ⟨a4,by simpa using aO,cY⟩ ?_
  rintro i _ Y5 hi ⟨a5,O,A5⟩
  have e6:=W.ok.ev
  have m5:=eU (f:=ng ns w l) (c:=401) (λk=>by
   unfold ng
   split
   ·have:=eU (f:=iO ns k (e9 w k).1 l) (c:=1) (λj=>by unfold iO;split<;>simp) (L l)
    rw[bZ];omega
   ·simp) i
  simp+contextual only[aiy,au,aI,u0,u1,di,aio,ix,rk,bh,↓uL]
  refine⟨λh5=>⟨bA h5,?_⟩,λh5=>?_⟩
  ·have cA:=aL h5
   have aK:∀u m,cm m b w ns (O4++(aH i).flatMap (ng ns w l)++ng ns w l i) n u->Ad Y m b a u->JC [iv i] (yI (λ_ i=>[iv i]) (L w.ac) λk (_:Unit) m=>∃u,cm m b w ns (O4++(aH k).flatMap (ng ns w l)) n u/\Ad Y m b a u) (gM 0 (L w.ac)) Y5 [] m:=by
    intro u m q1 q2
    simp only[JC,au,aI,u0,u1,↓uL]
    refine yU cA ⟨u,?_,q2⟩
    rw[cr,<-cC]
    exact q1
   generalize eh:O4++(aH i).flatMap (ng ns w l)=O5 at*
   have o5:L O5<=L O4+i*401:=by rw[<-eh,bq];omega
   refine cV O.le λv6 Y6 F6 N6 b6=>?_
   refine cy (cs:=aP.c (gd w.ac i)) b6 rfl rfl (by decide) λS F7 b7=>?_
   have av:box S (22,v6)=V ⟨59,7,U,U,[aP.c (gd w.ac i)]⟩:=b7
   have c2:Fx Y5 S []:=F6.tn F7 N6.no
   have G:=O.kp c2
   have A7:=A5.fxn c2
   have bf:=G.bx
   simp+contextual only[ah8,au,dy bf,u0,u1,bf,av,kn,rk,ix,aj,sY,ar,oJ,pG,↓uL]
   refine⟨λbu=>?_,λbu=>⟨⟨by omega,dJ cA,(W.th i cA).2,by have:=W.ts;omega⟩, .inl rfl,λbR=>?_,λbR=>?_⟩⟩
   ·refine aK a5 S ?_ A7
    rw[ng,if_neg (λF=>by simp[F.1] at bu),cL]
    exact G
   ·refine aK a5 S ?_ A7
    rw[ng,if_neg (λF=>by rw[F.2] at bR;cases bR),cL]
    exact G
   ·have cU:(gd w.ac i).kind=17:=by simpa using bu
    have dS:(e9 w i).2=U:=by simpa using bR
    have cx:ng ns w l i=(-lE ns i::gO ns l (e9 w i).1)::(aH (L l)).flatMap (iO ns i (e9 w i).1 l):=by rw[ng,if_pos ⟨cU,dS⟩]
    generalize(e9 w (i:Int)).1=Z at*
    refine ig (d:=0) G D _ ?_
    simp only[ah7,de D,aY,f7,bQ,ah5,↓uL]
    refine Ks (d:=0) G D _ _ λt2=>?_
    have es:nG ns l Z (-1)=gO ns l Z:=by
     unfold nG gO
     congr 1
     refine aqJ λv hv=>?_
     have:=(hV v hv).1.1
     simp;omega
    rw[dm,es]
    have em:L (gO ns l Z)<=L l:=by unfold gO;rw[bJ];exact fZ _ _
    simp only[ah4,↓uL]
    refine qs (rows:=[-lE ns i].map ci) (.inl ⟨U,rfl⟩) rfl (by decide) (by rw[G.le];decide) fF fF (by simp only[bJ,bZ,bO];omega) λy8 Y8 g8 F8 cz=>?_
    rw[<-dg,List.singleton_append] at g8
    have c4:Fx S Y8 []:=F8.mono (by simp[aA])
    have B8:=G.kp c4
    have A8:=A7.fxn c4
    simp only[ah3,↓uL]
    refine Dd B8 (by omega) _ g8 A8 (λq C=>?_) λa9 Y9 B9 A9 F9=>?_
    ·rcases cz q C with F|F
     ·simp[aA] at F
     ·exact F.1.old A7.fx
    simp only[ah2,gT,u0,↓uL]
    refine yV (L l) (λj _ m=>∃u,cm m b w ns (O5++[-lE ns i::gO ns l Z]++(aH j).flatMap (iO ns i Z l)) n u/\Ad Y m b a u) ⟨a9,by simpa using B9,A9⟩ ?_
    rintro j _ aD hj ⟨aT,aa,a0⟩
    have et:=eU (f:=iO ns i Z l) (c:=1) (λj=>by unfold iO;split<;>simp) j
    simp+contextual only[aiz,au,aI,u0,u1,di,aip,lX,tj,bh,↓uL]
    refine⟨λaf=>⟨bA af,?_⟩,λaf=>?_⟩
    ·have cB:=aL af
     refine cV aa.le λcH d5 cb cg cn=>?_
     refine cy (cs:=ap.c (gd l j)) cn rfl rfl (by decide) λad cc co=>?_
     have X:box ad (26,cH)=V ⟨66,3,U,U,[ap.c (gd l j)]⟩:=co
     have M:Fx aD ad []:=cb.tn cc cg.no
     have N:=aa.kp M
     have an:=a0.fxn M
     have dp:∀u m,cm m b w ns (O5++[-lE ns i::gO ns l Z]++(aH j).flatMap (iO ns i Z l)++iO ns i Z l j) n u->Ad Y m b a u->JD [iv j] (yI (λ_ i=>[iv i]) (L l) λj (_:Unit) m=>∃u,cm m b w ns (O5++[-lE ns i::gO ns l Z]++(aH j).flatMap (iO ns i Z l)) n u/\Ad Y m b a u) (gM 0 (L l)) aD [] m:=by
      intro u m q1 q2
      simp only[JD,au,aI,u0,u1,↓uL]
      refine yU cB ⟨u,?_,q2⟩
      rw[cr,<-cC]
      exact q1
     have dl:iO ns i Z l j=if(gd l j).b=Z then[[-lE ns i,-dP ns (gd l j),lB ns (gd l j).a i]] else[]:=rfl
     generalize ei:O5++[-lE ns i::gO ns l Z]++(aH j).flatMap (iO ns i Z l)=O6 at*
     have o6:L O6<=L O5+1+j:=by rw[<-ei];simp only[bq,bZ,bO];omega
     simp+contextual only[ah1,au,u0,u1,X,rk,aj,↓uL]
     refine⟨λhb=>?_,λhb=>dp aT ad ?_ an⟩
     ·refine ig (d:=0) N D _ ?_
      simp only[ah0,au,de D,u0,u1,X,rk,aj,↓uL]
      refine nc (d:=0) N D _ _ _ ?_
      simp only[ahZ,au,de D,u0,u1,X,rk,aj,↓uL]
      refine kV (d:=0) N D _ _ ?_
      simp only[ahY,xA,bQ,ahX,↓uL]
      refine fQ N (by omega) [_,_,_] λd7 c5 a7 dY=>?_
      simp only[ahW,↓uL]
      refine dT (by simp[eL,lb,cq,cD,dC,dK]) (dp d7 c5 ?_ (an.trans dY))
      rw[dl,if_pos (of_decide_eq_true hb)]
      exact a7
     ·rw[dl,if_neg (of_decide_eq_false hb),cL]
      exact N
    ·rw[bP hj (bw af)] at aa
     refine aK aT aD ?_ a0
     rw[cx]
     simpa using aa
  ·rw[bP hi (bw h5)] at O
   refine⟨a5,rfl,?_,A5⟩
   rw[sN]
   simp only[<-cC,dh,dj,dk,bH]
   exact O
end
def j6(ns:List ap)(w:am):List (List Int):=kE ns w++oH ns w++sN ns w (aR ns 5)++rJ ns w
theorem yc(w:am)(u:Int)(l:List Int):L (fg w u l)<=L l:=by unfold fg lp;have h:=jo (f:=λn=>fw (lm w u n) (L w.ac)) (m:=1) (l:=l.take (L l)) λx _=>(by rw[Er (dA _)];split<;>simp);simp only[gC,Nat.min_self,Nat.mul_one] at h;exact h
theorem KI{w:am}(h:xv w){k:Nat}(c:k<L w.ac):L (gd w.ac k).dI<=2000/\L (gd w.ac k).ep<=2000:=by have a:∀x,x∈(gd w.ac k).dI\/x∈(gd w.ac k).ep-> -1000<=x/\x<=1000:=λx e=>⟨(h.rd k c x e).1,(h.rd k c x e).2.1⟩;have d:=(h.wo.wo.en k c).2;simp only[gj,u7,eH,cP,fK,decide_eq_true_eq] at d;obtain⟨_,_,_,_,⟨i,j⟩,_⟩:=d;constructor;rcases oD (L (gd w.ac k).dI) with b|b;omega;have f:=yq i (L (gd w.ac k).dI-1) (by omega);have g:=(a _ (.inl (dB (show L (gd w.ac k).dI-1<L (gd w.ac k).dI by omega)))).2;omega;rcases oD (L (gd w.ac k).ep) with b|b;omega;have f:=yq j (L (gd w.ac k).ep-1) (by omega);have g:=(a _ (.inr (dB (show L (gd w.ac k).ep-1<L (gd w.ac k).ep by omega)))).2;omega
structure VW(w:am):Prop where
 hf:hU w
 hv:gf w=U
 ps:xv w
 wv:WV w
 ln:L (cw w)<2000
 l5:L (aR (cw w) 5)<=320
 nt:L w.aQ.ay<=4
 it:L w.init.sync.ay=L w.aQ.ay
 th:∀k,k<L w.ac->aF (L w.aQ.ay) (gd w.ac k).aq
 hp:∀r:Nat,r<L w.ac->((gd w.ac r).kind=23->aF (L w.init.sync.done) (gd w.ac r).obj/\aF (L w.init.bU) (gd w.ac r).obj)/\((gd w.ac r).kind=3->aF (L w.init.cells) (gd w.ac r).obj)
theorem vw{w:am}(g:hU w)(c:gf w=U):VW w:=by have i:=anT g c;have a:=vd g c;obtain⟨z,A,B,o,n⟩:=Bx c;obtain⟨C,fl,v,e⟩:=iY o;have q:=a.th;have m:=(ri c).1;simp only[oh,cP,fK,decide_eq_false_iff_not] at m;have t:=m.1.1.1.1.2;simp only[fN,bN,decide_eq_true_eq] at t;have f:=Bq c 0 (Nat.zero_le _);have d:∀k,k<L w.ac->aF (L w.aQ.ay) (gd w.ac k).aq:=λk b=>(a.wo.named b).2;have p:=anE a.wo.ev (show L w.init.sync.ay<=4 by omega);refine⟨g,c,i,⟨a.wo,λk b=>?_,λk b=>⟨by rw[n];exact d k b,by rw[e];exact d k b⟩,λu y=>?_,by omega,⟨fl,by have:=f.lo;rw[show(cY w 0).sync=w.init.sync from rfl] at this;omega⟩,λl x=>?_⟩,p.1,by rw[Qf];exact p.2,q,e,d,λr s=>⟨λh=>?_,λh=>?_⟩⟩;have:=KI i b;omega;have:=i.ct.2 _ (ii y);omega;have j:=f.rd l x;have:=AC j.1 j.2;omega;have:=oU (a.wo.named s).1 (by omega) (by omega);exact⟨by rw[v];exact this,by rw[show L w.init.bU=L w.aQ.bU by simp_all];exact this⟩;have:=qP (a.wo.named s).1 (by omega) (by omega);rw[show L w.init.cells=L w.aQ.cells by simp_all];exact this
section
variable{w:am}{ns:List ap}
theorem KB(e:L w.ac<=16):L (kE ns w)<=1000:=by
 have a:=eU (f:=jy ns (L w.ac)) (c:=16) (λx=>by
  have:=eU (f:=my ns x) (c:=1) (λy=>by unfold my;split<;>simp) (L w.ac)
  unfold jy;omega) (L w.ac)
 have b:=eU (f:=kY ns w) (c:=2) (λx=>by unfold kY;split<;>simp) (L w.ac)
 have d:=eU (f:=mA ns w) (c:=2) (λx=>by unfold mA;split<;>simp) (L w.ac)
 simp only[kE,bq];omega
theorem axl{s:List bp}(h:L s<=100):L (rL ns s)<=40000:=by
 have:=eU (f:=mw ns s) (c:=400) (λi=>by
  have a:=eU (f:=λj=>iA ns (gd s i) (gd (s.drop (i+1)) j)) (c:=4) (λj=>axk) (L (s.drop (i+1)))
  unfold mw
  have b:L (s.drop (i+1))<=L s:=by simp
  omega) (L s)
 unfold rL;omega
theorem Kx(a:VW w)(k:Nat)(c:k<=L w.aQ.ak+1):L ((aH k).flatMap (pE ns w))<=200000:=by have h:=jo (f:=pE ns w) (m:=40000) (l:=aH k) λi b=>axl (Q6 a.hf a.hv ⟨by omega,by have:=fq.1 b;omega⟩);have:=a.wv.lk.2;simp only[sz] at h;omega
theorem Kz{l:List ap}(a:L l<=320)(b:L w.ac<=16):L (sN ns w l)<=400000:=by
 have m1:=eU (f:=λk=>iW ns (gd l k)) (c:=3) (λk=>by unfold iW;split<;>simp) (L l)
 have d:=eU (f:=lP ns l) (c:=320) (λk=>gl (eU (f:=λj=>ju ns (gd l k) (gd (l.drop (k+1)) j)) (c:=1) (λj=>by unfold ju;split<;>simp) _) (by simp;omega)) (L l)
 have e:=eU (f:=lQ ns w l) (c:=320) (λk=>gl (eU (f:=λj=>jk ns w (gd l k) (gd (l.drop (k+1)) j)) (c:=1) (λj=>by unfold jk;split<;>simp) _) (by simp;omega)) (L l)
 have g:=eU (f:=λk=>nT ns w l (gd l k)) (c:=321) (λk=>by have:=alM (ns:=ns) (w:=w) (l:=l) (x:=gd l k);omega) (L l)
 have h:=eU (f:=ng ns w l) (c:=321) (λk=>by
  unfold ng
  split
  ·have:=eU (f:=iO ns k (e9 w k).1 l) (c:=1) (λj=>by unfold iO;split<;>simp) (L l)
   rw[bZ];omega
  ·simp) (L w.ac)
 simp only[sN,bq]
 omega
theorem KA(a:VW w)(k:Nat)(q:k<=L w.ac):L ((aH k).flatMap (gW ns w))<=1000000:=by have u:=a.wv.ok.ev;have h:=jo (f:=gW ns w) (m:=60000) (l:=aH k) λr t=>(by unfold gW;split;have d:=jo (f:=λj=>iP ns w r (gd (dx w r) j)) (m:=2020) (l:=aH (L (dx w r))) λj e=>(by have hs:=(Kt (dB (fq.1 e))).2;generalize gd (dx w r) j=s at hs⊢;unfold iP;rw[bq];have g:L (kD ns w r s)<=2002:=(by unfold kD;split;rename_i b;have i:=eU (f:=pD ns r s (fg w (gd w.ac s.toNat).aq (gd w.ac s.toNat).ep)) (c:=1) (λj=>by simp[pD]) (L (fg w (gd w.ac s.toNat).aq (gd w.ac s.toNat).ep));have n:=yc w (gd w.ac s.toNat).aq (gd w.ac s.toNat).ep;have o:=(KI a.ps (k:=s.toNat) (by have:=(hs b).1.1;have:=(hs b).1.2;omega)).2;simp only[bq,bZ,bO];omega;simp);have p:=eU (f:=jl ns w r s) (c:=1) (λx=>by unfold jl;split;simp;split<;>simp) (L w.ac);omega);have:=vU w r;simp only[sz] at d;simp only[bq,bZ,bO];omega;simp);simp only[sz] at h;omega
theorem Kw(a:VW w):L ((aH (L w.ac)).flatMap (kX ns w))<=40000:=by have n:=a.wv.ok.ev;have h:=jo (f:=kX ns w) (m:=2000) (l:=aH (L w.ac)) λi b=>(by have d:=eU (f:=qv ns i (fg w (gd w.ac i).aq (gd w.ac i).dI)) (c:=1) (λj=>by simp[qv]) (L (fg w (gd w.ac i).aq (gd w.ac i).dI));have e:=yc w (gd w.ac i).aq (gd w.ac i).dI;have g:=(KI a.ps (k:=i) (fq.1 b)).1;unfold kX;omega);simp only[sz] at h;omega
theorem Kv(a:VW w)(b:L (aR ns 5)<=320):L (j6 ns w)<=2000000:=by have c:=KB (ns:=ns) a.wv.ok.ev;have d:=Kx (ns:=ns) a (L w.aQ.ak+1) (dA _);have e:=Kz (ns:=ns) (w:=w) b a.wv.ok.ev;have f:=KA (ns:=ns) a (L w.ac) (dA _);have g:=Kw (ns:=ns) a;simp only[j6,rJ,oH,bq];omega
end
section
variable{Y:ae}
theorem ank{w:am}(d:VW w)(hl:L Y=4096):∃r C,(∃b n s a m o f,r= .p b 0 0/\bD C b w (cw w) (j6 (cw w) w) n s a m o f/\Fx Y C []/\bK Y b)/\cZ aS GG Ai [.a w.c] Y r C:=by refine aJ5 hl rfl λs2 v1 K2 aU nf b1=>?_;have j:Fx Y s2 []:=K2.fx [];have an:L s2=4096:=j.len.trans hl;have ar:aN (V 15) w.c=V (.a w.c):=rfl;have g:=d.wv.ok.ev;have aP:=d.ln;have aT:=d.wv.lk.2;have M:jb w (cw w):=anG (by omega);have D:=an6 d.ps d.hf;have S:GU w (cw w):=aId g;have T:sE w (cw w):=Rq g d.wv.ts;have ao:=d.l5;have q1:=KB (ns:=cw w) g;have q3:=Kz (ns:=cw w) (w:=w) ao g;have q4:=KA (ns:=cw w) d (L w.ac) (dA _);have q6:=Kw (ns:=cw w) d;have q2:=λk E=>Kx (ns:=cw w) d k E;simp only[G7,u0,u1,b1,ar,↓uL];refine jH rfl (aCA an d.hv d.hf aEm (by omega)) ?_;rintro r3 Y3 ⟨b,n,s,m,o,f,rfl,P,B,R,_,_⟩;refine⟨B.len,?_⟩;have ad:=B.kq b1;have ag:((1,v1):Id)≠b:=(by intro e;have:=P.sb;rw[<-e] at this;simp at this);generalize cw w=ns at*;refine aEh P M d.th g (by simp only[bO];omega) λa4 Y4 C4 H=>?_;have ae:=H.keep ad ag (by simp[aA]);simp only[Tv,u0,u1,ae,rk,aj,cT,↓uL];refine yV (L w.aQ.ak) (λk _ W=>∃X,bD W b w ns (kE ns w++(aH k).flatMap (pE ns w)) n s X m o f/\Ad Y3 W b (.l [] U U) X) ⟨a4,by simpa using C4,H⟩ ?_;rintro k _ Y5 E ⟨a5,i,K⟩;have aV:=q2 k (by omega);simp only[Tw,au,aI,u0,u1,↓uL];refine⟨λh=>?_,λh=>?_⟩;have v:=aL h;refine aEf i d.hf d.hv (dJ v) λt=>?_;simp only[Tr,↓uL];refine n6 rfl (anl i M (Q6 d.hf d.hv ⟨by omega,by omega⟩) (anV d.hf d.hv ⟨by omega,by omega⟩) (by simp only[bq];omega)) λa6 Y6 z y=>?_;simp only[Tq,au,u0,u1,↓uL];refine yU v ⟨a6,?_,K.trans y⟩;rw[cr,<-cC];exact z;have ah:k=L w.aQ.ak:=bP E (bw h);subst ah;have x:=q2 (L w.aQ.ak+1) (dA _);rw[cr,bq] at x;have u:pE ns w (L w.aQ.ak)=rL ns (jE w.aQ w.init.sync w.ac (L w.aQ.ak)):=rfl;rw[u] at x;refine aEk i d.hf d.hv λt=>?_;simp only[Tu,↓uL];refine n6 rfl (anl i M (Q6 d.hf d.hv ⟨by omega,by omega⟩) (anV d.hf d.hv ⟨by omega,by omega⟩) (by simp only[bq];omega)) λa6 Y6 z y=>?_;refine n6 rfl (aDJ z M T g (by simp only[bq];omega)) λa7 Y7 C7 A7=>?_;simp only[Tt,↓uL];have hN:sN ns w (aR ns 5)=(((aH (L (aR ns 5))).flatMap λk=>iW ns (gd (aR ns 5) k))++((aH (L (aR ns 5))).flatMap (lP ns (aR ns 5))++((aH (L (aR ns 5))).flatMap (lQ ns w (aR ns 5))++((aH (L (aR ns 5))).flatMap λk=>qw ns w (gd (aR ns 5) k)))))++(aH (L w.ac)).flatMap (mu ns w):=(by simp only[sN,cC];rfl);rw[hN,bq] at q3;generalize(((aH (L (aR ns 5))).flatMap λk=>iW ns (gd (aR ns 5) k))++((aH (L (aR ns 5))).flatMap (lP ns (aR ns 5))++((aH (L (aR ns 5))).flatMap (lQ ns w (aR ns 5))++((aH (L (aR ns 5))).flatMap λk=>qw ns w (gd (aR ns 5) k)))))=N at*;refine n6 rfl (aDv C7 M T d.th d.it d.nt g (by simp only[bq];omega)) λa8 Y8 C8 A8=>?_;refine n6 rfl (aDV C8 M D S d.th g (by simp only[bq];omega)) λa9 Y9 C9 A9=>?_;simp only[Ts,↓uL];refine aEd C9 M D d.th g (by simp only[bq];omega) λZ aO O G=>?_;have A:=((((K.trans y).trans A7).trans A8).trans A9).trans G;have F:j6 ns w=kE ns w++(aH (L w.aQ.ak)).flatMap (pE ns w)++rL ns (jE w.aQ w.init.sync w.ac (L w.aQ.ak))++N++(aH (L w.ac)).flatMap (mu ns w)++(aH (L w.ac)).flatMap (gW ns w)++(aH (L w.ac)).flatMap (kX ns w):=(by rw[j6,hN,oH,cr,u,rJ];simp only[cC]);rw[F];refine⟨b,n,s,Z,m,o,f,rfl,O,((j.trans B).trans A.fx).mono λq hq=>?_,R.old j⟩;simp only[dW,aA,cE] at hq;subst hq;exact .inr (R.old j).no
end
def apz:dO:=apy
theorem Ri:eJ apz:=aph
def Ld:=@aBq
def asB:=bi 5 []
def S5 t3 R t14 s15:=sV (aK 4 s15 t3 t14) λa=>aw 4 a t3 λb=>aE R a [b]
def S7 w_1 R t3 s4:=aw 15 s4 w_1 λf=>fV xc s4 [f] λg=>cf g λh=>ah h (rV (bM nJ [(0,1),(1,1),(2,1),(3,1)] []) λi=>sV (aK 4 s4 t3 i) λb=>aw 4 b t3 λc=>aE R b [c]) (aw 15 s4 w_1 λd=>cB Ai [d] s4 8 λe a=>cB Am [e] a 9 (S5 t3 R))
def S1 w_1 s2 R:=eV (bs 52 nJ s2 2) (S7 w_1 R)
theorem aJ2{b:List AV}{R:bd}(l0:L b=15)(h:H1 40 15 1 b λc d=>S1 c d R):Ct aln [.a b] R:=z1 asB Ri Tryz.func10 l0 h
def asC:=bi 27 [(5,([],[4,5])),(11,([39],[2,4,5,37,38])),(14,([],[2,4,5,37,38,39]))]
def S9 t5 R t31 s32:=sV (aK 4 s32 t5 t31) λa=>aw 4 a t5 λb=>aE R a [b]
def Tl t27 t5 R(a:eQ) s30:=∀_:Rg,cB Am [t27] s30 101 (S9 t5 R)
def Td g_3 t27(a:aG)(d:AV) s41:=ag 2 s41 g_3 λc=>cB wf [t27,c] s41 33 λe b=>a [] b
def G0 vs50(c:aG)(a:bu) s51(d:eQ) s54:=∀_:Rg,aV (gt vs50 0) (iv 1) λb=>c [b] s54/\a [b] s54<a vs50 s51
def Te t27(a:aG) t66 s67:=rV (eO 0 t66) λd=>rV (eO 1 t66) λe=>ah e (cB xV [t27,d] s67 63 λf b=>cB eS [t27,f] b 64 λg c=>a [] c) (a [] s67)
def Tf w_1 t57(a:aG) t27(f:AV) s59:=ag 14 s59 w_1 λb=>ao 7 s59 b t57 λc=>ag 1 s59 c λd=>aO .neq d (iv 17) λe=>ah e (a [] s59) (cB xU [t27,t57] s59 56 (Te t27 a))
def Tm s51 t48 vs50 t27 w_1 J53:=ao 1 s51 t48 (gt vs50 0) λb=>aM s51 b λa=>cB xQ [t27,a] s51 45 (Tf w_1 a J53 t27)
def To t49 t48 t27 w_1(a:aG) I50 m50 vs50 s51:=∀_:Rg,aU (gt vs50 0) t49 λb=>ah b (jV 14 (G0 vs50 I50 m50 s51) (Tm s51 t48 vs50 t27 w_1)) (a [] s51)
def Tg g_3 t27(c:aG)(d:AV) s104:=ag 2 s104 g_3 λb=>cB wf [t27,b] s104 99 λe a=>c [] a
def Th t27 g_3 J29 t101 s102:=cB eS [t27,t101] s102 95 (Tg g_3 t27 J29)
def Ti g_3 t27 J29(e:AV) s94:=ag 1 s94 g_3 λb=>ag 3 s94 g_3 λc=>cB je [t27,b,c] s94 93 λd a=>eV (aX bH 1 a [(0,d)]) (Th t27 g_3 J29)
def Tj t27 g_3 J29 t91 s92:=cB eS [t27,t91] s92 86 (Ti g_3 t27 J29)
def Tk g_3 t27 J29(d:AV) s86:=ag 4 s86 g_3 λb=>cB fL [t27,b] s86 84 λc a=>eV (aX bH 1 a [(0,c)]) (Tj t27 g_3 J29)
def Ta t27 g_3 J29 t83 s84:=cB eS [t27,t83] s84 79 (Tk g_3 t27 J29)
def Tn s28 g_3 t27 w_1(a:aG):=ag 0 s28 g_3 λb=>al b (iv 1) λf=>ah f (ag 1 s28 g_3 λg=>cB wf [t27,g] s28 29 (Td g_3 t27 a)) (al b (iv 2) λh=>ah h (ag 5 s28 g_3 λc=>aJ s28 c λi=>lV [(iv 0)] s28 (To i c t27 w_1 a)) (al b (iv 3) λj=>ah j (aw 6 s28 g_3 λk=>cB Ao [t27,k] s28 70 λo d=>a [] d) (al b (iv 4) λl=>ah l (ag 1 s28 g_3 λm=>cB fL [t27,m] s28 77 λn e=>eV (aX bH 1 e [(0,n)]) (Ta t27 g_3 a)) (a [] s28))))
def Tb t5 R g_3 w_1 t27 s28:=jV 5 (Tl t27 t5 R) (Tn s28 g_3 t27 w_1)
def Tc w_1 g_3 R t5 s6:=aw 15 s6 w_1 λk=>fV xc s6 [k] λl=>cf l λa=>aC a (aw 15 s6 w_1) λc=>aC a (aw 6 s6 g_3) λd=>aC a (fV E5 s6 [c,d]) λe=>aC a (cf e) λf=>aD a (bv U) f λg=>ah g (rV (bM nJ [(0,1),(1,1),(2,1),(3,1)] []) λh=>sV (aK 4 s6 t5 h) λb=>aw 4 b t5 λi=>aE R b [i]) (aw 15 s6 w_1 λj=>cB Ai [j] s6 21 (Tb t5 R g_3 w_1))
def S8 w_1 g_3 s4 R:=eV (bs 52 nJ s4 4) (Tc w_1 g_3 R)
theorem aJ3{b:List AV}{c:List AV}{R:bd}(l0:L b=15)(l1:L c=6)(h:H2 40 15 2 b 42 6 3 c λd e f=>S8 d e f R):Ct Lx [.a b, .a c] R:=z2 asC Ri Tryz.func13 l0 l1 h
def vZ(w:am)(a:List (List Int)):ff:=⟨L w.ac,L (cw w),lL (cw w),a⟩
theorem Em{Y:ae}{p v:Nat}{zs:List AV}{a1 a:AV}{w:am}{d:List (List Int)}{R:bd}(m:box Y (p,v)=V ⟨52,4,U,U,[zs]⟩)(n:L zs=4)(g1:bc Y 71 3 a1 ((lL (cw w)).map dr.c))(g:bc Y 35 1 a (d.map λc=>[sl ci c]))(B:∀ds,Lk ds (vZ w d).c->R (.a ds)):sV (aK 4 Y (.p (p,v) 0 0) (.a [iv (L w.ac),iv (L (cw w)),a1,a])) λs=>rV (ef (V 4) s (.p (p,v) 0 0)) λt=>aE R s [t]:=by have r:∀{x y x2 u:AV},aN (V 4) [x,y,x2,u]=V (.a [x,y,x2,u]):=rfl;refine cy (y:=4) (cs:=[iv (L w.ac),iv (L (cw w)),a1,a]) m rfl rfl (by rw[n];decide) λb h A=>?_;have i:box b (p,v)=V ⟨52,4,U,U,[[iv (L w.ac),iv (L (cw w)),a1,a]]⟩:=(by rw[A];simp[n]);have o:∀{e:TypeId} {z:Nat} {x:AV} {rows:List (List AV)},bc Y e z x rows->∀q∈aA x,q∉[((p,v):Id)]:=(by intro e z x rows C q f j;rcases C with⟨_,rfl⟩|⟨K,rfl,k⟩;simp[aA] at f;simp only[aA,cE] at f j;rw[<-f,j,m] at k;cases k);obtain⟨t1,o1,F⟩:=(g1.fx h (o g1)).frD;obtain⟨H,E,G⟩:=(g.fx h (o g)).frD;simp only[u1,i,u0,r,↓uL];have D:jS b [.a [iv (L w.ac),iv (L (cw w)),a1,a]]= .a [iv (L w.ac),iv (L (cw w)), .l ((lL (cw w)).map dr.c) t1 o1, .l (d.map λc=>[sl ci c]) H E]:=(by show AV.a [dQ b (iv (L w.ac)),dQ b (iv (L (cw w))),dQ b a1,dQ b a]=_;rw[F,G];rfl);unfold aE;rw[D];exact⟨rfl,B _ ⟨rfl,rfl⟩⟩
theorem NN(w:am)(u:gf w=U/\hU w):Ct aln [.a w.c] (λr=>∃ds,r= .a ds/\Lk ds (vZ w (j6 (cw w) w)).c):=by refine aJ2 rfl λF m s C=>?_;obtain⟨o,l⟩:=u;have d:=vw l o;have p:aN (V 15) w.c=V (.a w.c):=rfl;simp only[S1,↓uL];refine cV m λH G e v t=>?_;have k:=e.kq s;simp only[S7,u0,u1,k,p,ar,Ld,o,l,and_self,true_and,fh,eE,false_implies,true_implies,↓uL];refine jH rfl (ank d (e.len.trans m)) ?_;rintro D y ⟨b,n,K,a,A,B,f,rfl,q,i,x⟩;refine⟨i.len,?_⟩;refine jH rfl (anm q (by have:=d.ln;omega)) ?_;rintro E z ⟨a1,rfl,g1,g,j⟩;refine⟨j.len,?_⟩;simp only[S5,↓uL];exact Em ((i.trans j).kq t) rfl g1 g λds h=>⟨ds,rfl,h⟩
def E1:FT:=om NN
def ax0{w Lw K}:=qz E1 NN w Lw K
structure RD(w:am)(g:cJ):Prop where
 h1:g.kind=1->aF (L w.ac) g.ea/\aF (L w.ac) g.eb
 h2:g.kind=2->(∀e∈g.cW,aF (L w.ac) e)/\L g.cW<=4
 h3:g.kind=3->aF (L w.ac) g.ea/\aF (L w.ac) g.eb/\g.ea≠g.eb
 h4:g.kind=4->aF (L w.ac) g.ea/\aF (L w.ac) g.eb/\aF (L w.ac) g.ec/\aF (L w.ac) g.ed/\g.ea≠g.ec
theorem Lj{w:am}{g:cJ}(h:qC w g=U):RD w g:=by unfold qC at h;by_cases d:g.kind=2;rw[decide_eq_true d,cond_true] at h;simp only[qx,bN,eH,decide_eq_true_eq] at h;obtain⟨k,m,_⟩:=h;refine⟨λe=>by omega,λ_=>⟨λe l=>?_,?_⟩,λe=>by omega,λe=>by omega⟩;exact(px (p:=λe=>aF (L w.ac) e)).1 (λj n=>dX.1 (m j n)) e l;simp only[rO,cP,decide_eq_false_iff_not] at k;omega;rw[decide_eq_false d,cond_false] at h;simp only[bN] at h;obtain⟨⟨b,c,f,i⟩,a⟩:=h;have b:=dX.1 b;have c:=dX.1 c;have f:=dX.1 f;have i:=dX.1 i;refine⟨λ_=>⟨b,c⟩,λe=>absurd e d,λe=>⟨b,c,?_⟩,λe=>⟨b,c,f,i,?_⟩⟩;rw[decide_eq_false (show g.kind≠1 by omega),decide_eq_true e,cond_false,cond_true] at a;simp only[wz,bN,eH,tm,cP,decide_eq_false_iff_not] at a;omega;rw[decide_eq_false (show g.kind≠1 by omega),decide_eq_false (show g.kind≠3 by omega),decide_eq_true e,cond_false,cond_false,cond_true] at a;simp only[tZ,bN,eH,vQ,cP,decide_eq_false_iff_not] at a;intro e;exact a.2.1.1.1.2 (by rw[jn,rP,e])
theorem NO(w:am)(g:cJ)(hp:gf w=U/\hU w/\qC w g=U):Ct Lx [.a w.c, .a g.c] (λr=>∃ds,r= .a ds/\Lk ds (vZ w (j6 (cw w) w++jx (cw w) w g)).c):=by
 refine aJ3 rfl rfl λs2 hl b1 b3 h0=>?_
 obtain⟨hv,hf,hg⟩:=hp
 have d:=vw hf hv
 have G:=Lj hg
 have hW:=vd hf hv
 have R:=d.wv.ok.ev
 have bH:=d.ln
 have a9:=d.l5
 have M:jb w (cw w):=anG (by omega)
 have D:=an6 d.ps d.hf
 have Wk:sE w (cw w):=Rq R d.wv.ts
 have bc:aN (V 15) w.c=V (.a w.c):=rfl
 have r6:aN (V 6) g.c=V (.a g.c):=rfl
 have bC:=Kv (ns:=cw w) d a9
 simp only[S8,↓uL]
 refine cV hl λv2 s3 F3 N3 b2=>?_
 have av:=F3.kq b1
 have az:=F3.kq b3
 simp only[Tc,u0,u1,av,az,bc,r6,ar,Ld,hv,hf,hg,hW,and_self,true_and,fh,jA,eE,false_implies,true_implies,↓uL]
 refine jH rfl (ank d (F3.len.trans hl)) ?_
 rintro r4 T ⟨b,n,wk,a,bm,bo,f,rfl,s,F4,Nb⟩
 refine⟨F4.len,?_⟩
 have ay:=F4.kq b2
 have aw:=F4.kq av
 have z:=F4.kq az
 have ax:=s.sb
 have S:∀{k v:Nat},k≠18->(k,v)≠b:=λ{k v} h e=>h (by rw[<-e] at ax;exact ax)
 simp only[Tb,di,↓uL]
 have bK:∀c,vZ w c=⟨L w.ac,L (cw w),lL (cw w),c⟩:=λ_=>rfl
 refine mG (λvs p=>∃m,bD p b w (cw w) (j6 (cw w) w++jx (cw w) w g) n wk m bm bo f/\Ad T p b a m) (λj hJ=>?_) ?_
 ·simp only[Tn,u0,u1,z,rk,aj,↓uL]
  have ad:∀{x:Int},aF (L w.ac) x->L (jK (cw w) w x)<=10010:=λhx=>zW d.wv (yc w) hx
  have hn:L (cw w)<100000:=by omega
  generalize cw w=ns at*
  generalize hO:j6 ns w=O at*
  refine⟨λF=>?_,λK=>⟨λF=>?_,λae=>⟨λF=>?_,λaA=>⟨λF=>?_,λa2=>hJ [] T ⟨a,?_,Ad.refl _ _ _⟩⟩⟩⟩⟩
  ·have l:=of_decide_eq_true F
   have bF:=ad (G.h1 l).1
   have aX:=ad (G.h1 l).2
   refine Qq s M D d.th R (G.h1 l).1 (by omega) λW E o q=>?_
   have A:=q.keep z (S (by decide)) (s.ne z (.inl rfl))
   simp only[Td,u0,u1,A,rk,aj,↓uL]
   refine Qq o M D d.th R (G.h1 l).2 (by simp only[bq];omega) λX P u N=>hJ [] P ⟨X,?_,q.trans N⟩
   rw[jx,if_pos l,<-cC]
   exact u
  ·have l:=of_decide_eq_true F
   obtain⟨aY,bG⟩:=G.h2 l
   refine yV (L g.cW) (λk _ p=>∃m,bD p b w ns (O++(aH k).flatMap λk=>jw ns w (gd g.cW k)) n wk m bm bo f/\Ad T p b a m) ⟨a,by simpa using s,Ad.refl _ _ _⟩ ?_
   rintro k _ E a3 ⟨W,o,q⟩
   have aC:∀x,L (jc ns w x)<=2:=λx=>by unfold jc;split<;>simp
   have m5:=eU (f:=λk=>jw ns w (gd g.cW k)) (c:=3) (λk=>by
    have:=aC (gd g.cW k)
    unfold jw
    split<;>simp<;>omega) k
   simp only[To,au,aI,u0,u1,di,Tm,ix,iF,bh,↓uL]
   refine⟨λh=>⟨bA h,?_⟩,λh=>hJ [] E ⟨W,?_,q⟩⟩
   ·have aB:=aL h
    have B:=aY _ (dB aB)
    have af:∀m p,bD p b w ns (O++((aH k).flatMap λk=>jw ns w (gd g.cW k))++jw ns w (gd g.cW k)) n wk m bm bo f->Ad T p b a m->G0 [iv k] (yI (λ_ i=>[iv i]) (L g.cW) λk (_:Unit) p=>∃m,bD p b w ns (O++(aH k).flatMap λk=>jw ns w (gd g.cW k)) n wk m bm bo f/\Ad T p b a m) (gM 0 (L g.cW)) E [] p:=by
     intro m p q1 q2
     simp only[G0,au,aI,u0,u1,↓uL]
     refine yU aB ⟨m,?_,q2⟩
     rw[cr,<-cC]
     exact q1
    generalize gd g.cW k=e at*
    have aZ:e.toNat<L w.ac:=by have:=B.1;have:=B.2;omega
    refine anz o M d.th R (by simp only[bq];omega) B λX P u N=>?_
    have H:=q.trans N
    have aU:=H.keep aw (S (by decide)) (s.ne aw (.inl rfl))
    simp only[Tf,u0,u1,aU,rk,ix,aj,↓uL]
    refine⟨B,λaa=>af X P ?_ H,λaa=>?_⟩
    ·rw[jw,if_neg (λh'=>by simp[h'.1] at aa),cL]
     exact u
    ·have aK:(gd w.ac e.toNat).kind=17:=by simpa using aa
     refine anB u (by omega) B (d.wv.th _ aZ).2 (by have:=d.wv.ts;omega) λv ba=>?_
     simp only[Te,oJ,pG,alY,alZ,u0,↓uL]
     refine⟨λC=>?_,λC=>af X P ?_ H⟩
     ·refine anC u hn v λt=>?_
      have bI:L (gO ns (aR ns 5) v)<=L (aR ns 5):=by unfold gO;rw[bJ];exact fZ _ _
      have bB:=aC e
      refine gc u (by simp only[bq];omega) _ (by omega) λa7 Y7 C7 A7=>af a7 Y7 ?_ (H.trans A7)
      have bb:nG ns (aR ns 5) (e9 w e).1 (-1)=gO ns (aR ns 5) (e9 w e).1:=by
       unfold nG gO
       congr 1
       refine aqJ λy hy=>?_
       have:=(Wk.ok y hy).1.1
       simp;omega
      rw[jw,if_pos ⟨aK,C⟩,bb,<-cC,<-ba C]
      exact C7
     ·rw[jw,if_neg (λh'=>by rw[h'.2] at C;cases C),cL]
      exact u
   ·rw[jx,if_neg (of_decide_eq_false K),if_pos l]
    rw[bP a3 (bw h)] at o
    exact o
  ·have l:=of_decide_eq_true F
   obtain⟨g1,g2,g3⟩:=G.h3 l
   refine aEg s M Wk R g1 g2 g3 (by omega) λW E o q=>hJ [] E ⟨W,?_,q⟩
   rw[jx,if_neg (of_decide_eq_false K),if_neg (of_decide_eq_false ae),if_pos l]
   exact o
  ·have l:=of_decide_eq_true F
   obtain⟨g1,g2,g3,g4,g5⟩:=G.h4 l
   have aX:=ad g2
   refine gq s hn (M.ex _ g1) ?_
   simp only[f7,bQ,Ta,↓uL]
   refine gc s (by omega) [_] (by simp) λW E o q=>?_
   have A:=q.keep z (S (by decide)) (s.ne z (.inl rfl))
   simp only[Tk,u0,u1,A,rk,aj,↓uL]
   refine gq o hn (M.ex _ g4) ?_
   simp only[f7,bQ,Tj,↓uL]
   refine gc o (by simp only[bq,bZ,bO];omega) [_] (by simp) λX P u N=>?_
   have Z:=N.keep A (S (by decide)) (o.ne A (.inl rfl))
   simp only[Ti,u0,u1,Z,rk,aj,↓uL]
   refine kg u hn (M.bf _ _ g1 g3 g5) ?_
   simp only[f7,bQ,Th,↓uL]
   refine gc u (by simp only[bq,bZ,bO];omega) [_] (by simp) λa7 Y7 C7 A7=>?_
   have aW:=A7.keep Z (S (by decide)) (u.ne Z (.inl rfl))
   simp only[Tg,u0,u1,aW,rk,aj,↓uL]
   refine Qq C7 M D d.th R g2 (by simp only[bq,bZ,bO];omega) λa8 Y8 C8 A8=>hJ [] Y8 ⟨a8,?_,((q.trans N).trans A7).trans A8⟩
   rw[jx,if_neg (of_decide_eq_false K),if_neg (of_decide_eq_false ae),if_neg (of_decide_eq_false aA),if_pos l]
   simpa using C8
  ·rw[jx,if_neg (of_decide_eq_false K),if_neg (of_decide_eq_false ae),if_neg (of_decide_eq_false aA),if_neg (of_decide_eq_false a2),cL]
   exact s
 ·rintro vs E ⟨m,o,q⟩
  simp only[Tl,aI,↓uL]
  have aV:=q.keep ay (S (by decide)) (s.ne ay (.inl rfl))
  refine jH rfl (anm o (by omega)) ?_
  rintro r6 P ⟨a1,rfl,g1,g,F6⟩
  refine⟨F6.len,?_⟩
  simp only[S9,↓uL]
  exact Em (F6.kq aV) rfl g1 g λds h=>⟨ds,rfl,h⟩
def BP:FT:=pn NO
def ax1{w g Lw K}:=rQ BP NO w g Lw K
def apB:dO:=(aln,E1)::(Lx,BP)::apz
theorem Rj:eJ apB:=bI (rj NN) (bI (si NO) (Ri))
def amo:=ai @ax0<|ai @ax1<|@Ld
def auI:=bi 2 []
def afN t3 R t8 s9:=sV (aK 4 s9 t3 t8) λa=>aw 4 a t3 λb=>aE R a [b]
def afO w_1 R t3 s4:=aw 15 s4 w_1 λb=>cB Av [b] s4 4 λc a=>cB Aw [c] a 5 (afN t3 R)
def afM w_1 s2 R:=eV (bs 52 nJ s2 2) (afO w_1 R)
theorem aMb{b:List AV}{R:bd}(l0:L b=15)(h:H1 40 15 1 b λc d=>afM c d R):Ct M7 [.a b] R:=z1 auI Rj Tryz.func11 l0 h
def auJ:=bi 4 []
def afQ t5 R t13 s14:=sV (aK 4 s14 t5 t13) λa=>aw 4 a t5 λb=>aE R a [b]
def afR g_3 t5 R t8 s9:=aw 6 s9 g_3 λb=>cB DL [t8,b] s9 10 λc a=>cB Aw [t8] a 12 (afQ t5 R)
def afS w_1 g_3 R t5 s6:=aw 15 s6 w_1 λa=>cB Av [a] s6 7 (afR g_3 t5 R)
def afP w_1 g_3 s4 R:=eV (bs 52 nJ s4 4) (afS w_1 g_3 R)
theorem aMc{b:List AV}{c:List AV}{R:bd}(l0:L b=15)(l1:L c=6)(h:H2 40 15 2 b 42 6 3 c λd e f=>afP d e f R):Ct M8 [.a b, .a c] R:=z2 auJ Rj Tryz.func14 l0 l1 h
section
variable{Y:ae}{b:Id}{w:am}{ns:List ap}{out:List (List Int)}{n a:AV}{d:Nat}{K:be}
theorem am3{w:am}(e:VW w){Y:ae}(z:L Y=4096):∃r m,(∃b n a,r= .p b 0 0/\cm m b w (cw w) (j6 (cw w) w) n a/\Fx Y m []/\bK Y b)/\cZ aS GG Av [.a w.c] Y r m:=by refine aMg z rfl λH v1 K2 an nf b1=>?_;have f:Fx Y H []:=K2.fx [];have k:L H=4096:=f.len.trans z;have G:aN (V 15) w.c=V (.a w.c):=rfl;have i:=e.wv.ok.ev;have u:sE w (cw w):=Rq i e.wv.ts;simp only[Jk,u0,u1,b1,G,ar,amo,↓uL];have al:=e.ln;have B:=e.l5;have g:L (cw w)<100000:=(by omega);have q1:=KB (ns:=cw w) i;have q2:=Kx (ns:=cw w) e (L w.aQ.ak+1) (dA _);have q3:=Kz (ns:=cw w) (w:=w) B i;have q4:=KA (ns:=cw w) e (L w.ac) (dA _);have q6:=Kw (ns:=cw w) e;have D:fN w.aQ w.init=U:=(by have v:=(ri e.hv).1;simp only[oh,cP,fK] at v;exact v.1.1.1.1.2);refine⟨⟨e.wv.ok,e.wv.ts,D⟩,λt=>⟨.inl rfl,?_⟩⟩;have E:L w.c=15:=(by simp[am.c,br.c,bW.c,aW.c]);have y:bM aqe [(0,15),(15,1),(16,1)] [(0, .a w.c),(1, .l ((cw w).map ap.c) t U)]=V (.a (w.c++[.l ((cw w).map ap.c) t U, .l [] U U])):=rfl;simp only[y,aY,↓uL];refine bxI (by simp[E]) (by decide) (by rw[k];decide) λM s5 o s b5=>?_;have S:cm s5 (8,M) w (cw w) [] (.l ((cw w).map ap.c) t U) (.l [] U U):=⟨b5,⟨_,_,rfl⟩,bc.nil,o.len.trans k,rfl,by simp[aA]⟩;generalize cw w=ns at*;refine aw6 S g i (by simp only[bO];omega) λa6 s6 T N=>?_;refine awX T g e.wv (by simp only[dW,oH];omega) λa7 s7 W O=>?_;simp only[agj,↓uL];have F:∀x∈aR ns 5,aF (L w.ac) x.a/\(0<=x.b->aF (L w.ac) x.b):=λx j=>⟨(u.ok x j).1,λh=>((u.ok x j).2.2 h).1⟩;refine ub rfl (aCC W g e.wv F (by omega) (by simp only[bq,dW,oH];omega)) λa8 s8 X P=>?_;refine ub rfl (aCI X g e.wv (λr x j h0=>((Kt j).2 h0).1) (λr=>by have:=vU w r;omega) (yc w) e.hp (by simp only[bq,dW,oH,rJ];omega)) λa9 s9 Z R=>?_;have A:=((N.trans O).trans P).trans R;refine⟨(8,M),_,a9,rfl,by simpa[j6] using Z,((f.trans o).trans A.fx).mono λq C=>?_,s.old f⟩;simp only[dW,aA,cE] at C;subst C;exact .inr (s.old f).no
end
theorem PH(w:am)(t:gf w=U/\hU w):Ct M7 [.a w.c] (λr=>∃ds,r= .a ds/\Lk ds (vZ w (j6 (cw w) w)).c):=by refine aMb rfl λD l p A=>?_;obtain⟨u,s⟩:=t;have e:=vw s u;have m:aN (V 15) w.c=V (.a w.c):=rfl;simp only[afM,↓uL];refine cV l λF E f v q=>?_;have k:=f.kq p;simp only[afO,u0,u1,k,m,↓uL];refine jH rfl (am3 e (f.len.trans l)) ?_;rintro B y ⟨b,n,a,rfl,o,i,x⟩;refine⟨i.len,?_⟩;refine jH rfl (am4 o (by have:=e.ln;omega)) ?_;rintro C z ⟨a1,rfl,g1,g,j⟩;refine⟨j.len,?_⟩;simp only[afN,↓uL];exact Em ((i.trans j).kq q) rfl g1 g λds h=>⟨ds,rfl,h⟩
def Gb:FT:=om PH
def azt{w Lw K}:=qz Gb PH w Lw K
theorem PI(w:am)(g:cJ)(F:gf w=U/\hU w/\qC w g=U):Ct M8 [.a w.c, .a g.c] (λr=>∃ds,r= .a ds/\Lk ds (vZ w (j6 (cw w) w++jx (cw w) w g)).c):=by refine aMc rfl rfl λs2 u A C h0=>?_;obtain⟨H,D,E⟩:=F;have f:=vw D H;have G:=Lj E;have x:aN (V 15) w.c=V (.a w.c):=rfl;have N:aN (V 6) g.c=V (.a g.c):=rfl;have O:=Kv (ns:=cw w) f f.l5;have P:=f.ln;simp only[afP,↓uL];refine cV u λv2 s3 l R B=>?_;have p:=l.kq A;have s:=l.kq C;simp only[afS,u0,u1,p,x,↓uL];refine jH rfl (am3 f (l.len.trans u)) ?_;rintro r4 T ⟨b,n,a,rfl,j,m,S⟩;refine⟨m.len,?_⟩;have i:=m.kq B;have t:=m.kq s;have M:∀{k v:Nat},k≠sB->(k,v)≠b:=λ{k v} h e=>h (by have:=j.sb;rw[<-e] at this;exact this);simp only[afR,u0,u1,t,N,↓uL];refine ub rfl (aCu j (by omega) f.wv (yc w) g G.h1 G.h2 (λh=>(G.h4 h).2.1) (by omega)) λZ W z y=>?_;have q:=y.keep i (M (by decide)) (j.nv i (.inl rfl));refine jH rfl (am4 z (by omega)) ?_;rintro r5 X ⟨a1,rfl,g1,g,o⟩;refine⟨o.len,?_⟩;simp only[afQ,↓uL];exact Em (o.kq q) rfl g1 g λds h=>⟨ds,rfl,h⟩
def Gc:FT:=pn PI
def azu{w g Lw K}:=rQ Gc PI w g Lw K
def apC:dO:=(M7,Gb)::(M8,Gc)::apB
theorem Rk:eJ apC:=bI (rj PH) (bI (si PI) (Rj))
def fsR:=ai @azt<|ai @azu<|@amo
abbrev EO:List AV:=[(.l [] U U),(.l [] U U),(.l [] U U),(.l [] U U),(.l [] U U),(.l [] U U)]
abbrev ap7:List AV:=[(sv []),(iv 0)]
abbrev ap8:List AV:=[(sv []),(bv I)]
abbrev ap9:List AV:=[(iv 0),(iv 0),(iv 0)]
abbrev ap4:List AV:=[(sv []),(iv 0),(iv 0),(bv I),(iv 0)]
def au4:=bi 15 [(4,([22],[0,1,21])),(10,([3],[0,1,2,21,22]))]
def ajQ vs32(c:aG)(a:bu) s33 s46:=aV (gt vs32 0) (iv 1) λb=>c [b] s46/\a [b] s46<a vs32 s33
def arR w_23 vs32 I32 m32 s33 t43 s44:=aB 5 s44 w_23 λa=>sV (aK 1 s44 a t43) (ajQ vs32 I32 m32 s33)
def ajY w_23 vs29(c:aG)(a:bu) s30 I32 m32 vs32 s33:=∀_:Rg,aU (gt vs32 0) (iv 6) λe=>ah e (ag 5 s33 w_23 λf=>aO .mul (iv 10) (gt vs29 0) λg=>aV g (gt vs32 0) λh=>aV h (iv 1) λi=>rV (bM BH [(0,1),(1,1),(2,1)] [(0,(gt vs29 0)),(1,(gt vs32 0)),(2,i)]) λj=>eV (aX ap9 1 s33 [(0,j)]) λk d=>eV (bS 95 BH 24 d 40 f k) (arR w_23 vs32 I32 m32 s33)) (aV (gt vs29 0) (iv 1) λb=>c [b] s33/\a [b] s33<a vs29 s30)
def ajZ t28 w_23 t1 R I29 m29 vs29 s30:=∀_:Rg,aU (gt vs29 0) t28 λb=>ah b (lV [(iv 0)] s30 (ajY w_23 vs29 I29 m29 s30)) (aw 6 s30 w_23 λc=>sV (aK 6 s30 t1 c) λa=>aw 6 a t1 λd=>aE R a [d])
def ajR w_23 t1 R s25:=ag 4 s25 w_23 λa=>aJ s25 a λb=>lV [(iv 0)] s25 (ajZ b w_23 t1 R)
def ajS t8 t13 t16 t18 t1 R t20 s21:=rV (bM EO [(0,1),(1,1),(2,1),(3,1),(4,1),(5,1)] [(0,t8),(1,t13),(2,t16),(3,t18),(4,t20)]) λc=>eV (bs 28 EO s21 1) λa b=>sV (aK 6 b a c) (ajR a t1 R)
def ajT t8 t13 t16 t1 R t18 s19:=eV (aX ro 4 s19 [(0,(sv [109,97,105,110])),(1,(sv [116,49])),(2,(sv [116,50])),(3,(sv [116,51]))]) (ajS t8 t13 t16 t18 t1 R)
def ajU t8 t13 t1 R t16 s17:=eV (aX ro 1 s17 [(0,(sv [102]))]) (ajT t8 t13 t16 t1 R)
def ajV t8 t1 R t13 s14:=rV (bM BG [(0,1),(1,1)] [(0,(sv [99]))]) λa=>eV (aX ap7 1 s14 [(0,a)]) (ajU t8 t13 t1 R)
def ajW t1 R t8 s9:=rV (bM wX [(0,1),(1,1)] [(0,(sv [109]))]) λa=>rV (bM wX [(0,1),(1,1)] [(0,(sv [110]))]) λb=>rV (bM wX [(0,1),(1,1)] [(0,(sv [114])),(1,(bv U))]) λc=>eV (aX ap8 3 s9 [(0,a),(1,b),(2,c)]) (ajV t8 t1 R)
def ajX R t1 s2:=rV (bM pj [(0,1),(1,1),(2,1),(3,1),(4,1)] [(0,(sv [120]))]) λt3=>rV (bM pj [(0,1),(1,1),(2,1),(3,1),(4,1)] [(0,(sv [121])),(4,(iv 1))]) λt4=>rV (bM pj [(0,1),(1,1),(2,1),(3,1),(4,1)] [(0,(sv [118])),(3,(bv U))]) λa=>rV (bM pj [(0,1),(1,1),(2,1),(3,1),(4,1)] [(0,(sv [113])),(2,(iv 2))]) λb=>rV (bM pj [(0,1),(1,1),(2,1),(3,1),(4,1)] [(0,(sv [113])),(1,(iv 1)),(2,(iv 2))]) λc=>eV (aX ap4 5 s2 [(0,t3),(1,t4),(2,a),(3,b),(4,c)]) (ajW t1 R)
def ajP s0 R:=eV (bs 28 EO s0 0) (ajX R)
theorem aMx{R:bd}(h:H0 λs0=>ajP s0 R):Ct Nd [] R:=z0 au4 Rk Tryz.func61 h
def atZ:=bi 24 [(4,([4],[1,2,3])),(10,([5],[1,2,3])),(16,([6],[1,2,3])),(21,([],[1,2,3,6,7]))]
def acV vs9(c:aG)(b:bu) s10 s23:=aV (gt vs9 0) (iv 1) λa=>c [a] s23/\b [a] s23<b vs9 s10
def arO s_6 vs9 I9 m9 s10 t20 s21:=aB 0 s21 s_6 λa=>sV (aK 1 s21 a t20) (acV vs9 I9 m9 s10)
def acW vs25(c:aG)(a:bu) s26 s38:=aV (gt vs25 0) (iv 1) λb=>c [b] s38/\a [b] s38<a vs25 s26
def arP s_6 vs25 I25 m25 s26 t35 s36:=aB 2 s36 s_6 λa=>sV (aK 1 s36 a t35) (acW vs25 I25 m25 s26)
def acX vs40(c:aG)(a:bu) s41 s60:=aV (gt vs40 0) (iv 1) λb=>c [b] s60/\a [b] s60<a vs40 s41
def arQ s_6 vs40 I40 m40 s41 t57 s58:=aB 3 s58 s_6 λa=>sV (aK 1 s58 a t57) (acX vs40 I40 m40 s41)
def ac0 s_6 t_47 vs40 I40 m40 s41(e:eQ) s51:=∀_:Rg,ag 3 s51 s_6 λb=>aw 3 s51 t_47 λc=>eV (aX EJ 1 s51 [(0,c)]) λd a=>eV (bS 98 mc 24 a 49 b d) (arQ s_6 vs40 I40 m40 s41)
def ac1 vs40 s49 t_47(a:aG):=al (gt vs40 0) (iv 0) λc=>ah c (aB 0 s49 t_47 λd=>sV (aK 1 s49 d (iv 1)) λb=>a [] b) (a [] s49)
def acY s_6 t_47 vs40 I40 m40 s41 s49:=jV 21 (ac0 s_6 t_47 vs40 I40 m40 s41) (ac1 vs40 s49 t_47)
def ac3 w_1 s_6 t3 R I40 m40 vs40 s41:=∀_:Rg,ag 4 s41 w_1 λd=>aJ s41 d λe=>aU (gt vs40 0) e λf=>ah f (rV (bM mc [(0,1),(1,1),(2,1)] [(0,(iv 0))]) λg=>eV (bs 98 mc s41 7) λa c=>sV (aK 3 c a g) (acY s_6 a vs40 I40 m40 s41)) (aw 4 s41 s_6 λh=>sV (aK 4 s41 t3 h) λb=>aw 4 b t3 λi=>bz R b [i])
def ac2 w_1 s_6 t3 R I25 m25 vs25 s26:=∀_:Rg,ag 3 s26 w_1 λb=>aJ s26 b λc=>aU (gt vs25 0) c λd=>ah d (ag 2 s26 s_6 λe=>eV (aX BD 1 s26 [(0,(bv I))]) λf a=>eV (bS 4 BE 1 a 32 e f) (arP s_6 vs25 I25 m25 s26)) (lV [(iv 0)] s26 (ac3 w_1 s_6 t3 R))
def ac4 w_1 s_6 t3 R I9 m9 vs9 s10:=∀_:Rg,ag 1 s10 w_1 λb=>aJ s10 b λc=>aU (gt vs9 0) c λd=>ah d (ag 0 s10 s_6 λe=>rV (bM oi [(0,1),(1,1)] [(0,(iv (-1)))]) λf=>eV (aX EH 1 s10 [(0,f)]) λg a=>eV (bS 100 oi 32 a 20 e g) (arO s_6 vs9 I9 m9 s10)) (lV [(iv 0)] s10 (ac2 w_1 s_6 t3 R))
def acZ w_1 R t3 s4:=rV (bM jr [(0,1),(1,1),(2,1),(3,1)] [(1,(iv (-1)))]) λd=>eV (bs 33 jr s4 3) λa b=>sV (aK 4 b a d) λc=>lV [(iv 0)] c (ac4 w_1 a t3 R)
def IH w_1 s2 R:=eV (bs 33 jr s2 2) (acZ w_1 R)
theorem aJt{a:AV}{s0:ae}{R:be}(h:eV (ej 28 6 s0 1 a) λb c=>IH b c R):EB Au [a] s0 R:=zB atZ Rk Tryz.func118 h
theorem aLs{d:List AV}{s0:ae}{R:be}(hs:L s0=4096)(l0:L d=6)(h:∀(b:ae) (c:Nat),Kp s0 b->(∀k,k≠1->aZ b k=aZ s0 k)->(∀x,box s0 (1,c)≠V x)->box b (1,c)=V ⟨28,6,U,U,[d]⟩->IH (.p (1,c) 0 0) b R):EB Au [.a d] s0 R:=by refine aJt ?_;refine iN rfl l0 (by decide) (by decide) hs λb c i g0 j e=>?_;exact h b c i (λk f=>g0 k f) (λx g=>j x ((Kp.refl _).keep _ _ g)) e
theorem Dv{Y:ae}{b:Id}{T e:TypeId}{z k j d by':Nat}{cs zs:List AV}{a:AV}{rows new:List (List AV)}{t o:Bool}{K:ae->Prop}(M:box Y b=V ⟨T,z,U,U,[cs]⟩)(R:j<L cs)(G:bc Y e k a rows)(m:b∉aA a)(X:L zs=k)(C:0<k)(N:d<L Y)(W:∀r∈rows,L r=k)(S:∀r∈new,L r=k)(A:(L rows+L new)*(by'+1)<=1099511627776)(n:b.1≠d)(H:∀f i,box i b=V ⟨T,z,U,U,[cs.set j f]⟩->bc i e k f (rows++new)->Fx Y i (b::aA a)->(∀q∈aA f,(q∈aA a\/bK Y q)/\(q∈aA a\/q.1=d))->K i):eV (bS e zs by' Y d a (.l new t o)) λx s=>rV (iQ j s (.p b 0 0)) λy=>sV (aK 1 s y x) K:=by refine gD G X C N W S A λf i g F P B=>?_;have v:=F.keep _ _ m M;have O:iQ j i (.p b 0 0)=V (.p b 0 j):=(by simp[iQ,v]);simp only[O,aY,↓uL];refine cy (y:=1) (cs:=[f]) v (ms g) rfl (by show j+1<=L cs;omega) λD u E=>?_;have w:b∉aA f:=λc=>(by rcases B b c with h|h;exact m h;exact n h);refine H f D ?_ (g.fx u λq c e=>w (by simp at e;subst e;exact c)) ((F.trans u).mono λq c=>?_) λq c=>⟨P q c,B q c⟩;rw[E,List.set_eq_take_append_cons_drop,if_pos R];simp;rcases dF.1 c with h|h;exact .inl (List.mem_cons_of_mem _ h);simp at h;subst h;exact .inl (by simp)
def qZ(n:Nat):List bF:=(aH n).map λi=>⟨if i=0 then 1 else 0,0,I⟩
theorem aog{α:Type}{n:Nat}{x:α}{β:Type}{f:α->β}:(er (n+1) x).map f=(er n x).map f++[f x]:=by rw[List.replicate_succ',dg];rfl
section
variable{Y:ae}
theorem aDP{x0 x2 x5:AV}{ls fs ts:List (List AV)}{t1 o1 t3 o3 t4 o4:Bool}(hl:L Y=4096)(h1:L ls<=10)(h3:L fs<=10)(h4:L ts<=10):∃r u,(∃a1 m n,r= .a [a1,iv (-1),m,n]/\bc u 100 2 a1 ((er (L ls) (⟨-1,[]⟩:cg)).map cg.c)/\bc u 4 1 m ((er (L fs) I).map cb)/\bc u 98 3 n ((qZ (L ts)).map bF.c)/\Fx Y u []/\(∀q∈aA a1,bK Y q/\q.1=20)/\(∀q∈aA m,bK Y q/\q.1=32)/\(∀q∈aA n,bK Y q/\q.1=49))/\cZ aS GG Au [.a [x0, .l ls t1 o1,x2, .l fs t3 o3, .l ts t4 o4,x5]] Y r u:=by refine aLs hl rfl λs2 v1 K2 bG nf b1=>?_;have O:Fx Y s2 []:=K2.fx [];have T:L s2=4096:=O.len.trans hl;simp only[IH,↓uL];refine cV T λv2 s3 F3 N3 b2=>?_;have a5:L s3=4096:=F3.len.trans T;have aV:bM jr [(0,1),(1,1),(2,1),(3,1)] [(1,iv (-1))]=V (.a [.l [] U U,iv (-1), .l [] U U, .l [] U U]):=rfl;simp only[acZ,aV,aY,↓uL];refine cV a5 λv s4 F4 N4 b6=>?_;refine cy (y:=4) (cs:=[.l [] U U,iv (-1), .l [] U U, .l [] U U]) b6 rfl rfl (by decide) λC F5 b6=>?_;have aO:box C (3,v)=V ⟨33,4,U,U,[[.l [] U U,iv (-1), .l [] U U, .l [] U U]]⟩:=b6;have H:Fx s2 C []:=((F3.trans F4).trans F5).mono (by simp only[dW,cE];rintro e rfl;exact .inr (N4.old F3).no);have a6:L C=4096:=H.len.trans T;have c1:=H.kq b1;have c2:box C (2,v2)=_:=F5.kq (F4.kq b2);have N6:bK Y (3,v):=(N4.old F3).old O;have bd:∀{g:ae} {ks:List Id},Fx C g ks->((1,v1):Id)∉ks->box g (1,v1)=V ⟨28,6,U,U,[[x0, .l ls t1 o1,x2, .l fs t3 o3, .l ts t4 o4,x5]]⟩:=λF h=>F.keep _ _ h c1;have k1:∀{x:List AV} {y:AV},aN J (y::x)=V y:=λ{x y}=>(by cases y<;>rfl);have M:∀{l:List cg},∀r∈l.map cg.c,L r=2:=(by intro l r Z;obtain⟨x,_,rfl⟩:=dN.1 Z;rfl);have K:∀{l:List Bool},∀r∈l.map cb,L r=1:=(by intro l r Z;obtain⟨x,_,rfl⟩:=dN.1 Z;rfl);have N:∀{l:List bF},∀r∈l.map bF.c,L r=3:=(by intro l r Z;obtain⟨x,_,rfl⟩:=dN.1 Z;rfl);refine yV (L ls) (λk _ g=>∃a1,box g (3,v)=V ⟨33,4,U,U,[[a1,iv (-1), .l [] U U, .l [] U U]]⟩/\bc g 100 2 a1 ((er k (⟨-1,[]⟩:cg)).map cg.c)/\Fx C g [(3,v)]/\∀q∈aA a1,bK C q/\q.1=20) ⟨_,aO,bc.nil,Fx.refl _ _,by simp[aA]⟩ ?_;rintro k _ u E ⟨a1,m1,g1,w,D⟩;have d1:=bd w (by simp);have am:L u=4096:=w.len.trans a6;have aW:bM oi [(0,1),(1,1)] [(0,iv (-1))]=V (.a [iv (-1), .l [] U U]):=rfl;have aZ:∀{Y:ae},aX EH 1 Y [(0, .a [iv (-1), .l [] U U])]=V (.l ([(⟨-1,[]⟩:cg)].map cg.c) U U,Y):=λ{Y}=>(by simp[aX,gp,eY,nrm,gK,eR,gi,eB,iR,kills,kC,eN,er];rfl);simp only[ac4,au,aI,u0,u1,d1,k1,nM,ip,aj,fS,m1,aW,aZ,↓uL];refine⟨λh=>?_,λh=>?_⟩;have B:=aL h;refine Dv m1 (by simp) g1 (λf=>by have:=(D _ f).2;simp at this) rfl (by decide) (by rw[am];decide) M M (by simp only[bJ,oA,bZ,bO];omega) (by simp) λR Y2 m2 g2 i p=>?_;simp only[acV,au,u0,u1,↓uL];refine yU B ⟨R,m2,by rw[aog];exact g2,(w.trans i).mono λq f=>?_,λq f=>⟨?_,?_⟩⟩;simp only[dF,eW,cE,ql,or_false] at f⊢;rcases f with h|h|h;exact .inl h;exact .inl h;exact .inr (D q h).1.no;exact(p q f).1.elim (λh=>(D q h).1) λh=>h.old w;exact(p q f).2.elim (λh=>(D q h).2) id;have A:k=L ls:=bP E (bw h);subst A;clear E h;refine yV (L fs) (λk _ g=>∃m,box g (3,v)=V ⟨33,4,U,U,[[a1,iv (-1),m, .l [] U U]]⟩/\bc g 4 1 m ((er k I).map cb)/\Fx u g [(3,v)]/\∀q∈aA m,bK u q/\q.1=32) ⟨_,m1,bc.nil,Fx.refl _ _,by simp[aA]⟩ ?_;rintro k _ Y2 E ⟨m,m2,g2,i,p⟩;have d2:=i.kq d1;have W:L Y2=4096:=i.len.trans am;have av:∀{Y:ae},aX BD 1 Y [(0,bv I)]=V (.l ([I].map cb) U U,Y):=λ{Y}=>iz;simp only[ac2,au,aI,u0,u1,d2,k1,nM,ip,aj,fS,m2,av,↓uL];refine⟨λh=>?_,λh=>?_⟩;have B:=aL h;refine Dv m2 (by simp) g2 (λf=>by have:=(p _ f).2;simp at this) rfl (by decide) (by rw[W];decide) K K (by simp only[bJ,oA,bZ,bO];omega) (by simp) λR Y3 m3 g3 j s=>?_;simp only[acW,au,u0,u1,↓uL];refine yU B ⟨R,m3,by rw[aog];exact g3,(i.trans j).mono λq f=>?_,λq f=>⟨?_,?_⟩⟩;simp only[dF,eW,cE,ql,or_false] at f⊢;rcases f with h|h|h;exact .inl h;exact .inl h;exact .inr (p q h).1.no;exact(s q f).1.elim (λh=>(p q h).1) λh=>h.old i;exact(s q f).2.elim (λh=>(p q h).2) id;have A:k=L fs:=bP E (bw h);subst A;clear E h;refine yV (L ts) (λk _ g=>∃n,box g (3,v)=V ⟨33,4,U,U,[[a1,iv (-1),m,n]]⟩/\bc g 98 3 n ((qZ k).map bF.c)/\Fx Y2 g [(3,v)]/\∀q∈aA n,bK Y2 q/\q.1=49) ⟨_,m2,bc.nil,Fx.refl _ _,by simp[aA]⟩ ?_;rintro k _ Y3 E ⟨n,m3,g3,j,s⟩;have d3:=j.kq d2;have X:L Y3=4096:=j.len.trans W;have a0:bM mc [(0,1),(1,1),(2,1)] [(0,iv 0)]=V (.a (bF.c ⟨0,0,I⟩)):=rfl;have aw:∀{Y:ae} {x:bF},aX EJ 1 Y [(0, .a (bF.c x))]=V (.l ([x].map bF.c) U U,Y):=λ{Y x}=>ua rfl rfl rfl (by decide) rfl (by decide);have bb:∀{x:bF},aN (V 3) (bF.c x)=V (.a (bF.c x)):=λ{x}=>rfl;have an:∀{x y x2 x3:AV},aN (V 4) [x,y,x2,x3]=V (.a [x,y,x2,x3]):=rfl;have a8:qZ (k+1)=qZ k++[⟨if k=0 then 1 else 0,0,I⟩]:=(by simp[qZ,qn]);have a7:L (qZ k)=k:=(by simp[qZ]);simp only[ac3,au,aI,u0,u1,d3,k1,nM,ip,aj,fS,a0,↓uL];refine⟨λh=>?_,λh=>?_⟩;have B:=aL h;refine cV X λv7 Y4 aD N7 b7=>?_;refine cy (y:=3) (cs:=bF.c ⟨0,0,I⟩) b7 rfl rfl (by decide) λP t b7=>?_;have S:box P (7,v7)=V ⟨98,3,U,U,[bF.c ⟨0,0,I⟩]⟩:=b7;have al:Fx Y3 P []:=aD.tn t N7.no;simp only[acY,di,↓uL];refine mG (λvs g=>vs=[]/\box g (7,v7)=V ⟨98,3,U,U,[bF.c ⟨if k=0 then 1 else 0,0,I⟩]⟩/\Fx Y3 g []) (λb hJ=>?_) ?_;simp only[ac1,au,u0,u1,S,aj,↓uL];refine⟨λhi=>?_,λhi=>hJ [] P ⟨rfl,?_,al⟩⟩;refine cy (y:=1) (cs:=[iv 1]) S rfl rfl (by decide) λY6 F6 b8=>hJ [] Y6 ⟨rfl,?_,al.tn F6 N7.no⟩;have h0:k=0:=(by simpa using hi);rw[if_pos h0];exact b8;have h0:¬k=0:=(by simpa using hi);rw[if_neg h0];exact S;rintro vs Y6 ⟨rfl,b8,z⟩;have m6:=z.kq m3;have g6:=g3.fx z (by simp);simp only[ac0,aI,u0,u1,m6,b8,k1,bb,nM,ip,aj,aw,↓uL];refine Dv m6 (by simp) g6 (λf=>by have:=(s _ f).2;simp at this) rfl (by decide) (by rw[z.len,X];decide) N N (by simp only[bJ,a7,bZ,bO];omega) (by simp) λR Y7 m7 g7 F7 P7=>?_;simp only[acX,au,u0,u1,↓uL];refine yU B ⟨R,m7,by rw[a8,dg];exact g7,((j.trans z).trans F7).mono λq f=>?_,λq f=>⟨?_,?_⟩⟩;simp only[dF,eW,cE,ql,or_false] at f⊢;rcases f with h|h|h;exact .inl h;exact .inl h;exact .inr (s q h).1.no;exact(P7 q f).1.elim (λh=>(s q h).1) λh=>(h.old z).old j;exact(P7 q f).2.elim (λh=>(s q h).2) id;have A:k=L ts:=bP E (bw h);subst A;have aP:=j.kq (i.kq (w.kq c2));simp only[m3,u0,u1,an,↓uL];refine cy (y:=4) (cs:=[a1,iv (-1),m,n]) aP rfl rfl (by decide) λP t b5=>?_;have aM:box P (2,v2)=V ⟨33,4,U,U,[[a1,iv (-1),m,n]]⟩:=b5;simp only[aM,u0,u1,an,bz,ew,↓uL];have o:∀{a:AV} {d:Nat},(∀q∈aA a,q.1=d)->d≠2->d≠3->∀q∈aA a,q∉[((2,v2):Id)]/\q∉[((3,v):Id)]:=λh h1 h2 q f=>⟨λe=>by simp at e;subst e;exact h1 (h _ f).symm,λe=>by simp at e;subst e;exact h2 (h _ f).symm⟩;have n1:=o (λq f=>(D q f).2) (by decide) (by decide);have n2:=o (λq f=>(p q f).2) (by decide) (by decide);have n3:=o (λq f=>(s q f).2) (by decide) (by decide);have G:∀{q:Id},bK C q->bK Y q:=λh=>(h.old H).old O;refine⟨a1,m,n,rfl,((g1.fx i λq f=>(n1 q f).2).fx j λq f=>(n1 q f).2).fx t λq f=>(n1 q f).1,(g2.fx j λq f=>(n2 q f).2).fx t λq f=>(n2 q f).1,g3.fx t λq f=>(n3 q f).1,(((((O.trans H).trans w).trans i).trans j).trans t).mono λq f=>?_,λq f=>⟨G (D q f).1,(D q f).2⟩,λq f=>⟨G ((p q f).1.old w),(p q f).2⟩,λq f=>⟨G (((s q f).1.old i).old w),(s q f).2⟩⟩;simp only[dW,dF,cE,or_self] at f;rcases f with rfl|rfl;exact .inr N6.no;exact .inr (N3.old O).no
end
def wI(n:Nat):List dL:=(aH n).flatMap λ(t:Nat)=>(aH 6).map λ(k:Nat)=>⟨(t:Int),(k:Int),10*(t:Int)+k+1⟩
def dE:br:=⟨[⟨⟨#[120]⟩,0,0,I,0⟩,⟨⟨#[121]⟩,0,0,I,1⟩,⟨⟨#[118]⟩,0,0,U,0⟩,⟨⟨#[113]⟩,0,2,I,0⟩,⟨⟨#[113]⟩,1,2,I,0⟩],[⟨⟨#[109]⟩,I⟩,⟨⟨#[110]⟩,I⟩,⟨⟨#[114]⟩,U⟩],[⟨⟨#[99]⟩,0⟩],[⟨#[102]⟩],[⟨#[109,97,105,110]⟩,⟨#[116,49]⟩,⟨#[116,50]⟩,⟨#[116,51]⟩],wI 4⟩
def gu(t o:Bool):List AV:=[.l (dE.cells.map cA.c) U U, .l (dE.ak.map dS.c) U U, .l (dE.bC.map el.c) U U, .l (dE.bU.map cs) U U, .l (dE.ay.map cs) U U, .l (dE.dU.map dL.c) t o]
theorem PM:Ct Nd [] (λr=>∃t o,r= .a (gu t o)):=by
 refine aMx λs0 hl h0=>?_
 simp only[ajP,↓uL]
 refine cV hl λv0 s1 F1 N1 b1=>?_
 have F:L s1=4096:=F1.len.trans hl
 have hc:∀{Y:ae},aX ap4 5 Y [(0, .a (cA.c ⟨⟨#[120]⟩,0,0,I,0⟩)),(1, .a (cA.c ⟨⟨#[121]⟩,0,0,I,1⟩)),(2, .a (cA.c ⟨⟨#[118]⟩,0,0,U,0⟩)),(3, .a (cA.c ⟨⟨#[113]⟩,0,2,I,0⟩)),(4, .a (cA.c ⟨⟨#[113]⟩,1,2,I,0⟩))]=V (.l (dE.cells.map cA.c) U U,Y):=λ{Y}=>rfl
 have aa:bM pj [(0,1),(1,1),(2,1),(3,1),(4,1)] [(0,sv [120])]=V (.a (cA.c ⟨⟨#[120]⟩,0,0,I,0⟩)):=rfl
 have ab:bM pj [(0,1),(1,1),(2,1),(3,1),(4,1)] [(0,sv [121]),(4,iv 1)]=V (.a (cA.c ⟨⟨#[121]⟩,0,0,I,1⟩)):=rfl
 have ac:bM pj [(0,1),(1,1),(2,1),(3,1),(4,1)] [(0,sv [118]),(3,bv U)]=V (.a (cA.c ⟨⟨#[118]⟩,0,0,U,0⟩)):=rfl
 have ad:bM pj [(0,1),(1,1),(2,1),(3,1),(4,1)] [(0,sv [113]),(2,iv 2)]=V (.a (cA.c ⟨⟨#[113]⟩,0,2,I,0⟩)):=rfl
 have af:bM pj [(0,1),(1,1),(2,1),(3,1),(4,1)] [(0,sv [113]),(1,iv 1),(2,iv 2)]=V (.a (cA.c ⟨⟨#[113]⟩,1,2,I,0⟩)):=rfl
 simp only[ajX,aa,ab,ac,ad,af,aY,hc,bQ,↓uL]
 have am:bM wX [(0,1),(1,1)] [(0,sv [109])]=V (.a (dS.c ⟨⟨#[109]⟩,I⟩)):=rfl
 have an:bM wX [(0,1),(1,1)] [(0,sv [110])]=V (.a (dS.c ⟨⟨#[110]⟩,I⟩)):=rfl
 have ao:bM wX [(0,1),(1,1)] [(0,sv [114]),(1,bv U)]=V (.a (dS.c ⟨⟨#[114]⟩,U⟩)):=rfl
 have M:∀{Y:ae},aX ap8 3 Y [(0, .a (dS.c ⟨⟨#[109]⟩,I⟩)),(1, .a (dS.c ⟨⟨#[110]⟩,I⟩)),(2, .a (dS.c ⟨⟨#[114]⟩,U⟩))]=V (.l (dE.ak.map dS.c) U U,Y):=λ{Y}=>rfl
 simp only[ajW,am,an,ao,aY,M,bQ,↓uL]
 have av:bM BG [(0,1),(1,1)] [(0,sv [99])]=V (.a (el.c ⟨⟨#[99]⟩,0⟩)):=rfl
 have b:∀{Y:ae},aX ap7 1 Y [(0, .a (el.c ⟨⟨#[99]⟩,0⟩))]=V (.l (dE.bC.map el.c) U U,Y):=λ{Y}=>rfl
 have hf:∀{Y:ae},aX ro 1 Y [(0,sv [102])]=V (.l (dE.bU.map cs) U U,Y):=λ{Y}=>rfl
 have ht:∀{Y:ae},aX ro 4 Y [(0,sv [109,97,105,110]),(1,sv [116,49]),(2,sv [116,50]),(3,sv [116,51])]=V (.l (dE.ay.map cs) U U,Y):=λ{Y}=>rfl
 simp only[ajV,av,aY,b,bQ,ajU,hf,ajT,ht,↓uL]
 have hw:bM EO [(0,1),(1,1),(2,1),(3,1),(4,1),(5,1)] [(0, .l (dE.cells.map cA.c) U U),(1, .l (dE.ak.map dS.c) U U),(2, .l (dE.bC.map el.c) U U),(3, .l (dE.bU.map cs) U U),(4, .l (dE.ay.map cs) U U)]=V (.a [.l (dE.cells.map cA.c) U U, .l (dE.ak.map dS.c) U U, .l (dE.bC.map el.c) U U, .l (dE.bU.map cs) U U, .l (dE.ay.map cs) U U, .l [] U U]):=rfl
 simp only[ajS,hw,aY,↓uL]
 have bi:L dE.ay=4:=rfl
 have bg:∀a,a=dE.dU->wI 4=a:=λa h=>h.symm
 generalize hA:AV.l (dE.cells.map cA.c) U U=A
 generalize hB:AV.l (dE.ak.map dS.c) U U=B
 generalize hC:AV.l (dE.bC.map el.c) U U=C
 generalize hD:AV.l (dE.bU.map cs) U U=D
 refine cV F λv s2 F2 N2 b2=>?_
 refine cy (y:=6) (cs:=[A,B,C,D, .l (dE.ay.map cs) U U, .l [] U U]) b2 rfl rfl (by decide) λi F3 b3=>?_
 have E:box i (1,v)=V ⟨28,6,U,U,[[A,B,C,D, .l (dE.ay.map cs) U U, .l [] U U]]⟩:=b3
 have w:Fx s1 i []:=F2.tn F3 N2.no
 have c1:=w.kq b1
 have G:L i=4096:=w.len.trans F
 have k1:∀{x:List AV} {y:AV},aN J (y::x)=V y:=λ{x y}=>by cases y<;>rfl
 have H:∀{x y x2 x3 x4 x5:AV},aN (V 6) [x,y,x2,x3,x4,x5]=V (.a [x,y,x2,x3,x4,x5]):=rfl
 have aq:∀{Y:ae},fS Y (.l (dE.ay.map cs) U U)=V (iv (4:Nat)):=λ{Y}=>rfl
 simp only[ajR,u0,u1,E,k1,nM,ip,aj,aq,↓uL]
 have n:∀{l:List dL},∀r∈l.map dL.c,L r=3:=by intro l r N;obtain⟨x,_,rfl⟩:=dN.1 N;rfl
 have aw:∀k,wI (k+1)=wI k++(aH 6).map λ(j:Nat)=>⟨(k:Int),(j:Int),10*(k:Int)+j+1⟩:=λk=>cr
 have ax:∀k,L (wI k)<=k*6:=λk=>eU (f:=λ(t:Nat)=>(aH 6).map λ(k:Nat)=>(⟨(t:Int),(k:Int),10*(t:Int)+k+1⟩:dL)) (c:=6) (λt=>by simp) k
 refine yV 4 (λk _ g=>∃a,box g (1,v)=V ⟨28,6,U,U,[[A,B,C,D, .l (dE.ay.map cs) U U,a]]⟩/\bc g 95 3 a ((wI k).map dL.c)/\Fx i g [(1,v)]/\∀q∈aA a,bK i q/\q.1=40) ⟨_,E,bc.nil,Fx.refl _ _,by simp[aA]⟩ ?_
 rintro k _ Y1 M ⟨a1,m1,g1,p,R⟩
 have a7:L Y1=4096:=p.len.trans G
 have a8:=ax k
 simp only[ajZ,au,aI,u0,u1,↓uL]
 refine⟨λh=>?_,λh=>?_⟩
 ·have ar:=aL h
  refine yV 6 (λj _ g=>∃a,box g (1,v)=V ⟨28,6,U,U,[[A,B,C,D, .l (dE.ay.map cs) U U,a]]⟩/\bc g 95 3 a ((wI k++(aH j).map λ(j:Nat)=>(⟨(k:Int),(j:Int),10*(k:Int)+j+1⟩:dL)).map dL.c)/\Fx i g [(1,v)]/\∀q∈aA a,bK i q/\q.1=40) ⟨a1,m1,by simpa using g1,p,R⟩ ?_
  rintro j _ Y2 hj ⟨a2,O,X,m,s⟩
  have ah:∀{Y:ae} {x:dL},aX ap9 1 Y [(0, .a (dL.c x))]=V (.l ([x].map dL.c) U U,Y):=λ{Y x}=>ua rfl rfl rfl (by decide) rfl (by decide)
  have ag:∀{x y z:Int},bM BH [(0,1),(1,1),(2,1)] [(0,iv x),(1,iv y),(2,iv z)]=V (.a (dL.c ⟨x,y,z⟩)):=λ{x y z}=>rfl
  simp only[ajY,au,aI,u0,u1,O,k1,nM,ip,aj,ag,ah,↓uL]
  refine⟨λK=>?_,λK=>?_⟩
  ·have u:j<6:=RF.1 (of_decide_eq_true K)
   rw[show dq.wrap (dq.wrap (dq.wrap (10*(k:Int))+j)+1)=10*(k:Int)+j+1 by
    rw[eM (x:=10*(k:Int)) (by omega) (by omega),eM (x:=10*(k:Int)+j) (by omega) (by omega),eM (by omega) (by omega)]]
   refine Dv O (by simp) X (λb=>by have:=(s _ b).2;simp at this) rfl (by decide) (by rw[m.len,G];decide) n n (by simp only[bJ,bq,sz,bZ,bO];omega) (by simp) λa' Y3 m3 Z P S=>?_
   simp only[ajQ,au,u0,u1,↓uL]
   refine yU u ⟨a',m3,by simp only[qn,dg,<-cC] at Z⊢;exact Z,(m.trans P).mono λq b=>?_,λq b=>⟨?_,?_⟩⟩
   ·simp only[dF,eW,cE,ql,or_false] at b⊢
    rcases b with h|h|h
    ·exact .inl h
    ·exact .inl h
    ·exact .inr (s q h).1.no
   ·exact(S q b).1.elim (λh=>(s q h).1) λh=>h.old m
   ·exact(S q b).2.elim (λh=>(s q h).2) id
  ·have bf:¬(j:Int)<6:=of_decide_eq_false K
   have u:j=6:=by omega
   subst u
   refine yU ar ⟨a2,O,by rw[aw];exact X,m,s⟩
 ·have al:k=4:=bP M (bw h)
  subst al
  have W:=p.kq c1
  simp only[m1,H,u0,u1,↓uL]
  refine cy (y:=6) (cs:=[A,B,C,D, .l (dE.ay.map cs) U U,a1]) W rfl rfl (by decide) λd F5 b5=>?_
  have T:box d (0,v0)=V ⟨28,6,U,U,[[A,B,C,D, .l (dE.ay.map cs) U U,a1]]⟩:=b5
  simp only[T,H,u0,u1,↓uL]
  obtain⟨t,o,q1⟩:=(g1.fx F5 λq b e=>by simp at e;subst e;have:=(R _ b).2;simp at this).frD
  have N:jS d [.a [A,B,C,D, .l (dE.ay.map cs) U U,a1]]= .a (gu t o):=by
   show AV.a [dQ d A,dQ d B,dQ d C,dQ d D,dQ d (.l (dE.ay.map cs) U U),dQ d a1]=_
   rw[q1,<-hA,<-hB,<-hC,<-hD];rfl
  unfold aE
  rw[N]
  exact⟨rfl,t,o,rfl⟩
def Gf:FT:=BK PM
def azy{Lw K}:=al3 Gf PM Lw K
theorem aw4{Y:ae}{d:Nat}{K:be}{t o:Bool}(i:d<L Y)(hK:∀v n,bK Y (d,v)->bK Y (d,v+1)->bK Y (d,v+2)->Fx Y n []->box n (d,v)=V ⟨100,2,U,I,(er 3 (⟨-1,[]⟩:cg)).map cg.c⟩->box n (d,v+1)=V ⟨4,1,U,I,[I].map cb⟩->box n (d,v+2)=V ⟨98,3,U,I,(qZ 4).map bF.c⟩->K (.a [.m (d,v) 3,iv (-1), .m (d,v+1) 1, .m (d,v+2) 4]) n):cN Au [.a (gu t o)] Y d K:=by obtain⟨r,w,⟨a1,a2,a3,rfl,g1,z,A,F,P1,P2,P3⟩,hF⟩:=aDP (Y:=eK) (x0:=sl cA.c dE.cells) (x2:=sl el.c dE.bC) (x5:=sl dL.c dE.dU) (ls:=dE.ak.map dS.c) (fs:=dE.bU.map cs) (ts:=dE.ay.map cs) (t1:=I) (o1:=I) (t3:=I) (o3:=I) (t4:=I) (o4:=I) (oA ..) (by decide) (by decide) (by decide);have e1:L (dE.ak.map dS.c)=3:=rfl;have e2:L (dE.bU.map cs)=1:=rfl;have e3:L (dE.ay.map cs)=4:=rfl;rw[e1] at g1;rw[e2] at z;rw[e3] at A;obtain⟨p,rfl,h1⟩:∃b,a1= .m b 3/\box w b=V ⟨100,2,U,I,(er 3 (⟨-1,[]⟩:cg)).map cg.c⟩:=(by rcases g1 with⟨h,_⟩|⟨b,h,u⟩;exact absurd (congrArg L h) (by decide);exact⟨b,h,u⟩);obtain⟨q,rfl,h2⟩:∃b,a2= .m b 1/\box w b=V ⟨4,1,U,I,[I].map cb⟩:=(by rcases z with⟨h,_⟩|⟨b,h,u⟩;exact absurd (congrArg L h) (by decide);exact⟨b,h,u⟩);obtain⟨s,rfl,h3⟩:∃b,a3= .m b 4/\box w b=V ⟨98,3,U,I,(qZ 4).map bF.c⟩:=(by rcases A with⟨h,_⟩|⟨b,h,u⟩;exact absurd (congrArg L h) (by decide);exact⟨b,h,u⟩);have p1:=(P1 p (by simp[aA])).2;have y:=(P2 q (by simp[aA])).2;have O:=(P3 s (by simp[aA])).2;have B:[AV.a (gu t o)].map (dG Y)=[.a [sl cA.c dE.cells, .l (dE.ak.map dS.c) I I,sl el.c dE.bC, .l (dE.bU.map cs) I I, .l (dE.ay.map cs) I I,sl dL.c dE.dU]]:=rfl;have g:d<L (put Y d ⟨100,2,U,I,(er 3 (⟨-1,[]⟩:cg)).map cg.c⟩):=(by rw[Bf];exact i);generalize G:(⟨100,2,U,I,(er 3 (⟨-1,[]⟩:cg)).map cg.c⟩:bY)=f at*;generalize H:(⟨4,1,U,I,[I].map cb⟩:bY)=x2 at*;generalize M:(⟨98,3,U,I,(qZ 4).map bF.c⟩:bY)=j at*;have k:d<L (put (put Y d f) d x2):=(by rw[Bf];exact g);have N:bV (put Y d f) d=(d,(bV Y d).2+1):=(by simp[bV,put,iD i]);have n2:bV (put (put Y d f) d x2) d=(d,(bV Y d).2+2):=(by have:bV (put (put Y d f) d x2) d=(d,(bV (put Y d f) d).2+1):=(by simp[bV,put,iD i,iD g]);rw[this,N]);have f1:vY f=U:=(by rw[<-G];rfl);have f2:vY x2=U:=(by rw[<-H];rfl);have f3:vY j=U:=(by rw[<-M];rfl);have C:box (put (put (put Y d f) d x2) d j) (bV Y d)=V f:=uA k (uA g (iy i));have D:box (put (put (put Y d f) d x2) d j) (bV (put Y d f) d)=V x2:=uA k (iy g);have E:box (put (put (put Y d f) d x2) d j) (bV (put (put Y d f) d x2) d)=V j:=iy k;have T:Fx Y (put (put (put Y d f) d x2) d j) []:=((kH i).trans (kH g)).trans (kH k);have W:=qQ Y d;have X:bK Y (bV (put Y d f) d):=(qQ _ d).old (kH (x:=f) i);have Z:bK Y (bV (put (put Y d f) d x2) d):=((qQ _ d).old (kH (x:=x2) g)).old (kH (x:=f) i);have aw:bV Y d=(d,(bV Y d).2):=rfl;refine .inr (.inr ⟨by rw[B];rfl,by simp[eX,i],[.m p 3,iv (-1), .m q 1, .m s 4],w,[.m (bV Y d) 3,iv (-1), .m (bV (put Y d f) d) 1, .m (bV (put (put Y d f) d x2) d) 4],put (put (put Y d f) d x2) d j,by rw[B];exact hF,?_,?_,?_⟩);show[p,q,s].Nodup;have P:p≠q:=λe=>(by rw[e,y] at p1;simp at p1);have R:p≠s:=λe=>(by rw[e,O] at p1;simp at p1);have S:q≠s:=λe=>(by rw[e,O] at y;simp at y);simp[P,R,S];simp only[gU,h1,h2,h3,f1,f2,f3,if_true,Option.map_some];rw[N,n2] at*;exact hK (bV Y d).2 _ W X Z T C D E
def ao3:dO:=(Nd,Gf)::apC
theorem apb:eJ ao3:=bI (apN PM) (Rk)
def amj:=ai @azy<|@fsR
def at6:=bi 9 [(4,([4],[1,2,3]))]
def adt s_19 t28 w_1 t30 t31 vs22 t32 t33 t34 t29 t35 t39 t37(c:aG)(a:bu) s23 s40:=dH [(lz s_19),(lz t28),(lz w_1),(lz t30),lzz,(lb U [t31,(gt vs22 0)] []),(lz t32),(lz t33),(lb I [t34] []),(lb I [t29,t35] [32]),(lz s_19),(lb I [t39,t37] [])] [(0,8),(1,8)] (aV (gt vs22 0) (iv 1) λb=>c [b] s40/\a [b] s40<a vs22 s23)
def adu s_19 t28 w_1 t30 t31 vs22 t32 t33 t34 t29 t35 I22 m22 s23 t37 s38:=aB 4 s38 s_19 λa=>sV (aK 1 s38 a t37) (adt s_19 t28 w_1 t30 t31 vs22 t32 t33 t34 t29 t35 a t37 I22 m22 s23)
def adA w_1 s_19 t3 R I22 m22 vs22 s23:=∀_:Rg,ag 0 s23 w_1 λk=>aJ s23 k λl=>aU (gt vs22 0) l λm=>ah m (aB 4 s23 s_19 λb=>aM s23 b λc=>aB 0 s23 w_1 λd=>aM s23 d λe=>ao 5 s23 e (gt vs22 0) λf=>aB 4 s23 f λg=>aM s23 g λh=>eV (aX yW 1 s23 [(0,h)]) λi j=>eV (bS 2 EN 8 j 32 c i) (adu s_19 b w_1 d e vs22 f g h c i I22 m22 s23)) (aw 7 s23 s_19 λn=>sV (aK 7 s23 t3 n) λa=>aw 7 a t3 λo=>bz R a [o])
def adv w_1 t5 t8 t9 t10 t13 t14 t15 t6 t11 t16 s_19 t18 t3 R s21:=dH [(lz w_1),(lb I [(.f 118 [] []),t5] [6]),(lz w_1),(lz t8),(lz t9),(lb I [t10,t10] [10]),(lz w_1),(lz t13),(lz t14),(lb I [t15,t15] [14]),(lb U [t6,t11,t16] []),(lb I [] [3]),(lb I [s_19,t18] [])] [(1,2),(1,3),(1,4),(0,5),(1,5),(1,6),(5,6),(1,7),(5,7),(1,8),(5,8),(0,9),(1,9),(2,9),(3,9),(4,9),(5,9),(0,11),(1,11),(2,11),(3,11),(4,11),(5,11),(6,11),(7,11),(8,11),(9,11),(10,11)] (lV [(iv 0)] s21 (adA w_1 s_19 t3 R))
def adw t6 t11 w_1 t5 t8 t9 t10 t13 t14 t15 t3 R t16 s17:=rV (bM gQ [(0,4),(4,1),(5,1),(6,1)] [(0,t6),(2,t11),(3,t16)]) λb=>eV (bs 37 gQ s17 3) λa c=>sV (aK 7 c a b) (adv w_1 t5 t8 t9 t10 t13 t14 t15 t6 t11 t16 a b t3 R)
def adx w_1 t6 t5 t8 t9 t10 t3 R t11 s12:=aB 4 s12 w_1 λb=>aM s12 b λc=>aJ s12 c λa=>eV (qO 3 bH 8 s12 14 a a) (adw t6 t11 w_1 t5 t8 t9 t10 b c a t3 R)
def ady w_1 t5 t3 R t6 s7:=aB 3 s7 w_1 λb=>aM s7 b λc=>aJ s7 c λa=>eV (qO 2 yW 8 s7 10 a a) (adx w_1 t6 t5 b c a t3 R)
def adz w_1 R t3 s4:=aw 6 s4 w_1 λa=>cN Au [a] s4 6 (ady w_1 a t3 R)
def IK w_1 s2 R:=eV (bs 37 gQ s2 2) (adz w_1 R)
theorem aJu{a:AV}{s0:ae}{R:be}(h:eV (ej 28 6 s0 1 a) λb c=>IK b c R):EB DK [a] s0 R:=zB at6 apb Tryz.func62 h
theorem aLy{d:List AV}{s0:ae}{R:be}(hs:L s0=4096)(l0:L d=6)(h:∀(b:ae) (c:Nat),Kp s0 b->(∀k,k≠1->aZ b k=aZ s0 k)->(∀x,box s0 (1,c)≠V x)->box b (1,c)=V ⟨28,6,U,U,[d]⟩->IK (.p (1,c) 0 0) b R):EB DK [.a d] s0 R:=by refine aJu ?_;refine iN rfl l0 (by decide) (by decide) hs λb c i g0 j e=>?_;exact h b c i (λk f=>g0 k f) (λx g=>j x ((Kp.refl _).keep _ _ g)) e
section
variable{Y:ae}
theorem bc.nei{e i:TypeId}{z n:Nat}{a g:AV}{r m:List (List AV)}(h:bc Y e z a r)(j:bc Y i n g m)(l:e≠i):∀q∈aA a,q∉aA g:=by intro q f d;rcases h with⟨_,rfl⟩|⟨b,rfl,k⟩;simp[aA] at f;rcases j with⟨_,rfl⟩|⟨o,rfl,c⟩;simp[aA] at d;simp only[aA,cE] at f d;subst f;subst d;rw[k] at c;simp only[Option.some.injEq,bY.mk.injEq] at c;exact l c.1
theorem aDQ{t o:Bool}(hl:L Y=4096):∃r n,(∃a1 a2 a3 C a5 a6,r= .a [a1,iv (-1),a2,a3,C,a5,a6]/\bc n 100 2 a1 ((er 3 (⟨-1,[]⟩:cg)).map cg.c)/\bc n 4 1 a2 ([I].map cb)/\bc n 98 3 a3 ((qZ 4).map bF.c)/\bc n 2 1 C (([0,1,0,0,0]:List Int).map ci)/\bc n 2 1 a5 (([0]:List Int).map ci)/\bc n 3 1 a6 (([0,0,0,0]:List Int).map ci)/\Fx Y n [])/\cZ aS GG DK [.a (gu t o)] Y r n:=by refine aLy hl rfl λs2 v1 K2 b4 nf b1=>?_;have H:Fx Y s2 []:=K2.fx [];have R:L s2=4096:=H.len.trans hl;have k1:∀{x:List AV} {y:AV},aN J (y::x)=V y:=λ{x y}=>(by cases y<;>rfl);have r6:aN (V 6) (gu t o)=V (.a (gu t o)):=rfl;have aa:aN J ((gu t o).drop 3)=V (.l (dE.bU.map cs) U U):=rfl;have ab:aN J ((gu t o).drop 4)=V (.l (dE.ay.map cs) U U):=rfl;have a9:aN J ((gu t o).drop 0)=V (.l (dE.cells.map cA.c) U U):=rfl;have al:aN J (gu t o)=V (.l (dE.cells.map cA.c) U U):=rfl;have l3:∀{Y:ae},fS Y (.l (dE.bU.map cs) U U)=V (iv (1:Nat)):=λ{Y}=>rfl;have l4:∀{Y:ae},fS Y (.l (dE.ay.map cs) U U)=V (iv (4:Nat)):=λ{Y}=>rfl;have l0:∀{Y:ae},fS Y (.l (dE.cells.map cA.c) U U)=V (iv (5:Nat)):=λ{Y}=>rfl;have aP:L dE.cells=5:=rfl;generalize hW:gu t o=W at*;simp only[IK,↓uL];refine cV R λv2 s3 M N3 b2=>?_;have c1:=M.kq b1;have S:L s3=4096:=M.len.trans R;simp only[adz,u0,u1,c1,r6,↓uL];rw[<-hW];refine aw4 (by rw[S];decide) λv s5 M1 M2 M3 E g1 g2 g3=>?_;rw[hW];have G:=E.kq c1;have aE:=E.kq b2;have T:L s5=4096:=E.len.trans S;simp only[ady,u0,u1,G,aa,ab,l3,aj,↓uL];refine AP (by decide) (by decide) (by rw[T];decide) (by decide) λs s6 p5 N6 F6 d5=>?_;have X:L s6=4096:=F6.len.trans T;have aC:=F6.kq G;simp only[adx,u0,u1,aC,aa,ab,l4,aj,↓uL];refine AP (by decide) (by decide) (by rw[X];decide) (by decide) λu s7 p6 N7 F7 d6=>?_;have Z:L s7=4096:=F7.len.trans X;have O:=F6.trans F7;have aM:bM gQ [(0,4),(4,1),(5,1),(6,1)] [(0, .a [.m (6,v) 3,iv (-1), .m (6,v+1) 1, .m (6,v+2) 4]),(2, .m s 1),(3, .m u 4)]=V (.a [.m (6,v) 3,iv (-1), .m (6,v+1) 1, .m (6,v+2) 4, .l [] U U, .m s 1, .m u 4]):=rfl;simp only[adw,aM,aY,↓uL];refine cV Z λN s8 F8 N8 d8=>?_;refine cy (y:=7) (cs:=[.m (6,v) 3,iv (-1), .m (6,v+1) 1, .m (6,v+2) 4, .l [] U U, .m s 1, .m u 4]) d8 rfl rfl (by decide) λD F9 d9=>?_;have aJ:box D (3,N)=V ⟨37,7,U,U,[[.m (6,v) 3,iv (-1), .m (6,v+1) 1, .m (6,v+2) 4, .l [] U U, .m s 1, .m u 4]]⟩:=d9;have w:Fx s7 D []:=F8.tn F9 N8.no;have p:=O.trans w;have aW:L D=4096:=w.len.trans Z;have aD:=p.kq G;have aG:=p.kq aE;have q1:=p.kq g1;have q2:=p.kq g2;have q3:=p.kq g3;have q5:=w.kq (F7.kq d5);have q6:=w.kq d6;obtain⟨b0,z⟩:=s;obtain⟨b3,A⟩:=u;simp only at p5 p6;subst p5;subst p6;simp only[adv,↓uL];refine dT (by simp[eL,lb,cq,cD,dC,dK,<-hW,gu]) ?_;have aR:∀k,k<5->gd ([0,1,0,0,0]:List Int) k=(gd dE.cells k).init:=(by intro k hk;rcases(show k=0\/k=1\/k=2\/k=3\/k=4 by omega) with rfl|rfl|rfl|rfl|rfl<;>rfl);have ac:∀{x0 x1 x2 x3 x4 x5 x6:AV},aN (V 7) [x0,x1,x2,x3,x4,x5,x6]=V (.a [x0,x1,x2,x3,x4,x5,x6]):=rfl;have wu:∀{Y:ae} {i:Int} {K:bd},rV (cz 5 Y (.l (dE.cells.map cA.c) U U) (iv i)) K=(aF 5 i/\K (.q (cA.c (gd dE.cells i.toNat)))):=λ{Y i K}=>(by have h:rV (cz 5 Y (.l (dE.cells.map cA.c) U U) (iv i)) K=(aF (L dE.cells) i/\K (.q (cA.c (gd dE.cells i.toNat)))):=ka (Y:=Y) (f:=cA.c) λ_=>rfl;rw[aP] at h;exact h);refine yV 5 (λk _ Y'=>∃a,box Y' (3,N)=V ⟨37,7,U,U,[[.m (6,v) 3,iv (-1), .m (6,v+1) 1, .m (6,v+2) 4,a, .m (10,z) 1, .m (14,A) 4]]⟩/\bc Y' 2 1 a ((([0,1,0,0,0]:List Int).take k).map ci)/\Fx D Y' [(3,N)]/\∀q∈aA a,bK D q/\q.1=32) ⟨_,aJ,bc.nil,Fx.refl _ _,by simp[aA]⟩ ?_;rintro k _ n hk ⟨C,m1,g4,g,F⟩;have e1:=g.kq aD;have aV:L n=4096:=g.len.trans aW;simp only[adA,au,aI,u0,u1,e1,a9,al,l0,m1,k1,nM,ip,aj,wu,rk,bh,↓uL];refine⟨λh=>?_,λh=>?_⟩;have B:k<5:=RF.1 (of_decide_eq_true h);refine⟨⟨by omega,by omega⟩,?_⟩;have aO:∀{Y:ae} {x:Int},aX yW 1 Y [(0,iv x)]=V (.l ([x].map ci) U U,Y):=λ{Y x}=>iz;simp only[aO,bQ];refine gD g4 rfl (by decide) (by rw[aV];decide) fF fF (by simp only[bJ,gC,bZ,bO];omega) λa' Y5 g5 b aQ aZ=>?_;have m5:=b.keep _ _ (λd=>by have:=(F _ d).2;simp at this) m1;simp only[adu,u0,u1,m5,aj,↓uL];refine cy (y:=1) (j:=4) (cs:=[a']) m5 (ms g5) rfl (by simp) λY6 P u=>?_;have P5:∀q∈aA a',bK D q/\q.1=32:=λq d=>⟨(aQ q d).elim (λh=>(F q h).1) (λh=>h.old g),(aZ q d).elim (λh=>(F q h).2) id⟩;simp only[adt,↓uL];refine dT (by simp[eL,lb,cq,cD,dC,dK]) ?_;simp only[au,u0,u1,↓uL];refine yU B ⟨a',u,?_,((g.trans b).trans P).mono λq d=>?_,P5⟩;rw[List.take_succ_eq_append_getElem (show k<L ([0,1,0,0,0]:List Int) from B),<-bT (show k<L ([0,1,0,0,0]:List Int) from B),aR k B,dg];exact g5.fx P λq d e=>(by simp at e;subst e;have:=(P5 _ d).2;simp at this);simp only[dF,cE] at d⊢;rcases d with(h|h)|h;exact .inl h;exact .inr (F q h).1.no;exact .inl h;have aT:k=5:=(by have:=of_decide_eq_false h;omega);subst aT;have e2:=g.kq aG;simp only[ac];refine cy (y:=7) (cs:=[.m (6,v) 3,iv (-1), .m (6,v+1) 1, .m (6,v+2) 4,C, .m (10,z) 1, .m (14,A) 4]) e2 rfl rfl (by decide) λY5 b s=>?_;have az:box Y5 (2,v2)=V ⟨37,7,U,U,[[.m (6,v) 3,iv (-1), .m (6,v+1) 1, .m (6,v+2) 4,C, .m (10,z) 1, .m (14,A) 4]]⟩:=s;simp only[az,u0,u1,ac,bz,ew,↓uL];have am:bK Y (2,v2):=N3.old H;have ao:bK Y (3,N):=((((N8.old O).old E).old M).old H);refine⟨.m (6,v) 3, .m (6,v+1) 1, .m (6,v+2) 4,C, .m (10,z) 1, .m (14,A) 4,rfl, .inr ⟨_,rfl,b.kq (g.kq q1)⟩, .inr ⟨_,rfl,b.kq (g.kq q2)⟩, .inr ⟨_,rfl,b.kq (g.kq q3)⟩,g4.fx b λq d e=>by simp at e;subst e;have:=(F _ d).2;simp at this, .inr ⟨_,rfl,b.kq (g.kq q5)⟩, .inr ⟨_,rfl,b.kq (g.kq q6)⟩,(((((H.trans M).trans E).trans p).trans g).trans b).mono λq d=>?_⟩;simp only[dW,dF,cE] at d;rcases d with rfl|rfl;exact .inr ao.no;exact .inr am.no
end
def ao4:dO:=ao3
theorem apc:eJ ao4:=apb
def aBl:=@amj
abbrev BF:List AV:=[(.l [] U U),(.l [] U U),(.l [] U U),(.l [] U U),(.l [] U U),(.l [] U U),(iv 0),(.l [] U U),(iv 0),(.l [] U U),(.l [] U U),(.l [] U U),(.l [] U U),(.l [] U U),(.l [] U U)]
abbrev ap6:List AV:=[(iv 0),(iv 0),(iv 0),(iv 0),(iv 0),(.l [] I I),(.l [] I I)]
def atv:=bi 14 [(5,([13],[0,1,12]))]
def aao vs18(c:aG)(a:bu) s19 s32:=aV (gt vs18 0) (iv 1) λb=>c [b] s32/\a [b] s32<a vs18 s19
def aap w_5 vs18 I18 m18 s19 s25:=aB 7 s25 w_5 λa=>aB 0 s25 a λb=>ag 3 s25 b λc=>ao 3 s25 c (gt vs18 0) λd=>aB 0 s25 d λe=>sV (aK 1 s25 e (iv 2)) (aao vs18 I18 m18 s19)
def aaq w_5 t1 R s45:=aw 15 s45 w_5 λb=>sV (aK 15 s45 t1 b) λa=>aw 15 a t1 λc=>aE R a [c]
def aar w_5 t1 R t42 s43:=aB 14 s43 w_5 λa=>sV (aK 1 s43 a t42) (aaq w_5 t1 R)
def aas w_5 t1 R s39:=rV (bM ee [(0,1),(1,1),(2,1),(3,1),(4,1),(5,1),(6,1)] [(1,(iv 4)),(3,(iv 1))]) λa=>rV (bM ee [(0,1),(1,1),(2,1),(3,1),(4,1),(5,1),(6,1)] [(0,(iv 1)),(1,(iv 4)),(3,(iv 2)),(4,(iv 6))]) λb=>eV (aX ap6 2 s39 [(0,a),(1,b)]) (aar w_5 t1 R)
def aax t17 w_5 t1 R I18 m18 vs18 s19:=∀_:Rg,aU (gt vs18 0) t17 λa=>ah a (aB 7 s19 w_5 λb=>ag 6 s19 b λc=>ao 1 s19 c (gt vs18 0) λd=>sV (aK 1 s19 d (iv 1)) (aap w_5 vs18 I18 m18 s19)) (aB 7 s19 w_5 λe=>ag 6 s19 e λf=>aJ s19 f λg=>aB 6 s19 w_5 λh=>sV (aK 1 s19 h g) (aas w_5 t1 R))
def aat w_5 t1 R s13:=aB 7 s13 w_5 λa=>ag 6 s13 a λb=>aJ s13 b λc=>lV [(iv 0)] s13 (aax c w_5 t1 R)
def aau w_5 t1 R t10 s11:=aB 7 s11 w_5 λa=>sV (aK 7 s11 a t10) (aat w_5 t1 R)
def aav w_5 t1 R s7:=aB 0 s7 w_5 λa=>aw 6 s7 a λb=>cB DK [b] s7 7 (aau w_5 t1 R)
def aaw R t1 s2:=fV Gf s2 [] λt3=>rV (bM BF [(0,6),(6,1),(7,7),(14,1)] [(0,t3)]) λt4=>eV (bs 40 BF s2 1) λa b=>sV (aK 15 b a t4) (aav a t1 R)
def aan s0 R:=eV (bs 40 BF s0 0) (aaw R)
theorem aKW{R:bd}(h:H0 λs0=>aan s0 R):Ct LW [] R:=z0 atv apc Tryz.func22 h
def yL(k:Nat):List Int:=(aH 4).map λi=>if i<k then 1 else 0
def uY(k:Nat):List bF:=(aH 4).map λi=>⟨if i<k then 2 else if i=0 then 1 else 0,0,I⟩
def ku:am:=⟨dE,4,⟨⟨er 3 ⟨-1,[]⟩,-1,[I],uY 4⟩,[0,1,0,0,0],[0],yL 4⟩,[⟨0,4,0,1,0,[],[]⟩,⟨1,4,0,2,6,[],[]⟩]⟩
theorem Ol:Ct LW [] (λr=>∃ds,r= .a ds/\Lk ds ku.c):=by
 refine aKW λs0 hl h0=>?_
 simp only[aan,↓uL]
 refine cV hl λv0 s1 F1 N1 b1=>?_
 have am:L s1=4096:=F1.len.trans hl
 simp only[aaw,jM,jt,amj,↓uL]
 rintro r ⟨t,o,rfl⟩
 refine⟨.inl rfl,?_⟩
 have aV:bM BF [(0,6),(6,1),(7,7),(14,1)] [(0, .a (gu t o))]=V (.a (gu t o++[iv 0, .l [] U U,iv 0, .l [] U U, .l [] U U, .l [] U U, .l [] U U, .l [] U U, .l [] U U])):=rfl
 have r6:∀{x:List AV},aN (V 6) (gu t o++x)=V (.a (gu t o)):=λ{x}=>rfl
 have R:L (gu t o)=6:=rfl
 have k1:∀{x:List AV} {y:AV},aN J (y::x)=V y:=λ{x y}=>by cases y<;>rfl
 simp only[aV,aY,↓uL]
 refine cV am λO s2 F2 N2 b2=>?_
 refine cy (y:=15) (cs:=gu t o++[iv 0, .l [] U U,iv 0, .l [] U U, .l [] U U, .l [] U U, .l [] U U, .l [] U U, .l [] U U]) b2 rfl rfl (by decide) λs3 F3 b3=>?_
 have ag:box s3 (1,O)=V ⟨40,15,U,U,[gu t o++[iv 0, .l [] U U,iv 0, .l [] U U, .l [] U U, .l [] U U, .l [] U U, .l [] U U, .l [] U U]]⟩:=b3
 have af:Fx s1 s3 []:=F2.tn F3 N2.no
 have c1:=af.kq b1
 have an:L s3=4096:=af.len.trans am
 simp only[aav,u0,u1,ag,r6,aj,ip,↓uL]
 refine jH rfl (aDQ an) ?_
 rintro r4 s4 ⟨a1,s,i,m,n,g,rfl,g1,g2,g3,g4,g5,g6,F4⟩
 refine⟨F4.len,?_⟩
 have d4:=F4.kq ag
 have aJ:=F4.kq c1
 have a7:L s4=4096:=F4.len.trans an
 have D:∀{e:TypeId} {z:Nat} {x:AV} {rows:List (List AV)} {B:ae} {b:Id} {y:bY},bc B e z x rows->box B b=V y->y.var=U->∀q∈aA x,q≠b:=by
  intro e z x rows B b y C hy hv q d e'
  subst e'
  rcases C with⟨_,rfl⟩|⟨b',rfl,f⟩
  ·simp[aA] at d
  ·simp only[aA,cE] at d
   subst d
   rw[hy] at f;cases f;cases hv
 simp only[aau,u0,u1,d4,aj,↓uL]
 refine cy (y:=7) (j:=7) (cs:=[a1,iv (-1),s,i,m,n,g]) d4 rfl rfl (by simp[R]) λs5 A b5=>?_
 have ah:box s5 (1,O)=V ⟨40,15,U,U,[gu t o++[iv 0,a1,iv (-1),s,i,m,n,g, .l [] U U]]⟩:=b5
 have G:∀{e:TypeId} {z:Nat} {x:AV} {rows:List (List AV)},bc s4 e z x rows->∀q∈aA x,q∉[((1,O):Id)]:=λC q d e=>D C d4 rfl q d (by simpa using e)
 have h1:=g1.fx A (G g1)
 have h2:=g2.fx A (G g2)
 have M:=g3.fx A (G g3)
 have h4:=g4.fx A (G g4)
 have h5:=g5.fx A (G g5)
 have F:=g6.fx A (G g6)
 have P:=A.kq aJ
 have a8:L s5=4096:=A.len.trans a7
 have aa:∀{x y:AV},aN J (rz 13 (gu t o++[x,a1,iv (-1),s,i,m,n,g,y]))=V g:=λ{x y}=>k1 (x:=[y]) (y:=g)
 have aB:∀{x y:AV},aN J (rz 10 (gu t o++[x,a1,iv (-1),s,i,m,n,g,y]))=V i:=λ{x y}=>k1 (x:=[m,n,g,y]) (y:=i)
 have ab:∀{l:List AV},L l=15->aN (V 15) l=V (.a l):=λ{l} h=>by
  show(if 15<=L l then V (AV.a (l.take 15)) else J)=_
  rw[if_pos (by omega),oB (by omega)]
 simp only[aat,u0,u1,ah,aa,ke F,aj,dc,↓uL]
 refine yV 4 (λk _ B=>box B (1,O)=V ⟨40,15,U,U,[gu t o++[iv 0,a1,iv (-1),s,i,m,n,g, .l [] U U]]⟩/\bc B 3 1 g ((yL k).map ci)/\bc B 98 3 i ((uY k).map bF.c)/\Fx s5 B (aA g++aA i)) ⟨ah,F,M,Fx.refl _ _⟩ ?_
 rintro k _ Y6 hk ⟨N,X,q3,E⟩
 have ch:∀{x:AV},((L (([0,0,0,0]:List Int).map ci):Nat):Int)=(4:Nat):=rfl
 simp only[aax,au,aI,u0,u1,N,aa,ke X,aj,dc,↓uL]
 refine⟨λh=>?_,λh=>?_⟩
 ·have S:k<4:=RF.1 (of_decide_eq_true h)
  refine DA X (dJ (by simpa[yL] using S)) λp Y7 H Z=>?_
  rw[bh] at Z
  have m7:=H.keep _ _ (λd=>D X N rfl _ d rfl) N
  have T:=q3.fx H (bc.nei q3 X (by decide))
  simp only[aap,au,u0,u1,m7,aB,aj,dc,↓uL]
  refine DB T (dJ (by simpa[uY] using S)) (by decide) {gd (uY k) ((k:Int).toNat) with cQ:=2} rfl λb Y8 hb K W=>?_
  rw[bh] at W
  have m8:=K.keep _ _ (λd=>D T m7 rfl _ d rfl) m7
  have ao:=Z.fx K (bc.nei Z T (by decide))
  simp only[aao,au,u0,u1,↓uL]
  have e1:(yL k).set k 1=yL (k+1):=by
   rcases(show k=0\/k=1\/k=2\/k=3 by omega) with rfl|rfl|rfl|rfl<;>rfl
  have e2:(uY k).set k {gd (uY k) k with cQ:=2}=uY (k+1):=by
   rcases(show k=0\/k=1\/k=2\/k=3 by omega) with rfl|rfl|rfl|rfl<;>rfl
  rw[e1] at ao
  rw[e2] at W
  refine yU S ⟨m8,ao,W,((E.trans H).trans K).mono λq d=> .inl ?_⟩
  simp only[dF] at d⊢
  rcases d with(h|h)|h
  ·exact h
  ·exact .inl h
  ·exact .inr h
 ·have ce:¬(k:Int)<((4:Nat):Int):=of_decide_eq_false h
  have aZ:k=4:=by omega
  subst aZ
  have x1:=h1.fx E (λq d w=>by
   rcases dF.1 w with f|f
   ·exact bc.nei h1 F (by decide) q d f
   ·exact bc.nei h1 M (by decide) q d f)
  have x2:=h2.fx E (λq d w=>by
   rcases dF.1 w with f|f
   ·exact bc.nei h2 F (by decide) q d f
   ·exact bc.nei h2 M (by decide) q d f)
  have x4:=h4.fx E (λq d w=>by
   rcases dF.1 w with f|f
   ·exact bc.nei h4 F (by decide) q d f
   ·exact bc.nei h4 M (by decide) q d f)
  have x5:=h5.fx E (λq d w=>by
   rcases dF.1 w with f|f
   ·exact bc.nei h5 F (by decide) q d f
   ·exact bc.nei h5 M (by decide) q d f)
  have cf:L Y6=4096:=E.len.trans a8
  have al:box Y6 (0,v0)=_:=E.keep _ _ (λd=>by
   rcases dF.1 d with f|f
   ·exact D F P rfl _ f rfl
   ·exact D M P rfl _ f rfl) P
  refine cy (y:=1) (j:=6) (cs:=[iv 4]) N rfl rfl (by simp[R]) λs7 H b7=>?_
  have ak:box s7 (1,O)=V ⟨40,15,U,U,[gu t o++[iv 4,a1,iv (-1),s,i,m,n,g, .l [] U U]]⟩:=b7
  have aT:bM ee [(0,1),(1,1),(2,1),(3,1),(4,1),(5,1),(6,1)] [(1,iv 4),(3,iv 1)]=V (.a [iv 0,iv 4,iv 0,iv 1,iv 0, .l [] U U, .l [] U U]):=rfl
  have aU:bM ee [(0,1),(1,1),(2,1),(3,1),(4,1),(5,1),(6,1)] [(0,iv 1),(1,iv 4),(3,iv 2),(4,iv 6)]=V (.a [iv 1,iv 4,iv 0,iv 2,iv 6, .l [] U U, .l [] U U]):=rfl
  have aW:∀{Y:ae},aX ap6 2 Y [(0, .a [iv 0,iv 4,iv 0,iv 1,iv 0, .l [] U U, .l [] U U]),(1, .a [iv 1,iv 4,iv 0,iv 2,iv 6, .l [] U U, .l [] U U])]=V (.l (ku.ac.map aP.c) U U,Y):=λ{Y}=>rfl
  simp only[aas,aT,aU,aW,aY,bQ,aar,u1,ak,aj,↓uL]
  refine cy (y:=1) (j:=14) (cs:=[.l (ku.ac.map aP.c) U U]) ak rfl rfl (by simp[R]) λs8 K b8=>?_
  have aF:box s8 (1,O)=V ⟨40,15,U,U,[gu t o++[iv 4,a1,iv (-1),s,i,m,n,g, .l (ku.ac.map aP.c) U U]]⟩:=b8
  have aK:=K.kq (H.kq al)
  simp only[aaq,u0,u1,aF,ab (show L (gu t o++[iv 4,a1,iv (-1),s,i,m,n,g, .l (ku.ac.map aP.c) U U])=15 from rfl),↓uL]
  refine cy (y:=15) (cs:=gu t o++[iv 4,a1,iv (-1),s,i,m,n,g, .l (ku.ac.map aP.c) U U]) aK rfl rfl (by decide) λv F9 b9=>?_
  have aG:box v (0,v0)=V ⟨40,15,U,U,[gu t o++[iv 4,a1,iv (-1),s,i,m,n,g, .l (ku.ac.map aP.c) U U]]⟩:=b9
  simp only[aG,u0,u1,ab (show L (gu t o++[iv 4,a1,iv (-1),s,i,m,n,g, .l (ku.ac.map aP.c) U U])=15 from rfl),↓uL]
  have u:∀{e:TypeId} {z:Nat} {x:AV} {rows:List (List AV)},bc Y6 e z x rows->bc v e z x rows:=λC=>
   ((C.fx H λq d e=>D C N rfl q d (by simpa using e)).fx K λq d e=>D C N rfl q d (by simpa using e)).fx F9 λq d e=>D C al rfl q d (by simpa using e)
  obtain⟨bd,w1,z1⟩:=(u x1).frD
  obtain⟨be,w2,z2⟩:=(u x2).frD
  obtain⟨bf,w3,z3⟩:=(u q3).frD
  obtain⟨bg,w4,z4⟩:=(u x4).frD
  obtain⟨bi,w5,z5⟩:=(u x5).frD
  obtain⟨bj,w6,z6⟩:=(u X).frD
  have hr:jS v [.a (gu t o++[iv 4,a1,iv (-1),s,i,m,n,g, .l (ku.ac.map aP.c) U U])]= .a (gu t o++[iv 4, .l ((er 3 (⟨-1,[]⟩:cg)).map cg.c) bd w1,iv (-1), .l ([I].map cb) be w2, .l ((uY 4).map bF.c) bf w3, .l (([0,1,0,0,0]:List Int).map ci) bg w4, .l (([0]:List Int).map ci) bi w5, .l ((yL 4).map ci) bj w6, .l (ku.ac.map aP.c) U U]):=by
   show AV.a ((gu t o).map (dQ v)++[dQ v (iv 4),dQ v a1,dQ v (iv (-1)),dQ v s,dQ v i,dQ v m,dQ v n,dQ v g,dQ v (.l (ku.ac.map aP.c) U U)])=_
   rw[z1,z2,z3,z4,z5,z6];rfl
  unfold aE
  rw[hr]
  exact⟨rfl,_,rfl,rfl,rfl⟩
def Fl:FT:=BK Ol
def aym{Lw K}:=al3 Fl Ol Lw K
def ao5:dO:=(LW,Fl)::ao4
theorem apd:eJ ao5:=bI (apN Ol) (apc)
def Dm:=ai @aym<|@aBl
abbrev aqh:List AV:=[(iv 0),(iv 0),(iv 0),(iv 0),(iv 0),(.l [] U U)]
def att:=bi 4 []
def aak w_2 f_8 R s10:=aw 15 s10 w_2 λx=>fV Cg s10 [x] λi=>aT i 0 s10 f_8 λy=>az i (al y (iv 2)) λz=>aD i z (bv I) λj=>aT j 1 s10 f_8 λA=>az j (al A (iv 4)) λB=>aD j B (bv I) λf=>aT f 2 s10 f_8 λC=>az f (aJ s10 C) λD=>az f (al D (iv 2)) λE=>aD f E (bv I) λg=>aT g 3 s10 f_8 λF=>az g (aJ s10 F) λG=>az g (al G (iv 3)) λH=>aD g H (bv I) λd=>aT d 3 s10 f_8 λK=>az d (ao 1 s10 K (iv 0)) λM=>az d (aM s10 M) λN=>gE (gP U d) (λt=>eV (aX bH 2 s10 [(0,(iv 1)),(1,(iv 2))]) λO v=>t O v) s10 λP b=>az d (fV w9 b [N,P]) λS=>aD d S (bv I) λe=>aT e 3 b f_8 λT=>az e (ao 1 b T (iv 1)) λW=>az e (aM b W) λX=>gE (gP U e) (λu=>eV (aX bH 1 b [(0,(iv (-3)))]) λZ w=>u Z w) b λaa c=>az e (fV w9 c [X,aa]) λab=>aD e ab (bv I) λa=>aT a 3 c f_8 λm=>az a (ao 1 c m (iv 2)) λn=>az a (aM c n) λo=>gE (gP U a) (λk=>eV (aX bH 1 c [(0,(iv (-4)))]) λp l=>k p l) c λq h=>az a (fV w9 h [o,q]) λr=>aD a r (bv I) λs=>aE R h [s]
def aal w_2 R s4:=aw 15 s4 w_2 λc=>rV (bM aqh [(0,1),(1,1),(2,1),(3,1),(4,1),(5,1)] [(0,(iv 1)),(2,(iv 1))]) λd=>fV BP s4 [c,d] λe=>eV (bs 52 nJ s4 2) λa b=>sV (aK 4 b a e) (aak w_2 a R)
def aaj s0 R:=fV Fl s0 [] λt1=>eV (bs 40 BF s0 1) λa b=>sV (aK 15 b a t1) (aal a R)
theorem aKU{R:bd}(h:H0 λs0=>aaj s0 R):Ct LU [] R:=z0 att apd Tryz.func5 h
def Q9:cJ:=⟨1,0,1,0,0,[]⟩
theorem aoM:gf ku=U:=by decide+kernel
theorem aoL:hU ku:=by refine⟨by decide,?_,?_,by decide⟩;intro l b;have:l=⟨-1,[]⟩:=List.eq_of_mem_replicate b;subst this;decide;intro e a;have:e=⟨0,4,0,1,0,[],[]⟩\/e=⟨1,4,0,2,6,[],[]⟩:=(by simpa[ku] using a);rcases this with rfl|rfl<;>(refine⟨?_,?_⟩<;>decide)
theorem aIz:qC ku Q9=U:=by decide+kernel
theorem aIy:vZ ku (j6 (cw ku) ku++jx (cw ku) ku Q9)=⟨2,4,[⟨0,1,-1⟩,⟨1,0,-1⟩],[[1,2],[-3],[-4]]⟩:=by decide+kernel
theorem aq2{ds:List AV}{f:ff}(h:Lk ds f.c):∃t o j o',ds=[iv f.ints,iv f.bools, .l (f.lL.map dr.c) t o, .l (f.ug.map cl) j o']:=by have m:∀{x:AV} {rows:List (List AV)},gK x= .l rows I I->∃t o,x= .l rows t o:=(by intro x rows i;cases x with|l r t o=>simp only[gK,AV.l.injEq,and_true] at i;exact⟨t,o,by rw[i]⟩|_=>cases i);have k:∀{x:AV} {n:Int},gK x=iv n->x=iv n:=(by intro x n i;cases x with|l r t o=>(cases i)|_=>exact i);obtain⟨g,_⟩:=h;rcases ds with _|⟨a,_|⟨b,_|⟨c,_|⟨d,_|⟨e,ds⟩⟩⟩⟩⟩;(cases g);simp[ff.c] at g;simp[ff.c] at g;simp[ff.c] at g;simp only[List.map_cons,List.map_nil,ff.c,List.cons.injEq,and_true] at g;obtain⟨p,q,s,u⟩:=g;obtain⟨t,o,rfl⟩:=m s;obtain⟨j,o',rfl⟩:=m u;exact⟨t,o,j,o',by rw[k p,k q]⟩;simp[ff.c] at g
theorem Oj:Ct LU [] (·=bv U):=by
 refine aKU λs0 s h0=>?_
 simp only[aaj,jM,jt,Dm,↓uL]
 rintro r ⟨ds,rfl,b⟩
 refine⟨.inl rfl,?_⟩
 have j:L ds=15:=by have:=congrArg L b.1;simpa[am.c] using this
 have e:aN (V 15) ds=V (.a ds):=by
  show(if 15<=L ds then V (AV.a (ds.take 15)) else J)=_
  rw[if_pos (by omega),oB (by omega)]
 refine cV s λZ W C N1 G=>?_
 have u:L W=4096:=C.len.trans s
 refine cy (y:=15) (cs:=ds) G rfl j (by decide) λA D H=>?_
 have f:box A (1,Z)=V ⟨40,15,U,U,[ds]⟩:=by
  rw[H];simp
 have v:L A=4096:=D.len.trans u
 have P:bM aqh [(0,1),(1,1),(2,1),(3,1),(4,1),(5,1)] [(0,iv 1),(2,iv 1)]=V (.a [iv 1,iv 0,iv 1,iv 0,iv 0, .l [] U U]):=rfl
 have k:∀{Y:ae},dG Y (.a [iv 1,iv 0,iv 1,iv 0,iv 0, .l [] U U])= .a (cJ.c Q9):=λ{Y}=>rfl
 simp only[aal,u0,u1,f,e,P,jM,kU,jt,b.arg,k,Dm,↓uL]
 refine⟨⟨aoM,aoL,aIz⟩,?_⟩
 rintro r ⟨ab,rfl,i⟩
 rw[aIy] at i
 refine⟨.inl (by
  have N:eB (.a ds)=[]:=x9 b
  have O:eB (.a [iv 1,iv 0,iv 1,iv 0,iv 0, .l [] U U])=[]:=rfl
  simp only[nA,List.any_cons,List.any_nil,N,O,Bool.or_false]),?_⟩
 obtain⟨t,o,d,o',rfl⟩:=aq2 i
 have ac:∀{x y x2 B:AV},aN (V 4) [x,y,x2,B]=V (.a [x,y,x2,B]):=rfl
 refine cV v λv3 s3 E N3 K=>?_
 refine cy (y:=4) (cs:=[iv 2,iv 4, .l (([⟨0,1,-1⟩,⟨1,0,-1⟩]:List dr).map dr.c) t o, .l (([[1,2],[-3],[-4]]:List (List Int)).map cl) d o']) K rfl rfl (by decide) λX F M=>?_
 have g:box X (2,v3)=V ⟨52,4,U,U,[[iv 2,iv 4, .l (([⟨0,1,-1⟩,⟨1,0,-1⟩]:List dr).map dr.c) t o, .l (([[1,2],[-3],[-4]]:List (List Int)).map cl) d o']]⟩:=M
 have h:=F.kq (E.kq f)
 have T:∀{x:List AV} {y:AV},aN J (y::x)=V y:=λ{x y}=>by cases y<;>rfl
 have w:∀{Y:ae},fS Y (.l (([⟨0,1,-1⟩,⟨1,0,-1⟩]:List dr).map dr.c) t o)=V (iv 2):=λ{Y}=>rfl
 have z:∀{Y:ae},fS Y (.l (([[1,2],[-3],[-4]]:List (List Int)).map cl) d o')=V (iv 3):=λ{Y}=>rfl
 have m:∀{Y:ae},cz 1 Y (.l (([[1,2],[-3],[-4]]:List (List Int)).map cl) d o') (iv 0)=V (.q (cl [1,2])):=λ{Y}=>rfl
 have n:∀{Y:ae},cz 1 Y (.l (([[1,2],[-3],[-4]]:List (List Int)).map cl) d o') (iv 1)=V (.q (cl [-3])):=λ{Y}=>rfl
 have p:∀{Y:ae},cz 1 Y (.l (([[1,2],[-3],[-4]]:List (List Int)).map cl) d o') (iv 2)=V (.q (cl [-4])):=λ{Y}=>rfl
 have S:∀{Y:ae} {x:List Int},ef J Y (.q (cl x))=V (sl ci x):=λ{Y x}=>rfl
 have R:∀{x:Bool},mL (bv U) (bv x) (bv I)=V (bv x):=λ{x}=>by cases x<;>rfl
 simp only[aak,u0,u1,h,g,e,T,nM,ip,aj,jM,kU,jt,b.arg,Dm,aoM,aoL,true_and,decide_true,jA,Lg,qE,R,w,z,m,n,p,S,fi,f7,alg,CV,uR,↓uL]
 exact⟨.inr rfl,by decide, .inr rfl,by decide, .inr rfl,by decide, .inr rfl,trivial⟩
def BS:FT:=BJ Oj
def ayk{Lw K}:=al2 BS Oj Lw K
def aIE:dO:=(LU,BS)::ao5
theorem aIF:eJ aIE:=bI (apM Oj) (apd)
def rU:=ai @ayk<|@Dm
def ats:=bi 8 []
def aai w_1 g_3 s4 R:=ag 14 s4 w_1 λO=>aJ s4 O λP=>aO .gtr P (iv 16) λd=>bn d 5 s4 g_3 λf=>aC d (aJ s4 f) λg=>aC d (aO .gtr g (iv 4)) λh=>aD d (bv U) h λc=>aC c (aw 15 s4 w_1) λi=>aC c (fV Cg s4 [i]) λj=>aC c (cf j) λk=>aD c (bv U) k λl=>ah l (fV BS s4 [] λm=>aE R s4 [m]) (aw 15 s4 w_1 λn=>fV E2 s4 [n] λo=>aw 15 s4 w_1 λp=>fV Cp s4 [p] λq=>fV Fi s4 [o,q] λr=>cf r λb=>aC b (aw 15 s4 w_1) λs=>aC b (fV E1 s4 [s]) λt=>aC b (aw 15 s4 w_1) λu=>aC b (fV Gb s4 [u]) λv=>aC b (fV Co s4 [t,v]) λw=>aC b (cf w) λx=>aD b (bv U) x λy=>ah y (aE R s4 [(bv I)]) (aw 15 s4 w_1 λz=>aw 6 s4 g_3 λA=>fV FO s4 [z,A] λB=>cf B λa=>aC a (aw 15 s4 w_1) λC=>aC a (aw 6 s4 g_3) λD=>aC a (fV BP s4 [C,D]) λE=>aC a (aw 15 s4 w_1) λF=>aC a (aw 6 s4 g_3) λG=>aC a (fV Gc s4 [F,G]) λH=>aC a (fV Co s4 [E,H]) λK=>aD a (bv U) K λe=>az e (fV BS s4 []) λM=>aD e M (bv I) λN=>aE R s4 [N]))
theorem aKT{b:List AV}{c:List AV}{R:bd}(l0:L b=15)(l1:L c=6)(h:H2 40 15 2 b 42 6 3 c λd e f=>aai d e f R):Ct LS [.a b, .a c] R:=z2 ats aIF Tryz.func3 l0 l1 h
def cu(l:List (List Int)):Prop:=∀c∈l,L c<=5000
theorem cu.nil:cu []:=λc h=>by cases h
theorem cu.cons{c:List Int}{l:List (List Int)}(h:L c<=5000)(b:cu l):cu (c::l):=λx a=>by
 rcases eW.1 a with rfl|a
 ·exact h
 ·exact b x a
theorem cu.app{l a:List (List Int)}(h:cu l)(b:cu a):cu (l++a):=λx c=>(dF.1 c).elim (h x) (b x)
theorem cu.flat{f:Nat->List (List Int)}{l:List Nat}(h:∀x,cu (f x)):cu (l.flatMap f):=λx a=>by
 obtain⟨y,_,b⟩:=List.mem_flatMap.1 a
 exact h y x b
section
variable{ns:List ap}{w:am}
theorem alt{a b c:Int}:cu (jI ns a b c):=by unfold jI;repeat first|exact cu.nil|refine cu.cons (by simp) ?_|split
theorem awf:cu (kE ns w):=by unfold kE jy my kY mA;repeat first|exact cu.nil|refine cu.cons (by simp) ?_|refine cu.app ?_ ?_|refine cu.flat λx=>?_|split
theorem awc:cu (oH ns w):=by unfold oH pE rL mw iA;repeat first|exact cu.nil|exact cu.app alt alt|refine cu.cons (by simp) ?_|refine cu.flat λx=>?_|split
theorem awd{l:List ap}(f:L l<=320):cu (sN ns w l):=by have a:∀p:ap->Bool,L (l.filter p)<=L l:=λp=>fZ _ _;have d:∀x,L (kZ ns w l x)<=400:=λx=>(by have e:L (jd ns x)<=3:=(by unfold jd;split<;>simp);have:=a (j8 w x);simp only[kZ,bq,bJ];omega);unfold sN;refine cu.app ?_ (cu.app ?_ (cu.app ?_ (cu.app ?_ ?_)));(focus refine cu.flat λx=>?_;unfold iW;repeat first|exact cu.nil|refine cu.cons (by simp) ?_|refine cu.app ?_ ?_|split);(focus refine cu.flat λx=>?_;unfold lP ju;repeat first|exact cu.nil|refine cu.cons (by simp) ?_|refine cu.flat λx=>?_|split);(focus refine cu.flat λx=>?_;unfold lQ jk;repeat first|exact cu.nil|refine cu.cons (by simp) ?_|refine cu.flat λx=>?_|split);refine cu.flat λk=>?_;unfold nT;refine cu.cons ?_ (cu.flat λj=>cu.cons ?_ cu.nil);have c:=d (gd l k);have e:=a (eZ (gd l k));simp only[bq,bJ];omega;have c:=d (gd l k);simp only[bq,bZ,bO];omega;(focus refine cu.flat λk=>?_;unfold ng;split;(focus refine cu.cons ?_ (cu.flat λj=>?_);have c:=a λv=>Q (v.b=(e9 w k).1);simp only[gO,bZ,bJ];omega;(focus unfold iO;repeat first|exact cu.nil|refine cu.cons (by simp) ?_|split));exact cu.nil)
theorem awe(a:L w.ac<=16):cu (rJ ns w):=by unfold rJ;refine cu.app (cu.flat λr=>?_) (cu.flat λi=>?_);(focus unfold gW;split;(focus refine cu.app (cu.cons (by simp) (cu.cons ?_ cu.nil)) (cu.flat λj=>?_);have:=vU w r;simp only[bZ,bJ];omega;(focus unfold iP kD pD jl;repeat first|exact cu.nil|refine cu.cons (by simp) ?_|refine cu.app ?_ ?_|refine cu.flat λx=>?_|split));exact cu.nil);(focus unfold kX qv;repeat first|exact cu.nil|refine cu.cons (by simp) ?_|refine cu.flat λx=>?_)
theorem awa(a:L (aR ns 5)<=320)(b:L w.ac<=16):cu (j6 ns w):=cu.app (cu.app (cu.app awf awc) (awd a)) (awe b)
theorem Km{x:Int}:cu (jK ns w x):=by unfold jK jc pC;repeat first|exact cu.nil|refine cu.cons (by simp) ?_|refine cu.app ?_ ?_|refine cu.flat λx=>?_|split
theorem awb{g:cJ}(c:L (aR ns 5)<=320):cu (jx ns w g):=by unfold jx;split;exact cu.app Km Km;split;(focus refine cu.flat λk=>?_;unfold jw jc;have d:=fZ (λv:ap=>Q (v.b=(e9 w (gd g.cW k)).1)&&Q (v.a≠-1)) (aR ns 5);repeat first|exact cu.nil|refine cu.cons (by simp) ?_|refine cu.cons (by simp only[nG,bJ];omega) ?_|refine cu.app ?_ ?_|split);split;(focus unfold jJ kF;repeat first|exact cu.nil|refine cu.cons (by simp) ?_|refine cu.app ?_ ?_|refine cu.flat λx=>?_|split);split;exact cu.app (cu.cons (by simp) (cu.cons (by simp) (cu.cons (by simp) cu.nil))) Km;exact cu.nil
end
theorem axj{ns:List ap}{w:am}{g:cJ}(a:VW w)(G:RD w g)(l:L (aR ns 5)<=320):L (jx ns w g)<=100000:=by
 have d:∀{x:Int},aF (L w.ac) x->L (jK ns w x)<=10010:=λi=>zW a.wv (yc w) i
 have m:=a.wv.ok.ev
 unfold jx
 split
 ·rename_i h
  have b:=d (G.h1 h).1
  have e:=d (G.h1 h).2
  rw[bq];omega
 split
 ·rename_i h
  have:=eU (f:=λk=>jw ns w (gd g.cW k)) (c:=3) (λk=>by
   have:L (jc ns w (gd g.cW k))<=2:=by unfold jc;split<;>simp
   unfold jw
   split<;>simp<;>omega) (L g.cW)
  have:=(G.h2 h).2
  omega
 split
 ·have b:=eU (f:=jJ ns g.eb) (c:=1) (λk=>by unfold jJ;split<;>simp) (L w.ac)
  have e:=eU (f:=λj=>kF ns g.ea (gd (aR ns 5) j)) (c:=1) (λk=>by unfold kF;split<;>simp) (L (aR ns 5))
  simp only[bq,bZ,bO];omega
 split
 ·rename_i h
  have b:=d (G.h4 h).2.1
  simp only[bq,bZ,bO];omega
 ·simp
theorem aCx(w:am)(g:cJ)(F:hU w/\L g.cW<4611686018427387904):Ct LS [.a w.c, .a g.c] (·=bv U):=by refine aKT rfl rfl λP hl C k h0=>?_;obtain⟨j,v⟩:=F;have A:aN (V 15) w.c=V (.a w.c):=rfl;have B:aN (V 6) g.c=V (.a g.c):=rfl;have e:∀{x y:AV},mL (bv U) x y=V x:=λ{x y}=>rfl;have d:∀{x y:AV},mL (bv I) x y=V y:=λ{x y}=>rfl;have n:lo P [] (bv U)/\True:=⟨.inr rfl,trivial⟩;simp only[aai,u0,u1,C,k,A,B,rk,aj,cT,↓uL];cases l:Q (16<(L w.ac:Int)) with|true=>simp only[l,u0,u1,jA,jN,e,d,jM,jt,rU,uR,↓uL];exact⟨λ_=>n,λh=>nomatch h⟩|false=>cases f:Q (4<(L g.cW:Int)) with|true=>simp only[l,f,u0,u1,k,rk,aj,cT,jA,jN,e,d,jM,jt,rU,uR,↓uL];exact⟨λ_=>n,λh=>nomatch h⟩|false=>cases i:gf w with|false=>simp only[l,f,u0,u1,k,rk,aj,cT,jA,jN,e,d,jM,kU,jt,sH,rU,uR,i,j,↓uL];exact⟨trivial, .inr rfl,λ_=>n,λh=>nomatch h⟩|true=>have b:=vw j i;have q:fN w.aQ w.init=U:=(by have f:=(ri i).1;simp only[oh,cP,fK] at f;exact f.1.1.1.1.2);have W:=b.ln;have S:=Kv (ns:=cw w) b b.l5;have o:=awa (ns:=cw w) (w:=w) b.l5 b.wv.ok.ev;have u:=cu.app o (awb (w:=w) (g:=g) b.l5);have p:∀c∈j6 (cw w) w,L c<4611686018427387904:=λc h=>(by have:=o c h;omega);have z:∀c∈j6 (cw w) w++jx (cw w) w g,L c<4611686018427387904:=λc h=>(by have:=u c h;omega);have m:L (lL (cw w))<4611686018427387904:=(by unfold lL;rw[bJ];have:=fZ (λx:ap=>Q (x.kind=1)) (cw w);unfold aR;omega);cases r:qC w g with|false=>simp only[l,f,u0,u1,k,rk,aj,cT,jA,jN,qE,xM,e,d,jM,kU,jt,sH,Kl,rU,uR,i,j,r,and_self,true_and,kN,fh,↓uL];refine⟨.inr rfl,λh=>(nomatch h),λ_=>?_⟩;rintro K ⟨t1,rfl⟩;refine⟨.inl rfl,⟨b.wv.ok,b.wv.ts,q⟩,?_⟩;rintro M ⟨R,rfl⟩;refine⟨.inl rfl,?_⟩;simp only[CV,rU,decide_true,fh,kN,u0,u1,jA,jN,e,d,sH,kU,jt,i,j,and_self,true_and,↓uL];refine⟨by omega, .inr rfl,?_⟩;rintro N ⟨D,rfl,s⟩;refine⟨.inl rfl,?_⟩;rintro O ⟨E,rfl,t⟩;refine⟨.inl rfl,?_⟩;simp only[s.arg,t.arg,rU,u0,u1,jA,jN,e,d,fh,kN,true_and,↓uL];exact⟨⟨m,by show L (j6 (cw w) w)<_;omega,p⟩, .inr rfl,λh=>(nomatch h),λ_=>⟨⟨b.wv.ok,v⟩, .inr rfl,λ_=> .inr rfl,trivial⟩⟩|true=>simp only[l,f,u0,u1,k,rk,aj,cT,jA,jN,qE,xM,e,d,jM,kU,jt,sH,Kl,rU,uR,i,j,r,and_self,true_and,kN,fh,↓uL];refine⟨.inr rfl,λh=>(nomatch h),λ_=>?_⟩;rintro K ⟨t1,rfl⟩;refine⟨.inl rfl,⟨b.wv.ok,b.wv.ts,q⟩,?_⟩;rintro M ⟨R,rfl⟩;refine⟨.inl rfl,?_⟩;simp only[CV,rU,decide_true,fh,kN,u0,u1,jA,jN,e,d,sH,kU,jt,i,j,and_self,true_and,↓uL];refine⟨by omega, .inr rfl,?_⟩;rintro N ⟨D,rfl,s⟩;refine⟨.inl rfl,?_⟩;rintro O ⟨E,rfl,t⟩;refine⟨.inl rfl,?_⟩;simp only[s.arg,t.arg,rU,u0,u1,jA,jN,e,d,fh,kN,true_and,↓uL];refine⟨⟨m,by show L (j6 (cw w) w)<_;omega,p⟩, .inr rfl,λh=>(nomatch h),λ_=>⟨⟨b.wv.ok,v⟩, .inr rfl,?_⟩⟩;rintro r5 ⟨X,rfl,G⟩;refine⟨.inl rfl,?_⟩;rintro B ⟨Z,rfl,H⟩;refine⟨.inl rfl,?_⟩;simp only[G.arg,H.arg,rU,u0,u1,jA,jN,e,d,fh,kN,true_and,↓uL];have T:=axj (ns:=cw w) b (Lj r) b.l5;exact⟨⟨m,by show L (j6 (cw w) w++jx (cw w) w g)<_;rw[bq];omega,z⟩, .inr rfl,λ_=> .inr rfl,trivial⟩
end Go.Ab
