/- Part of the proof of WitnessSchedules. -/
import Derived.Test.YtdgiigkneimbdaaGreatDoorD
set_option linter.all false
set_option maxRecDepth 100000
open And renaming intro->ai
open Bool renaming and_eq_false_iff->bik,and_eq_true->bN,and_false->qc,and_true->ru,false->I,false_eq_true->eE,not_eq_false'->fK,not_eq_true'->eH,not_false->kN,not_true->fh,or_eq_false_iff->cP,or_true->wY,true->U,true_eq_false->sr
open Decidable renaming decide->Q,not_not->aNS
open Go.IntKind renaming i64->dq
open Go.Proofs.Tryz renaming prog->aS
open Go.Value renaming int.injEq->mW,string.injEq->mX
open Int renaming toNat_natCast->bh,toNat_zero->Gx
open List renaming all_cons->Cs,all_eq_true->dV,all_nil->aqG,append_assoc->bje,append_nil->cL,cons.injEq->kO,drop->aOz,drop_succ_cons->nM,drop_zero->ip,flatMap_cons->Cz,flatMap_nil->RN,foldl_nil->aRl,getElem?_append_left->xe,getElem?_cons_zero->qh,getElem?_eq_getElem->eC,getElem?_map->ve,getElem_of_mem->ou,length->L,length_append->a6G,length_cons->bZ,length_map->bJ,length_nil->bhZ,map_append->dg,map_congr_left->ja,map_cons->ji,map_map->vA,map_nil->mU,map_set->bsl,mem_append->dF,mem_cons->eW,mem_map->dN,mem_map_of_mem->CA,mem_range->fq,mem_singleton->cE,nil_append->dW,nodup_append->xl,not_mem_nil->ql,range->aH,range_succ->qn,replicate->er,set_eq_take_append_cons_drop->GP,take_length->gV,take_succ_eq_append_getElem->iJ,take_zero->CE
open Nat renaming eq_zero_or_pos->oD,le_refl->dA,le_trans->gl,lt_of_lt_of_le->bpL,mul_le_mul_right->qo,succ_mul->tN,zero_add->aj
open Ne renaming symm->Sa
open Option renaming bind_some->a6X,map_some->df,none->J,some->V,some.injEq->aOe
open Prod renaming mk.injEq->iK
namespace Go.Ab
open Go Go.RowKit Go.Proofs Go.Proofs.Tryz
def bt4(ns:List aH8)(w:am):List (eu):=btr ns w++oH ns w++sN ns w (aR ns 5)++rJ ns w
def yc(w)(u:Int)(l):L (fg w u l)<=L l:=by unfold fg btu;have:=jo (f:=λn=>fw (lm w u n)<|L w.ac) (m:=1) (l:=l.take<|L l) (by grind [Er]);simp_all
theorem KI{w}(h:buT w){k:Nat}(b:k<L w.ac):L (gd w.ac k).dI<=2000/\L (gd w.ac k).ep<=2000:=by have:∀x,x∈(gd w.ac k).dI\/x∈(gd w.ac k).ep-> -1000<=x/\x<=1000:=λx d=>⟨(h.rd k b x d).1,(h.rd k b x d).2.1⟩;have c:=(h.wo.wo.en k b).2;simp only[bjf,bip,eH,cP,fK,awG] at c;obtain⟨_,_,_,_,⟨e,f⟩,_⟩:=c;constructor;obtain a|a:=oD<|L (gd w.ac k).dI;omega;have:=yq e (L (gd w.ac k).dI-1) Z;grind [dB];obtain a|a:=oD<|L (gd w.ac k).ep;omega;have:=yq f (L (gd w.ac k).ep-1) Z;grind [dB]
structure VW(w:am):Prop where
 hf:hU w
 hv:bcV w=U
 ps:buT w
 wv:WV w
 ln:L (m8 w)<2000
 l5:L (aR (m8 w) 5)<=320
 nt:L w.aQ.ay<=4
 it:L w.init.eB.ay=L w.aQ.ay
 th:∀k,k<L w.ac->aF (L w.aQ.ay) (gd w.ac k).aq
 hp:∀r:Nat,r<L w.ac->((gd w.ac r).kind=23->aF (L w.init.eB.done) (gd w.ac r).eI/\aF (L w.init.bU) (gd w.ac r).eI)/\((gd w.ac r).kind=3->aF (L w.init.cells) (gd w.ac r).eI)
def vw{w}(d:hU w)(a:bcV w=U):VW w:=by have s:=anT d a;have b:=vd d a;obtain⟨v,x,y,i,t⟩:=Bx a;obtain⟨fc,fl,z,e⟩:=iY i;have n:=b.th;have g:=(aQA a).1;simp only[oh,cP,fK,aPs] at g;have o:=g.1.1.1.1.2;simp only[fN,bN,awG] at o;have c:=Bq a 0<|Nat.zero_le _;have p:∀k,k<L w.ac->aF (L w.aQ.ay) (gd w.ac k).aq:=λk j=>(b.wo.named j).2;have m:=anE b.wo.ev (show L w.init.eB.ay<=4 by omega);refine⟨d,a,s,⟨b.wo,λk j=>?_,vB,λu C=>?_,Z,⟨fl,by have:=c.lo;grind [cY]⟩,λl q=>?_⟩,m.1,by rw[Qf];exact m.2,n,e,p,λr B=>⟨λh=>?_,λh=>?_⟩⟩;grind [KI];grind [buT.ct,ii];have f:=c.rd l q;have:=AC f.1 f.2;omega;grind [oU,kB.named,vL.wo];grind [qP,kB.named,vL.wo]
section
variable{w:am}{ns:List aH8}
theorem KB(a:L w.ac<=16):L (btr ns w)<=1000:=by
 have:=brS (f:=jy ns<|L w.ac) (c:=16) (λx=>by
  have:=brS (f:=my ns x) (c:=1) (by grind [my])<|L w.ac
  unfold jy;omega) (L w.ac)
 have:=brS (f:=kY ns w) (c:=2) (by grind [kY])<|L w.ac
 have:=brS (f:=mA ns w) (c:=2) (by grind [mA])<|L w.ac
 grind [btr]
theorem axl{s}(h:L s<=100):L (rL ns s)<=40000:=by
 have:=brS (f:=mw ns s) (c:=400) (λi=>by
  have:=brS (f:=λj=>iA ns (gd s i)<|gd (s.drop<|i+1) j) (c:=4) (λj=>axk)<|L<|s.drop<|i+1
  grind [mw]) (L s)
 unfold rL;omega
theorem bxa(a:VW w)(k:Nat)(c:k<=L w.aQ.ak+1):L ((aH k).flatMap<|pE ns w)<=200000:=by have:=jo (f:=pE ns w) (m:=40000) (l:=aH k) λi b=>axl (Q6 a.hf a.hv ⟨Z,by have:=fq.1 b;omega⟩);have:=a.wv.lk.2;grind
theorem Kz{l}(a:L l<=320)(b:L w.ac<=16):L (sN ns w l)<=400000:=by
 have:=brS (f:=λk=>iW ns<|gd l k) (c:=3) (by grind [iW])<|L l
 have:=brS (f:=lP ns l) (c:=320) (λk=>gl (brS (f:=λj=>ju ns (gd l k)<|gd (l.drop<|k+1) j) (c:=1) (by grind [ju]) _) NA)<|L l
 have:=brS (f:=lQ ns w l) (c:=320) (λk=>gl (brS (f:=λj=>jk ns w (gd l k)<|gd (l.drop<|k+1) j) (c:=1) (by grind [jk]) _) NA)<|L l
 have:=brS (f:=λk=>nT ns w l<|gd l k) (c:=321) (by grind [alM])<|L l
 have:=brS (f:=ng ns w l) (c:=321) (λk=>by
  unfold ng
  split
  ·have:=brS (f:=iO ns k (brz w k).1 l) (c:=1) (by grind [iO])<|L l
   grind
  ·simp) (L w.ac)
 grind [sN]
theorem KA(a:VW w)(k:Nat)(q:k<=L w.ac):L ((aH k).flatMap<|bsS ns w)<=1000000:=by have u:=a.wv.ok.ev;have h:=jo (f:=bsS ns w) (m:=60000) (l:=aH k) λr t=>(by unfold bsS;split;have e:=jo (f:=λj=>iP ns w r<|gd (dx w r) j) (m:=2020) (l:=aH<|L<|dx w r) λj d=>(by have hs:=(Kt<|dB<|fq.1 d).2;generalize gd (dx w r) j=s at hs⊢;unfold iP;rw[a6G];have g:L (btR ns w r s)<=2002:=(by unfold btR;split;rename_i b;have i:=brS (f:=pD ns r s<|fg w (gd w.ac s.toNat).aq (gd w.ac s.toNat).ep) (c:=1) (λj=>by simp[pD])<|L<|fg w (gd w.ac s.toNat).aq (gd w.ac s.toNat).ep;have n:=yc w (gd w.ac s.toNat).aq (gd w.ac s.toNat).ep;have o:=(KI a.ps (k:=s.toNat)<|be7 ((hs b).1.1)<|(hs b).1.2).2;simp only[a6G,bZ,bhZ];omega;simp);have p:=brS (f:=btg ns w r s) (c:=1) (by grind [btg])<|L w.ac;omega);grind [vU];simp);grind
theorem Kw(a:VW w):L ((aH<|L w.ac).flatMap<|kX ns w)<=40000:=by have:=a.wv.ok.ev;have:=jo (f:=kX ns w) (m:=2000) (l:=aH<|L w.ac) λi b=>(by have:=brS (f:=qv ns i<|fg w (gd w.ac i).aq (gd w.ac i).dI) (c:=1) (λj=>by simp[qv])<|L<|fg w (gd w.ac i).aq (gd w.ac i).dI;have:=yc w (gd w.ac i).aq (gd w.ac i).dI;have:=(KI a.ps (k:=i)<|fq.1 b).1;unfold kX;omega);grind
def Kv(a:VW w)(b:L (aR ns 5)<=320):L (bt4 ns w)<=2000000:=by have:=KB (ns:=ns) a.wv.ok.ev;have:=bxa (ns:=ns) a (L w.aQ.ak+1)<|dA _;have:=Kz (ns:=ns) (w:=w) b a.wv.ok.ev;have:=KA (ns:=ns) a (L w.ac)<|dA _;have:=Kw (ns:=ns) a;simp only[bt4,rJ,oH,a6G];omega
end
section
variable{Y:ae}
theorem ank{w}(d:VW w)(hl:L Y=4096):∃r y,(∃b n m a i j f,r= .p b 0 0/\bD y b w (m8 w) (bt4 (m8 w) w) n m a i j f/\Fx Y y []/\bK Y b)/\cZ aS GG 87 [.a w.c] Y r y:=aJ5 hl A λs2 v1 K2 aJ nf R=>by have v:=K2.fx [];have af:=v.len.trans hl;have r15:aN (V 15) w.c=V (.a w.c):=A;have e:=d.wv.ok.ev;have:=d.ln;have:=d.wv.lk.2;have M:jb w (m8 w):=anG Z;have D:=an6 d.ps d.hf;have S:=aId e;have Wk:=Rq e d.wv.ts;have ag:=d.l5;have:=KB (ns:=m8 w) e;have q3:=Kz (ns:=m8 w) (w:=w) ag e;have:=KA (ns:=m8 w) d (L w.ac)<|dA _;have:=Kw (ns:=m8 w) d;have q2:=λk hk=>bxa (ns:=m8 w) d k hk;simp only[qy 4,eQ,R,r15];refine jH A (aCA af d.hv d.hf aEm Z) ?_;rintro r3 Y3 ⟨b,n,m,i,j,f,rfl,C3,x,Nb,_,_⟩;refine⟨x.len,?_⟩;have T:=x.kq R;have aa:((1,v1):Id)≠b:=bvj;generalize m8 w=ns at*;refine aEh C3 M d.th e X λa4 Y4 C4 A4=>?_;have W:=A4.keep T aa aBY;simp only[qz 6,eT,W];refine yV (L w.aQ.ak) (λk _ Y'=>∃G,bD Y' b w ns (btr ns w++(aH k).flatMap (pE ns w)) n m G i j f/\Ad Y3 Y' b (.l [] U U) G) X ?_;rintro k _ Y5 hk ⟨a5,g,C⟩;have:=q2 k Z;simp only[qz 31,au,eQ];constructor<;>intro h;have o:=aL h;refine aEf g d.hf d.hv (dJ o) λt=>?_;simp only[qz 8];refine bs1 A (anl g M (by grind [Q6,VW.hf,VW.hv]) (by grind [anV,VW.hf,VW.hv]) X) λP Y6 F u=>?_;simp only[qz 10,au,eQ];refine yU o ⟨P,?_,C.trans u⟩;rwa [a6z,<-bje];obtain rfl:k=L w.aQ.ak:=X;have s:=q2 (L w.aQ.ak+1)<|dA _;rw[a6z,a6G] at s;have ab:pE ns w (L w.aQ.ak)=rL ns (jE w.aQ w.init.eB w.ac<|L w.aQ.ak):=A;rw[ab] at s;refine aEk g d.hf d.hv λt=>?_;simp only[qz 12,qy 14];refine bs1 A (anl g M (by grind [Q6,VW.hf,VW.hv]) (by grind [anV,VW.hf,VW.hv]) X) λP Y6 F u=>?_;refine bs1 A (aDJ F M Wk e X) λa7 Y7 C7 A7=>?_;simp only[qz 16,qy 18];have hN:sN ns w (aR ns 5)=(((aH<|L<|aR ns 5).flatMap λk=>iW ns<|gd (aR ns 5) k)++((aH<|L<|aR ns 5).flatMap (lP ns<|aR ns 5)++((aH<|L<|aR ns 5).flatMap (lQ ns w<|aR ns 5)++((aH<|L<|aR ns 5).flatMap λk=>qw ns w<|gd (aR ns 5) k))))++(aH<|L w.ac).flatMap (bsZ ns w):=(by simp only[sN,bje];rfl);rw[hN,a6G] at q3;generalize(((aH<|L<|aR ns 5).flatMap λk=>iW ns<|gd (aR ns 5) k)++((aH<|L<|aR ns 5).flatMap (lP ns<|aR ns 5)++((aH<|L<|aR ns 5).flatMap (lQ ns w<|aR ns 5)++((aH<|L<|aR ns 5).flatMap λk=>qw ns w<|gd (aR ns 5) k))))=N at*;refine bs1 A (aDv C7 M Wk d.th d.it d.nt e X) λa8 Y8 C8 A8=>?_;refine bs1 A (aDV C8 M D S d.th e X) λa9 Y9 C9 A9=>?_;simp only[qz 20,qy 22];refine aEd C9 M D d.th e (by grind [a6G]) λK aG E B=>?_;have Aq:=((((C.trans u).trans A7).trans A8).trans A9).trans B;have z:bt4 ns w=btr ns w++(aH<|L w.aQ.ak).flatMap (pE ns w)++rL ns (jE w.aQ w.init.eB w.ac<|L w.aQ.ak)++N++(aH<|L w.ac).flatMap (bsZ ns w)++(aH<|L w.ac).flatMap (bsS ns w)++(aH<|L w.ac).flatMap (kX ns w):=(by simp_all [bt4,oH,a6z,rJ]);rw[z];refine⟨b,n,m,K,i,j,f,A,E,((v.trans x).trans Aq.fx).mono λq hq=>?_,Nb.old v⟩;simp only[dW,aA,cE] at hq;grind [bK.no,bK.old]
end
def apz:dO:=apy
def Ri:eJ apz:=aph
def Ld:=@aBq
def asC:=I9 27 [(5,([],[4,5])),(11,([39],[2,4,5,37,38])),(14,([],[2,4,5,37,38,39]))]
def aJ3{c0 b}:=y2 45 15 2 48 6 3 Ri func35 asC c0 b [.a c0, .a b]
def vZ(w:am)(out:List<|eu):br6:=⟨L w.ac,L<|m8 w,lL<|m8 w,out⟩
def Em{Y}{p v:Nat}{zs a1 a w out R}(k:box Y (p,v)=V ⟨104,4,U,U,[zs]⟩)(M:L zs=4)(g1:lI Y 246 3 a1<|(lL<|m8 w).map bqR.c)(g:lI Y 25 1 a<|out.map λc=>[sl ci c])(m:∀ds,Lk ds (vZ w out).c->R (.a ds)):sV (aK 4 Y (.p (p,v) 0 0)<|.a [iv<|L w.ac,iv<|L<|m8 w,a1,a]) λs=>rV (sA (V 4) s<|.p (p,v) 0 0) λt=>aE R s [t]:=by have i:∀{x y x2 j:AV},aN (V 4) [x,y,x2,j]=V (.a [x,y,x2,j]):=A;refine stI (y:=4) (cs:=[iv<|L w.ac,iv<|L<|m8 w,a1,a]) k A rfl Z λb d F=>?_;have f:box b (p,v)=V ⟨104,4,U,U,[[iv<|L w.ac,iv<|L<|m8 w,a1,a]]⟩:=vB;have h:∀{e:TypeId} {z:Nat} {x:AV} {bA:List (dM)},lI Y e z x bA->∀q∈aA x,q∉[((p,v):Id)]:=(by intro e z x bA n q o G;obtain⟨_,rfl⟩|⟨E,rfl,K⟩:=n;simp[aA] at o;grind [aA]);obtain⟨t1,o1,B⟩:=(g1.fx d<|h g1).frD;obtain⟨D,u,C⟩:=(g.fx d<|h g).frD;simp only[f,eQ,i];have r:jS b [.a [iv<|L w.ac,iv<|L<|m8 w,a1,a]]= .a [iv<|L w.ac,iv<|L<|m8 w, .l ((lL<|m8 w).map bqR.c) t1 o1, .l (out.map λc=>[sl ci c]) D u]:=(by show AV.a [dQ b<|iv<|L w.ac,dQ b<|iv<|L<|m8 w,dQ b a1,dQ b a]=_;rw[B,C];rfl);unfold aE;rw[r];exact⟨A,m _ ⟨A,A⟩⟩
structure byE(w:am)(g:cJ):Prop where
 h1:g.kind=1->aF (L w.ac) g.ea/\aF (L w.ac) g.eb
 h2:g.kind=2->(∀e∈g.cW,aF (L w.ac) e)/\L g.cW<=4
 h3:g.kind=3->aF (L w.ac) g.ea/\aF (L w.ac) g.eb/\g.ea≠g.eb
 h4:g.kind=4->aF (L w.ac) g.ea/\aF (L w.ac) g.eb/\aF (L w.ac) g.ec/\aF (L w.ac) g.ed/\g.ea≠g.ec
def Lj{w g}(h:qC w g=U):byE w g:=by unfold qC at h;by_cases b:g.kind=2;rw[bsi b,aRa] at h;simp only[qx,bN,eH,awG] at h;obtain⟨j,k,_⟩:=h;refine⟨λe=>Z,λ_=>⟨λe i=>?_,?_⟩,λe=>Z,λe=>Z⟩;exact(px (p:=λe=>aF (L w.ac) e)).1 btB e i;grind [rO];rw[bqN b,bih] at h;simp only[bN] at h;obtain⟨⟨ia,a,c,d⟩,f⟩:=h;have ia:=dX.1 ia;have a:=dX.1 a;have c:=dX.1 c;have d:=dX.1 d;refine⟨λ_=>⟨ia,a⟩,λe=>aYx e b,λe=>⟨ia,a,?_⟩,λe=>⟨ia,a,c,d,?_⟩⟩;rw[bqN Z,bsi e,bih,aRa] at f;grind [wz,tm];rw[bqN Z,bqN Z,bsi e,bih,bih,aRa] at f;grind [tZ,vQ]
def NO(w)(g)(hp:bcV w=U/\hU w/\qC w g=U):Ct 35 [.a w.c, .a g.c] (λr=>∃ds,r= .a ds/\Lk ds (vZ w<|bt4 (m8 w) w++jx (m8 w) w g).c):=aJ3 A rfl λs2 hl b1 b3 h0=>by obtain⟨hv,hf,hg⟩:=hp;have d:=vw hf hv;have G:=Lj hg;have hW:=vd hf hv;have K:=d.wv.ok.ev;have:=d.ln;have aT:=d.l5;have M:jb w (m8 w):=anG Z;have D:=an6 d.ps d.hf;have Wk:=Rq K d.wv.ts;have r15:aN (V 15) w.c=V (.a w.c):=A;have r6:aN (V 6) g.c=V (.a g.c):=A;have:=Kv (ns:=m8 w) d aT;refine zm hl λv2 s3 F3 N3 b2=>?_;have ak:=F3.kq b1;have an:=F3.kq b3;simp only[qz 6,qy 8,hZ,ak,an,r15,r6,Ld,hv,hf,hg,hW,aNR,jA,eE,fL];refine jH A (ank d<|F3.len.trans hl) ?_;rintro r4 Y4 ⟨b,n,wk,a,bm,bo,f,rfl,p,F4,Nb⟩;refine⟨F4.len,?_⟩;have am:=F4.kq b2;have al:=F4.kq ak;have s:=F4.kq an;have:=p.sb;have N:∀{k v:Nat},k≠18->(k,v)≠b:=X;simp only[qz 10,di];have:∀c,vZ w c=⟨L w.ac,L<|m8 w,lL<|m8 w,c⟩:=λ_=>A;refine bvr (λvs Y'=>∃m,bD Y' b w (m8 w) (bt4 (m8 w) w++jx (m8 w) w g) n wk m bm bo f/\Ad Y4 Y' b a m) (λi hJ=>?_) ?_;simp only[qz 35,qy 24,qy 26,eT,s];have W:∀{x:Int},aF (L w.ac) x->L (jK (m8 w) w x)<=10010:=λhx=>zW d.wv (yc w) hx;have hn:L (m8 w)<100000:=Z;generalize m8 w=ns at*;generalize hO:bt4 ns w=Oq at*;refine⟨λB=>?_,λbg=>⟨λB=>?_,λbi=>⟨λB=>?_,λbj=>⟨λB=>?_,λbk=>hJ [] Y4 ⟨a,?_,Ad.refl _ _ _⟩⟩⟩⟩⟩;have j:=aNQ B;have:=W (G.h1 j).1;have:=W (G.h1 j).2;refine bwt p M D d.th K (G.h1 j).1 Z λR E o l=>?_;have u:=l.keep s (N H)<|p.ne s<|.inl A;simp only[qz 12,qy 14,eT,u];refine bwt o M D d.th K (G.h1 j).2 (by simp only[a6G];omega) λS F q P=>hJ [] F ⟨S,?_,l.trans P⟩;grind [jx];have j:=aNQ B;obtain⟨aM,be⟩:=G.h2 j;refine yV (L g.cW) (λk _ Y'=>∃m,bD Y' b w ns (Oq++(aH k).flatMap λk=>btQ ns w<|gd g.cW k) n wk m bm bo f/\Ad Y4 Y' b a m) bul ?_;rintro k _ E bl ⟨R,o,l⟩;have aU:∀x,L (jc ns w x)<=2:=(by grind [jc]);have:=brS (f:=λk=>btQ ns w<|gd g.cW k) (c:=3) (by grind [btQ]) k;simp only[qz 67,au,eQ];refine⟨λh=>?_,λh=>hJ [] E ⟨R,?_,l⟩⟩;have aa:=aL h;refine bsf (λi=>∀m Y',bD Y' b w ns (Oq++((aH k).flatMap λk=>btQ ns w<|gd g.cW k)++btQ ns w (gd g.cW k)) n wk m bm bo f->Ad Y4 Y' b a m->i [] Y') ?_ λi ab=>?_;intro m Y' q1 q2;simp only[qz 87,au,eQ];refine yU aa ⟨m,?_,q2⟩;grind [a6z];simp only[qz 89,au,ix,bh];refine⟨dJ aa,?_⟩;have z:=aM _<|dB aa;generalize gd g.cW k=e at*;have aO:e.toNat<L w.ac:=(be7 z.1 z.2);refine anz o M d.th K (by simp only[a6G];omega) z λS F q P=>?_;have C:=l.trans P;have aE:=C.keep al (N H)<|p.ne al<|.inl A;simp only[qz 16,fD,aE];refine⟨z,λaK=>ab S F ?_ C,λaK=>?_⟩;grind [btQ];have:(gd w.ac e.toNat).kind=17:=X;refine anB q Z z (d.wv.th _ aO).2 (aYF d.wv.ts) λv bn=>?_;simp only[qz 18,qy 20,qy 22,oJ,pG,u0];refine⟨λaV=>?_,λaV=>ab S F ?_ C⟩;refine anC q hn v λt=>?_;have:L (gO ns (aR ns 5) v)<=L (aR ns 5):=(by grind [gO]);have:=aU e;refine bnk q X _ Z λa7 Y7 C7 A7=>ab a7 Y7 ?_<|C.trans A7;have:nG ns (aR ns 5) (brz w e).1 (-1)=gO ns (aR ns 5) (brz w e).1:=(by unfold nG gO;congr 1;refine List.filter_congr λy hy=>?_;have:=(Wk.ok y hy).1.1;simp;omega);grind [btQ];grind [btQ];grind [jx];have j:=aNQ B;obtain⟨g1,g2,g3⟩:=G.h3 j;refine aEg p M Wk K g1 g2 g3 Z λR E o l=>hJ [] E ⟨R,?_,l⟩;rwa [jx,za Z,za Z,zg j];have j:=aNQ B;obtain⟨g1,g2,g3,g4,g5⟩:=G.h4 j;have:=W g2;refine bpl p hn (M.ex _ g1) ?_;simp only[a5Y,bQ,qz 28];refine bnk p Z [_] O λR E o l=>?_;have u:=l.keep s (N H)<|p.ne s<|.inl A;simp only[qz 30,qy 32,eT,u];refine bpl o hn (M.ex _ g4) ?_;simp only[a5Y,bQ,qz 34];refine bnk o X [_] O λS F q P=>?_;have T:=P.keep u (N H)<|o.ne u<|.inl A;simp only[qz 36,qy 38,eT,T];refine kg q hn (M.bf _ _ g1 g3 g5) ?_;simp only[a5Y,bQ,qz 40];refine bnk q X [_] O λa7 Y7 C7 A7=>?_;have aJ:=A7.keep T (N H)<|q.ne T<|.inl A;simp only[qz 42,qy 44,eT,aJ];refine bwt C7 M D d.th K g2 X λa8 Y8 C8 A8=>hJ [] Y8 ⟨a8,?_,by grind [Ad.trans]⟩;grind [jx];grind [jx];rintro vs E ⟨m,o,l⟩;simp only[qz 33,aI];have aG:=l.keep am (N H)<|p.ne am<|.inl A;refine jH A (anm o Z) ?_;rintro r6 F ⟨a1,rfl,g1,g,F6⟩;refine⟨F6.len,?_⟩;simp only[qz 46,qy 48];exact Em (F6.kq aG) A g1 g O
def BP:FT:=pn NO
def ax1:=f211 BP NO
def apB:dO:=(35,BP)::apz
def Rj:eJ apB:=asq (aN0 NO)<|Ri
def amo:=ai @ax1<|@Ld
section
attribute[local irreducible] aX
def bgS{a}:=y0 Rj func331 auF [a]
def a9i:=I9 8 [(5,([5],[]))]
def bgQ{a a1}:=y0 Rj func317 a9i [a,a1]
def bgW{a}:=y0 Rj func287 at1 [a]
def bg7{a a1}:=y0 Rj func263 at1 [a,a1]
def bg9{a a1}:=y0 Rj func272 atS [a,a1]
def a9l:=I9 10 [(3,([5],[1,2]))]
def bgT{c0 a1}:=y1 34 6 2 Rj func327 a9l c0 [.a c0,a1]
def a9n:=I9 21 [(3,([5],[1,4])),(8,([13],[1,4])),(15,([37],[1,4]))]
def bgV{c0}:=y1 290 6 1 Rj func210 a9n c0 [.a c0]
def bhe{a}:=y0 Rj func319 auF [a]
def aVt b R t1 a:=aU b (iv 6) λt3=>bX t3 b λf=>aC t3 (aO .gtr f<|iv 28) λg=>aD t3 (bv U) g λh=>ah h (aE R a [iv 0]) (aO .sub b (iv 6) λc=>ao 1 a t1 c λd=>aM a d λe=>aE R a [e])
def aVs a s0 R:=eV (aX bH 23 s0 [(0,iv 3),(1,iv 3),(2,iv 4),(3,iv 4),(4,iv 5),(5,iv 6),(6,iv 7),(7,iv 8),(8,iv 9),(9,iv 10),(10,iv 11),(11,iv 12),(12,iv 13),(13,iv 14),(14,iv 15),(15,iv 16),(16,iv 18),(17,iv 19),(18,iv 20),(19,iv 21),(20,iv 22),(21,iv 23),(22,iv 2)])<|aVt a R
def bhn{a:AV}{R:J3}(h:H0 λs0=>aVs a s0 R):Ct 289 [a] R:=z0 ato Rj func289 h
def bgB{a a1}:=y0 Rj func295 atS [a,a1]
def bgG{a a1}:=y0 Rj func296 atS [a,a1]
def a8V:=I9 9 []
def bgt{a}:=y0 Rj func338 a8V [a]
def bgy{c0}:=y1 298 4 1 Rj func333 at1 c0 [.a c0]
def bgK{a a1}:=y0 Rj func323 auF [a,a1]
def bgJ{a}:=y0 Rj func326 auF [a]
def bgs{a}:=y0 Rj func214 at1 [a]
def bgr{a}:=y0 Rj func305 at1 [a]
def aUG s0 R:=(.mk _:NR apB at1 Tryz.f211 [] [] s0 R).p
def bgk{R:J3}(h:H0 λs0=>aUG s0 R):Ct 211 [] R:=z0 at1 Rj func211 h
def aVS s0 R:=(.mk _:NR apB at1 Tryz.f200 [] [] s0 R).p
def bhz{R:J3}(h:H0 λs0=>aVS s0 R):Ct 200 [] R:=z0 at1 Rj func200 h
def a9S:=I9 21 [(3,([9],[0,1,2,3])),(11,([10,11,12],[0,1,2,3,9])),(14,([10,11],[0,1,2,3,9,12]))]
def bhq{a a1 b c}:=y0 Rj func127 a9S [a,a1,b,c]
def bg3{a a1}:=yB Rj func301 atS [a,a1]
end
inductive aNK where
 |mk(op n:Int)(name:ByteArray)(l:List aNK)
def aNK.op:aNK->Int| .mk a _ _ _=>a
def aNK.n:aNK->Int| .mk _ a _ _=>a
def aNK.name:aNK->ByteArray| .mk _ _ a _=>a
def aNK.l:aNK->List aNK| .mk _ _ _ a=>a
instance:Inhabited aNK:=⟨.mk 0 0 ⟨#[]⟩ []⟩
mutual
def aNK.c:aNK->dM| .mk op n a l=>[iv op,iv n,st a, .l (aNK.cr l) I I]
def aNK.cr:List aNK->List (dM)|[]=>[]|e::l=>aNK.c e::aNK.cr l
end
def aNK.cr_eq:∀{l},aNK.cr l=l.map aNK.c
 |[]=>by simp only[aNK.cr,mU]
 |e::l=>by simp only[aNK.cr,ji,aNK.cr_eq]
def aoH{x}:aNK.c x=[iv x.op,iv x.n,st x.name,sl aNK.c x.l]:=by cases x;simp only[aNK.c,aNK.cr_eq,aNK.op,aNK.n,aNK.name,aNK.l,sl]
inductive amt where
 |mk(op line:Int)(name arg:ByteArray)(index:List aNK)(expr:aNK)(body els:List amt)
def amt.op:amt->Int| .mk a _ _ _ _ _ _ _=>a
def amt.line:amt->Int| .mk _ a _ _ _ _ _ _=>a
def amt.name:amt->ByteArray| .mk _ _ a _ _ _ _ _=>a
def amt.arg:amt->ByteArray| .mk _ _ _ a _ _ _ _=>a
def amt.index:amt->List aNK| .mk _ _ _ _ a _ _ _=>a
def amt.expr:amt->aNK| .mk _ _ _ _ _ a _ _=>a
def amt.body:amt->List amt| .mk _ _ _ _ _ _ a _=>a
def amt.els:amt->List amt| .mk _ _ _ _ _ _ _ a=>a
instance:Inhabited amt:=⟨.mk 0 0 ⟨#[]⟩ ⟨#[]⟩ [] default [] []⟩
mutual
def amt.c:amt->dM| .mk op e b arg index a d els=>[iv op,iv e,st b,st arg,sl aNK.c index,iv a.op,iv a.n,st a.name,sl aNK.c a.l, .l (amt.cr d) I I, .l (amt.cr els) I I]
def amt.cr:List amt->List (dM)|[]=>[]|e::l=>amt.c e::amt.cr l
end
def amt.cr_eq:∀{l},amt.cr l=l.map amt.c
 |[]=>by simp only[amt.cr,mU]
 |e::l=>by simp only[amt.cr,ji,amt.cr_eq]
def apT{x}:amt.c x=[iv x.op,iv x.line,st x.name,st x.arg,sl aNK.c x.index,iv x.expr.op,iv x.expr.n,st x.expr.name,sl aNK.c x.expr.l,sl amt.c x.body,sl amt.c x.els]:=by cases x;simp only[amt.c,amt.cr_eq,amt.op,amt.line,amt.name,amt.arg,amt.index,amt.expr,amt.body,amt.els,sl]
structure bmK where
 kind:Int
 line:Int
 name:ByteArray
 size:Int
 init:Int
 on:ByteArray
 deriving Inhabited
def bmK.c(x:bmK):dM:=[iv x.kind,iv x.line,st x.name,iv x.size,iv x.init,st x.on]
structure bj9 where
 name:ByteArray
 line:Int
 locs:List ByteArray
 body:List amt
 deriving Inhabited
def bj9.c(x:bj9):dM:=[st x.name,iv x.line,sl cs x.locs,sl amt.c x.body]
structure bqH where
 brP:List bmK
 ay:List bj9
 deriving Inhabited
def bqH.c(x:bqH):dM:=[sl bmK.c x.brP,sl bj9.c x.ay]
structure aRV where
 op:Int
 a:Int
 b:Int
 k:Int
 n:Int
 site:Int
 deriving Inhabited
def aRV.c(x:aRV):dM:=[iv x.op,iv x.a,iv x.b,iv x.k,iv x.n,iv x.site]
structure bqI where
 aO6:Int
 boU:List aRV
 deriving Inhabited
def bqI.c(x:bqI):dM:=[iv x.aO6,sl aRV.c x.boU]
structure bit where
 aQ:aOw
 ay:List bqI
 deriving Inhabited
def bit.c(x:bit):dM:=x.aQ.c++[sl bqI.c x.ay]
structure bim where
 pc:Int
 aO6:eu
 aPe:List (eu)
 ac:Int
 deriving Inhabited
def bim.c(x:bim):dM:=[iv x.pc,sl ci x.aO6,sl cl x.aPe,iv x.ac]
structure bcW where
 eB:aW
 cells:eu
 bU:eu
 ay:List bim
 deriving Inhabited
def bcW.c(x:bcW):dM:=x.eB.c++[sl ci x.cells,sl ci x.bU,sl bim.c x.ay]
structure brp where
 aQ:aOw
 ac:List aP
 deriving Inhabited
def brp.c(x:brp):dM:=x.aQ.c++[sl aP.c x.ac]
def bsM{p:Prop}(h:p:=by rw[Go.Ab.aoH];rfl):p:=h
def aN9{x}:L (aNK.c x)=4:=bsM
def bqK{p:Prop}(h:p:=by rw[Go.Ab.apT];rfl):p:=h
theorem brR{x}:L (amt.c x)=11:=bqK
section
variable{K:J3}{Y:ae}{i:Int}
def bcY{l}:rV (cz 4 Y (sl aNK.c l)<|iv i) K=(aF (L l) i/\K (.q<|aNK.c<|gd l i.toNat)):=aBz λ_=>aN9
def bc0{l}:rV (cz 11 Y (sl amt.c l)<|iv i) K=(aF (L l) i/\K (.q<|amt.c<|gd l i.toNat)):=aBz λ_=>brR
def bcX{l}:rV (cz 6 Y (sl bmK.c l)<|iv i) K=(aF (L l) i/\K (.q<|bmK.c<|gd l i.toNat)):=aBz λ_=>A
def bzv{l}:rV (cz 4 Y (sl bj9.c l)<|iv i) K=(aF (L l) i/\K (.q<|bj9.c<|gd l i.toNat)):=aBz λ_=>A
def bcZ{l}:rV (cz 6 Y (sl aRV.c l)<|iv i) K=(aF (L l) i/\K (.q<|aRV.c<|gd l i.toNat)):=aBz λ_=>A
def bc1{l}:rV (cz 2 Y (sl bqI.c l)<|iv i) K=(aF (L l) i/\K (.q<|bqI.c<|gd l i.toNat)):=aBz λ_=>A
def bc3{l}:rV (cz 4 Y (sl bim.c l)<|iv i) K=(aF (L l) i/\K (.q<|bim.c<|gd l i.toNat)):=aBz λ_=>A
def aPR{a b:Int}:bc4 .rem 0 [] (iv a) (iv b)=if b≠0 then V (iv<|a.tmod b) else J:=by by_cases h:b=0<;>simp[bc4,zP,h]
def a5N{a b:Int}:bc4 .quo 0 [] (iv a) (iv b)=if b≠0 then V (iv<|dq.wrap<|a.tdiv b) else J:=by by_cases h:b=0<;>simp[bc4,zP,h]
end
def ixv:=ai @bcY<|ai @bc0<|ai @bcX<|ai @bzv<|ai @bcZ<|ai @bc1<|@bc3
mutual
def a53:∀{x y:aNK},aNK.c x=aNK.c y->x=y
 | .mk a b c d, .mk e f g j,h=>by
  simp only[aNK.c,kO,AV.s.injEq,mW,mX,AV.l.injEq,nJ] at h
  obtain⟨rfl,rfl,rfl,h⟩:=h
  rw[a6d h]
def a6d:∀{x y:List aNK},aNK.cr x=aNK.cr y->x=y
 |[],[],_=>rfl
 |[],_::_,h=>by grind [aNK.cr]
 |_::_,[],h=>by grind [aNK.cr]
 |a::l,b::m,h=>by
  simp only[aNK.cr,kO] at h
  rw[a53 h.1,a6d h.2]
end
def aOD{x y:aNK}:(aNK.c x=aNK.c y)=(x=y):=bqL ⟨a53,λh=>by rw[h]⟩
def aOZ{l l'}:=bsn @aOD l l'
mutual
def a54:∀{x y:amt},amt.c x=amt.c y->x=y
 | .mk a b c d e f g i, .mk k m o p t j u C,h=>by
  simp only[amt.c,kO,AV.s.injEq,mW,mX,AV.l.injEq,nJ,aOZ] at h
  obtain⟨rfl,rfl,rfl,rfl,rfl,v,w,z,B,q,r⟩:=h
  have:f=j:=by
   obtain⟨a,b,c,d⟩:=f;obtain⟨k,m,o,p⟩:=j
   grind [aNK.op,aNK.n,aNK.name,aNK.l]
  rw[this,aV9 q,aV9 r]
def aV9:∀{x y:List amt},amt.cr x=amt.cr y->x=y
 |[],[],_=>rfl
 |[],_::_,h=>by grind [amt.cr]
 |_::_,[],h=>by grind [amt.cr]
 |a::l,b::m,h=>by
  simp only[amt.cr,kO] at h
  rw[a54 h.1,aV9 h.2]
end
def a6B{x y:amt}:(amt.c x=amt.c y)=(x=y):=bqL ⟨a54,λh=>by rw[h]⟩
def aO0{l l'}:=bsn @a6B l l'
structure ot where
 aq:Int
 lD:Int
 deriving Inhabited,DecidableEq
def ot.c(x:ot):dM:=[iv x.aq,iv x.lD]
def aOY{x y}:=brv bmK.c (λx y h=>by cases x;cases y;simpa[bmK.c,bru] using h) x y
def aPj{l l'}:=bsn @aOY l l'
def aPD{x y}:=brv bj9.c (λx y h=>by cases x;cases y;simpa[bj9.c,bru,aO0] using h) x y
def aPE{l l'}:=bsn @aPD l l'
def aPC{x y}:=brv bqH.c (λx y h=>by cases x;cases y;simpa[bqH.c,bru,aPj,aPE] using h) x y
def aPX{x y}:=brv aRV.c (λx y h=>by cases x;cases y;simpa[aRV.c,bru] using h) x y
def aQq{l l'}:=bsn @aPX l l'
def aQp{x y}:=brv bqI.c (λx y h=>by cases x;cases y;simpa[bqI.c,bru,aQq] using h) x y
def aRT{l l'}:=bsn @aQp l l'
def aQY{x y}:=brv bit.c (λx y h=>by cases x;cases y;simpa[bit.c,aOw.c,bru,nz,oN,nY,pL,aRT] using h) x y
def aRS{x y}:=brv bim.c (λx y h=>by cases x;cases y;simpa[bim.c,bru] using h) x y
def aWB{l l'}:=bsn @aRS l l'
def aTl{x y}:=brv bcW.c (λx y h=>by cases x;cases y;simpa[bcW.c,aW.c,bru,rY,td,aWB] using h) x y
def aWA{x y}:=brv brp.c (λx y h=>by cases x;cases y;simpa[brp.c,aOw.c,bru,nz,oN,yb,nY,pL] using h) x y
def a6A{x y}:=brv ot.c (λx y h=>by cases x;cases y;simpa[ot.c,bru] using h) x y
def bcR{l l'}:=bsn @a6A l l'
def ijv:=ai @aOD<|ai @a6B<|ai @aO0<|ai @aOY<|ai @aPj<|ai @aPE<|ai @aPC<|ai @aPX<|ai @aQq<|ai @aQp<|ai @aQY<|ai @aRS<|ai @aTl<|ai @aWA<|ai @a6A<|@bcR
def lT:=ai @ij @ijv
def ben{x}:aN J (aNK.c x)=V (iv x.op):=bsM
def beo{x}:aN J ((aNK.c x).drop 1)=V (iv x.n):=bsM
def bep{x}:aN J ((aNK.c x).drop 2)=V (st x.name):=bsM
def ber{x}:aN J ((aNK.c x).drop 3)=V (sl aNK.c x.l):=bsM
theorem a69{x}:aN (V 4) (aNK.c x)=V (.a<|aNK.c x):=bsM
def beI{x}:aN J (amt.c x)=V (iv x.op):=bqK
def beJ{x}:aN J ((amt.c x).drop 1)=V (iv x.line):=bqK
def beL{x}:aN J ((amt.c x).drop 2)=V (st x.name):=bqK
def beM{x}:aN J ((amt.c x).drop 3)=V (st x.arg):=bqK
def beN{x}:aN J ((amt.c x).drop 4)=V (sl aNK.c x.index):=bqK
def beO{x}:aN J ((amt.c x).drop 9)=V (sl amt.c x.body):=bqK
def beK{x}:aN J ((amt.c x).drop 10)=V (sl amt.c x.els):=bqK
def beP{x}:aN (V 4) ((amt.c x).drop 5)=V (.a<|aNK.c x.expr):=by rw[apT,aoH];rfl
def beQ{x}:aN (V 11) (amt.c x)=V (.a<|amt.c x):=bqK
def bef{x}:=brK (bmK.c x) A
def beg{x}:=aQ6 1 (bmK.c x) A
def beh{x}:=aQ6 2 (bmK.c x) A
def bei{x}:=aQ6 3 (bmK.c x) A
def bej{x}:=aQ6 4 (bmK.c x) A
def bek{x}:=aQ6 5 (bmK.c x) A
def bem{x}:=brx 6 (bmK.c x) A
def beU{x}:=brK (bj9.c x) A
def beV{x}:=aQ6 1 (bj9.c x) A
def beW{x}:=aQ6 2 (bj9.c x) A
def beX{x}:=aQ6 3 (bj9.c x) A
def beY{x}:=brx 4 (bj9.c x) A
def bez{x}:=brK (bqH.c x) A
def beA{x}:=aQ6 1 (bqH.c x) A
def beB{x}:=brx 2 (bqH.c x) A
def bes{x}:=brK (aRV.c x) A
def bet{x}:=aQ6 1 (aRV.c x) A
def beu{x}:=aQ6 2 (aRV.c x) A
def bev{x}:=aQ6 3 (aRV.c x) A
def bew{x}:=aQ6 4 (aRV.c x) A
def bex{x}:=aQ6 5 (aRV.c x) A
def bey{x}:=brx 6 (aRV.c x) A
def beR{x}:=brK (bqI.c x) A
def beS{x}:=aQ6 1 (bqI.c x) A
def beT{x}:=brx 2 (bqI.c x) A
def bd9{x}:=brK (bit.c x) A
def bea{x}:=aQ6 3 (bit.c x) A
def beb{x}:=aQ6 4 (bit.c x) A
def bec{x}:=aQ6 6 (bit.c x) A
def bed{x}:aN (V 6) (bit.c x)=V (.a<|x.aQ.c):=rfl
def bee{x}:=brx 7 (bit.c x) A
def beZ{x}:=brK (bim.c x) A
def be0{x}:=aQ6 1 (bim.c x) A
def be1{x}:=aQ6 2 (bim.c x) A
def be2{x}:=brx 4 (bim.c x) A
def beC{x}:=aQ6 3 (bcW.c x) A
def beD{x}:=aQ6 4 (bcW.c x) A
def beE{x}:=aQ6 5 (bcW.c x) A
def beF{x}:=aQ6 6 (bcW.c x) A
def beG{x}:aN (V 4) (bcW.c x)=V (.a<|x.eB.c):=rfl
def beH{x}:=brx 7 (bcW.c x) A
def bpn{x}:=brK (ot.c x) A
def bpo{x}:=aQ6 1 (ot.c x) A
def bpp{x}:=brx 2 (ot.c x) A
def bkl{α:Type}{a n}{l:List α}:aOz (n+1) (a::l)=aOz n l:=rfl
def bc5{α:Type}{l:List α}:aOz 0 l=l:=rfl
def J9:=ai @ben<|ai @beo<|ai @bep<|ai @ber<|ai @a69<|ai @beI<|ai @beJ<|ai @beL<|ai @beM<|ai @beN<|ai @beO<|ai @beK<|ai @beP<|ai @beQ<|ai @bef<|ai @beg<|ai @beh<|ai @bei<|ai @bej<|ai @bek<|ai @bem<|ai @beU<|ai @beV<|ai @beW<|ai @beX<|ai @beY<|ai @bez<|ai @beA<|ai @beB<|ai @bes<|ai @bet<|ai @beu<|ai @bev<|ai @bew<|ai @bex<|ai @bey<|ai @beR<|ai @beS<|ai @beT<|ai @bd9<|ai @bea<|ai @beb<|ai @bec<|ai @bed<|ai @bee<|ai @beZ<|ai @be0<|ai @be1<|ai @be2<|ai @beC<|ai @beD<|ai @beE<|ai @beF<|ai @beG<|ai @beH<|ai @bpn<|ai @bpo<|ai @bpp<|ai @iF<|ai @bkl<|@bc5
def gp:=ai @J9 @eS
def gS:=ai @J9 @ixv
def ox:=ai @eT @gS
def bab{Y x}:dG Y (.a<|aNK.c x)= .a (aNK.c x):=bsM
def baf{Y x}:dG Y (.a<|amt.c x)= .a (amt.c x):=bqK
def baa{Y x}:dG Y (.a<|bmK.c x)= .a (bmK.c x):=rfl
def byW{Y x}:dG Y (.a<|bqH.c x)= .a (bqH.c x):=rfl
def bac{Y x}:dG Y (.a<|aRV.c x)= .a (aRV.c x):=rfl
def bag{Y x}:dG Y (.a<|bqI.c x)= .a (bqI.c x):=rfl
def a99{Y x}:dG Y (.a<|bit.c x)= .a (bit.c x):=rfl
def bai{Y x}:dG Y (.a<|bim.c x)= .a (bim.c x):=rfl
def bae{Y x}:dG Y (.a<|bcW.c x)= .a (bcW.c x):=rfl
def bah{Y x}:dG Y (.a<|brp.c x)= .a (brp.c x):=rfl
def a98{Y x}:dG Y (.a<|ot.c x)= .a (ot.c x):=rfl
def bba{v}:iX (.s v)=U:=rfl
def ba8{α f}{l:List α}:iX (sl f l)=U:=rfl
def bbb{x}:iX (.a<|aNK.c x)=U:=by simp[iX,eN,aoH,sl]
def bbd{x}:iX (.a<|amt.c x)=U:=by simp[iX,eN,apT,sl]
def bbc{x}:iX (.a<|bqH.c x)=U:=rfl
def aOW:=ai @bba<|ai @ba8<|ai @bbb<|ai @bbd<|@bbc
def Fa:=ai @bab<|ai @baf<|ai @baa<|ai @byW<|ai @bac<|ai @bag<|ai @a99<|ai @bai<|ai @bae<|ai @bah<|@a98
def oy:=ai @Fa @J9
def o0:=ai @Fa @ar
section
variable{K:J3}{Y:ae}{i:Int}
def boW{l}:rV (cz 2 Y (sl ot.c l)<|iv i) K=(aF (L l) i/\K (.q<|ot.c<|gd l i.toNat)):=aBz λ_=>A
end
abbrev qN:ByteArray:=⟨#[113]⟩
def shE:Nat->aNK->Prop|0,_=>False|n+1,e=>(((e.op=1\/e.op=2)/\e.l=[])\/(e.op=3/\e.name=qN/\L e.l=1)\/(6<=e.op/\L e.l=2))/\∀x∈e.l,shE n x
theorem shE.len{n:Nat}{e}(h:shE n e):L e.l<=2:=by cases n with|zero=>exact h.elim|succ n=>obtain⟨_,h⟩|⟨_,_,h⟩|⟨_,h⟩:=h.1<;>simp[h]
theorem shE.sub{n:Nat}{e}(h:shE n e){k:Nat}(a:k<L e.l):∃m,n=m+1/\shE m (gd e.l k):=by cases n with|zero=>exact h.elim|succ n=>exact⟨n,rfl,h.2 _ (dB a)⟩
theorem shE.mono:∀{n m e},shE n e->n<=m->shE m e
 |0,_,_,h,_=>h.elim
 |n+1,0,_,_,h=>Z
 |n+1,m+1,e,h,b=>⟨h.1,λx a=>(h.2 x a).mono Z⟩
def shS:Nat->amt->Prop|0,_=>False|n+1,s=>((s.op=1\/s.op=2\/s.op=3\/s.op=14)->shE 2 s.expr)/\L s.index<=1/\(∀x∈s.index,shE 2 x)/\(s.index≠[]->s.name=qN)/\L s.expr.l<=2/\L s.body<=4/\(∀x∈s.body,shS n x)/\L s.els<=4/\(∀x∈s.els,shS n x)/\1<=s.op/\s.op<=15
def shS.up{n s}(h:shS n s):∃m,n=m+1/\(∀x∈s.body,shS m x)/\∀x∈s.els,shS m x:=by cases n with|zero=>exact h.elim|succ n=>exact⟨n,rfl,h.2.2.2.2.2.2.1,h.2.2.2.2.2.2.2.2.1⟩
def shS.at{n:Nat}{s}(h:shS n s):((s.op=1\/s.op=2\/s.op=3\/s.op=14)->shE 2 s.expr)/\L s.index<=1/\(∀x∈s.index,shE 2 x)/\(s.index≠[]->s.name=qN)/\L s.expr.l<=2/\L s.body<=4/\L s.els<=4:=by cases n with|zero=>exact h.elim|succ n=>exact⟨h.1,h.2.1,h.2.2.1,h.2.2.2.1,h.2.2.2.2.1,h.2.2.2.2.2.1,h.2.2.2.2.2.2.2.1⟩
def shS.ops{n s}(h:shS n s):1<=s.op/\s.op<=15:=by cases n with|zero=>exact h.elim|succ n=>exact h.2.2.2.2.2.2.2.2.2
theorem shS.mono:∀{n m s},shS n s->n<=m->shS m s
 |0,_,_,h,_=>h.elim
 |n+1,0,_,_,h=>Z
 |n+1,m+1,s,⟨c,d,e,f,g,i,j,k,l,b⟩,o=>⟨c,d,e,f,g,i,λx a=>(j x a).mono Z,k,λx a=>(l x a).mono Z,b⟩
def shL(n m:Nat)(l:List amt):Prop:=L l<=m/\∀s∈l,shS n s
def shS.body{n s}(h:shS n s):∃m,n=m+1/\shL m 4 s.body/\shL m 4 s.els:=by obtain⟨m,e,a,b⟩:=h.up;exact⟨m,e,⟨h.at.2.2.2.2.2.1,a⟩,⟨h.at.2.2.2.2.2.2,b⟩⟩
def shT(t:bj9):Prop:=L t.locs<=4/\shL 4 8 t.body
def PrB(p:bqH):Prop:=L p.brP<1000/\L p.ay<1000/\∀t∈p.ay,L t.locs<1000
def shP(p:bqH):Prop:=PrB p/\L p.ay<=4/\∀t∈p.ay,shT t
section
variable{i:Nat}(F:FT)
def aP7{b:Type}{c:b->dM}{d:b->J3}(k:∀a,Ct i (c a)<|d a):FT:=λys K=>∃a,ys=c a/\∀r,d a r->K r
def aRM{c:Type}{b:c->dM}{e:c->J3}(k:∀a,Ct i (b a)<|e a)(g:F=aP7 k:=by exact A)(j:∀a d,b a=b d->a=d:=by simp+contextual only[ij])(a:c)(Lw K:J3):fW F (b a) Lw K=(∀r,e a r->Lw r/\K r):=by subst g;apply bqL;constructor;rintro⟨d,h,f⟩;obtain rfl:=j _ _ h;exact f;intro h;exact⟨_,A,h⟩
def aR6{b:Type}{c:b->dM}{f:b->J3}(k:∀a,Ct i (c a)<|f a)(d:∀a,(c a).all iX=U:=by intros;exact A):∀ys K,aP7 k ys K->jz aS GG i ys K:=by rintro ys K ⟨a,rfl,h⟩;exact nX (k a) (d a) (λr e=>h r e)
def aRd{c B:Type}{d:c->B->dM}{e:c->B->J3}(k:∀a b,Ct i (d a b)<|e a b):FT:=λys K=>∃a b,ys=d a b/\∀r,e a b r->K r
def aWg{d B:Type}{c:d->B->dM}{g:d->B->J3}(k:∀a b,Ct i (c a b)<|g a b)(m:F=aRd k:=by exact A)(j:∀a b e f,c a b=c e f->a=e/\b=f:=by simp+contextual only[ij])(a:d)(b:B)(Lw K:J3):fW F (c a b) Lw K=(∀r,g a b r->Lw r/\K r):=by subst m;apply bqL;constructor;rintro⟨e,f,h,l⟩;obtain⟨rfl,rfl⟩:=j _ _ _ _ h;exact l;intro h;exact⟨_,_,A,h⟩
def aYm{c B:Type}{d:c->B->dM}{g:c->B->J3}(k:∀a b,Ct i (d a b)<|g a b)(e:∀a b,(d a b).all iX=U:=by intros;exact A):∀ys K,aRd k ys K->jz aS GG i ys K:=by rintro ys K ⟨a,b,rfl,h⟩;exact nX (k a b) (e a b) (λr f=>h r f)
def aSb{d B C:Type}{e:d->B->C->dM}{f:d->B->C->J3}(k:∀a b c,Ct i (e a b c)<|f a b c):FT:=λys K=>∃a b c,ys=e a b c/\∀r,f a b c r->K r
def a6o{e B C:Type}{d:e->B->C->dM}{m:e->B->C->J3}(k:∀a b c,Ct i (d a b c)<|m a b c)(o:F=aSb k:=by exact A)(j:∀a b c f g l,d a b c=d f g l->a=f/\b=g/\c=l:=by simp+contextual only[ij])(a:e)(b:B)(c:C)(Lw K:J3):fW F (d a b c) Lw K=(∀r,m a b c r->Lw r/\K r):=by subst o;apply bqL;constructor;rintro⟨f,g,l,h,n⟩;obtain⟨rfl,rfl,rfl⟩:=j _ _ _ _ _ _ h;exact n;intro h;exact⟨_,_,_,A,h⟩
def a7W{d B C:Type}{e:d->B->C->dM}{j:d->B->C->J3}(k:∀a b c,Ct i (e a b c)<|j a b c)(f:∀a b c,(e a b c).all iX=U:=by intros;exact A):∀ys K,aSb k ys K->jz aS GG i ys K:=by rintro ys K ⟨a,b,c,rfl,h⟩;exact nX (k a b c) (f a b c) (λr g=>h r g)
def bix{e B C D:Type}{f:e->B->C->D->dM}{g:e->B->C->D->Prop}{v:e->B->C->D->AV}(k:∀a b c d,g a b c d->Ct i (f a b c d) (·=v a b c d)):FT:=λys K=>∃a b c d,ys=f a b c d/\g a b c d/\K (v a b c d)
def bmX{e B C D:Type}{f:e->B->C->D->dM}{o:e->B->C->D->Prop}{v:e->B->C->D->AV}(k:∀a b c d,o a b c d->Ct i (f a b c d) (·=v a b c d))(q:F=bix k:=by exact A)(j:∀a b c d g l m n,f a b c d=f g l m n->a=g/\b=l/\c=m/\d=n:=by simp+contextual only[ij])(a:e)(b:B)(c:C)(d:D)(Lw K:J3):fW F (f a b c d) Lw K=(o a b c d/\Lw (v a b c d)/\K (v a b c d)):=by subst q;apply bqL;constructor;rintro⟨g,l,m,n,h,p⟩;obtain⟨rfl,rfl,rfl,rfl⟩:=j _ _ _ _ _ _ _ _ h;exact p;intro h;exact⟨_,_,_,_,A,h⟩
def bnA{e B C D:Type}{f:e->B->C->D->dM}{m:e->B->C->D->Prop}{v:e->B->C->D->AV}(k:∀a b c d,m a b c d->Ct i (f a b c d) (·=v a b c d))(g:∀a b c d,(f a b c d).all iX=U:=by intros;exact A):∀ys K,bix k ys K->jz aS GG i ys K:=by rintro ys K ⟨a,b,c,d,rfl,j,h⟩;exact nX (k a b c d j) (g a b c d) (λr l=>by rwa [l])
def aTQ{f B C D E:Type}{g:f->B->C->D->E->dM}{h:f->B->C->D->E->Prop}{j:f->B->C->D->E->J3}(k:∀a b c d e,h a b c d e->Ct i (g a b c d e) (j a b c d e)):FT:=λys K=>∃a b c d e,ys=g a b c d e/\h a b c d e/\∀r,j a b c d e r->K r
def bbn{f B C D E:Type}{g:f->B->C->D->E->dM}{q:f->B->C->D->E->Prop}{s:f->B->C->D->E->J3}(k:∀a b c d e,q a b c d e->Ct i (g a b c d e) (s a b c d e))(u:F=aTQ k:=by exact A)(j:∀a b c d e l m n o p,g a b c d e=g l m n o p->a=l/\b=m/\c=n/\d=o/\e=p:=by simp+contextual only[ij])(a:f)(b:B)(c:C)(d:D)(e:E)(Lw K:J3):fW F (g a b c d e) Lw K=(q a b c d e/\∀r,s a b c d e r->Lw r/\K r):=by subst u;apply bqL;constructor;rintro⟨l,m,n,o,p,h,t⟩;obtain⟨rfl,rfl,rfl,rfl,rfl⟩:=j _ _ _ _ _ _ _ _ _ _ h;exact t;intro h;exact⟨_,_,_,_,_,A,h⟩
def bhJ{f B C D E:Type}{g:f->B->C->D->E->dM}{n:f->B->C->D->E->Prop}{o:f->B->C->D->E->J3}(k:∀a b c d e,n a b c d e->Ct i (g a b c d e) (o a b c d e))(j:∀a b c d e,(g a b c d e).all iX=U:=by intros;exact A):∀ys K,aTQ k ys K->jz aS GG i ys K:=by rintro ys K ⟨a,b,c,d,e,rfl,l,h⟩;exact nX (k a b c d e l) (j a b c d e) (λr m=>h r m)
end
def bqE:AV->AV| .t vs=> .t (vs.map nrm)|x=>nrm x
theorem bdV{κ w Y β v x}(h:ba κ w Y β v x):ba κ w Y β v (bqE x):=by cases x with|t vs=>(cases h with|t d h=>refine .t X λi v c f b=>?_;grind [aOe,yo])|_=>exact yo h
theorem a6f{x}:nj (gK x)=nj x:=by cases x<;>rfl
theorem aWa{x}:pF (nrm x)=pF x:=by cases x with|a cs=>grind [nrm,pF,List.all_map,a6f]|_=>first|rfl|exact a6f
def ba7{x}:kG (bqE x)=kG x:=by have h:=@aWa x;(cases x<;>first|exact h|skip);grind [bqE,kG,List.all_map,aWa]
def aDq{fn ys Q}(h:Ct fn ys λr=>Q<|bqE r):Ct fn ys Q:=by obtain⟨r,f,j,g,i⟩:=h;refine⟨bqE r,f,by rwa [ba7],g,λF w d a b c=>(i F w d a b c).mono ?_⟩;grind [bdV]
def fz(Y:ae)(c:AV):AV:=gK<|dQ Y c
def fzT(Y:ae):AV->AV| .a cs=> .a (cs.map<|fz Y)|x=>fz Y x
def bcq{Y c}:(∃l t o,dQ Y c= .l l t o)\/dQ Y c=c:=by(cases c<;>first|exact .inr A|skip);grind [box,dQ,eN,frN]
theorem aXU{Y x}:nrm (iZ Y x)=fzT Y x:=by cases x with|a cs=>simp only[iZ,nrm,fzT,vA];rfl|m b n=>show nrm (dQ Y<|.m b n)=gK (dQ Y<|.m b n);(obtain⟨l,t,o,h⟩|h:=bcq (Y:=Y) (c:= .m b n)<;>rw[h]<;>rfl)|_=>rfl
theorem a6g{Y x}(h:iX (fzT Y x)=U):pF (iZ Y x)=U:=by have b:pF (nrm<|iZ Y x)=U:=(by rw[aXU];generalize fzT Y x=y at h;cases y with|a cs=>simp only[iX,dV] at h;simp only[pF,dV];intro c d;have:=h c d;(cases c<;>first|rfl|grind [eN])|_=>first|rfl|grind [iX,eN]);rwa [aWa] at b
def aOH{Q:J3}{Y vs vs'}(h:vs.map (fzT Y)=vs')(c:vs'.all iX=U)(g:Q<|aoz vs'):aE (λr=>Q<|bqE r) Y vs:=by have b:kG (.t<|vs.map<|iZ Y)=U/\bqE (.t<|vs.map<|iZ Y)= .t vs':=(by constructor;grind [kG,List.all_map,dV,a6g,CA];simp only[bqE,vA,<-h];grind [ja,aXU]);unfold aE jS;obtain _|⟨v,_|⟨w,l⟩⟩:=vs;subst h;exact⟨A,g⟩;subst h;simp only[ji,mU,Cs,aqG,ru] at c;have d:=a6g c;have f:bqE (iZ Y v)=fzT Y v/\kG (iZ Y v)=pF (iZ Y v):=(by rw[<-aXU];generalize iZ Y v=y at d;cases y<;>first|exact⟨A,A⟩|grind [pF,nj]);refine⟨vB,?_⟩;show Q<|bqE<|iZ Y v;rwa [f.1];subst h;refine⟨b.1,?_⟩;show Q<|bqE<|.t<|(v::w::l).map<|iZ Y;rwa [b.2]
def aOv{Q:J3}{Y v v'}(h:fzT Y v=v')(c:iX v'=U)(b:Q v'):aE (λr=>Q<|bqE r) Y [v]:=by subst h;exact aOH (vs':=[fzT Y v]) A (by simp[c]) b
theorem aQ7{Y v x}(h:fzT Y v=x)(b:iX x=U):aE (λr=>bqE r=x) Y [v]:=aOv (Q:=(·=x)) h b A
def J7(Y:ae)(e:TypeId)(z:Nat)(a:AV)(bA:List<|dM):Prop:=(bA=[]/\a= .l [] U U)\/∃b m,a= .m b (L bA)/\box Y b=V ⟨e,z,U,I,bA++m⟩
theorem lI.p{Y e z a bA}(h:lI Y e z a bA):J7 Y e z a bA:=by obtain h|⟨b,c,d⟩:=h;exact .inl h;exact .inr ⟨b,[],c,by simpa using d⟩
section
variable{Y Y':ae}{e:TypeId}{z:Nat}{a:AV}{bA:List (dM)}
theorem J7.fx{ks}(f:J7 Y e z a bA)(d:Fx Y Y' ks)(g:∀b∈aA a,b∉ks):J7 Y' e z a bA:=by obtain h|⟨b,m,rfl,c⟩:=f;exact .inl h;exact .inr ⟨b,m,A,d.keep b _ (g b aBY) c⟩
def aWt{v}:fz Y (.s v)= .s v:=rfl
def bcz{t o}:fz Y (.l bA t o)= .l bA I I:=rfl
def aBr(h:J7 Y e z a bA):fz Y a= .l bA I I:=by obtain⟨rfl,rfl⟩|⟨b,m,rfl,c⟩:=h;rfl;simp[fz,dQ,c,gK]
def aWs(h:J7 Y e z a bA):fzT Y a= .l bA I I:=by rw[<-aBr h];obtain⟨rfl,rfl⟩|⟨b,m,rfl,c⟩:=h<;>rfl
def lz(Y:ae)(c:AV):AV:=gK<|aTH Y c
def aQ5{v}:lz Y (.s v)= .s v:=rfl
def aXQ{t o}:lz Y (.l bA t o)= .l bA I I:=rfl
def aOb(h:J7 Y e z a bA):lz Y a= .l bA I I:=by obtain⟨rfl,rfl⟩|⟨b,m,rfl,c⟩:=h;rfl;simp[lz,aTH,c,gK]
theorem J7.ce(h:J7 Y e z a bA):eY a=V [a]:=by obtain⟨_,rfl⟩|⟨b,m,rfl,_⟩:=h<;>rfl
theorem J7.ln(h:J7 Y e z a bA):fS Y a=V (iv<|L bA):=by obtain⟨rfl,rfl⟩|⟨b,m,rfl,c⟩:=h;rfl;simp[fS,c]
def J7.ar(h:J7 Y e z a bA):dG Y a= .l bA I I:=by obtain⟨rfl,rfl⟩|⟨b,m,rfl,c⟩:=h;rfl;simp[dG,eR,aTH,c,nrm,gK]
def nlP{b i j x}(h:box Y b=V x):cO Y (.p b i j)=V (.p b i j):=by simp[cO,h]
theorem qs{d by':Nat}{zs new t o K}(i:J7 Y e z a bA)(k:L zs=z)(n:0<z)(c:d<L Y)(u:∀r∈bA,L r=z)(s:∀r∈new,L r=z)(p:new≠[])(q:(L bA+L new)*(by'+1)<=1099511627776)(h:∀f Y',lI Y' e z f (bA++new)->Fx Y Y' (aA a)->(∀b∈aA f,bK Y b/\b.1=d)->K f Y'):eV (apA e zs by' Y d a<|.l new t o) K:=by unfold apA;simp only[gL];rw[za X,zg ⟨Z,by simp[vg,c],vB⟩];obtain⟨rfl,rfl⟩|⟨b,m,rfl,g⟩:=i;simp only;rw[zg ⟨O,btf⟩];refine h _ _ (.inr ⟨lA Y d,O,?_⟩) ((kH c).mono O) (by simp[aA];exact⟨qQ Y d,A⟩);grind [iy];simp only[g];rw[zg ⟨trivial,trivial,k.symm,O,btf⟩];have j:d<L (kill Y b):=(by grind [yg]);refine h _ _ (.inr ⟨lA Y d,O,?_⟩) (((Le g).trans<|kH j).mono aBY) (by simp[aA];exact⟨qQ Y d,A⟩);grind [List.take_left',anF,iy]
theorem slP{i:Int}{K}(g:J7 Y e z a bA)(f:0<=i)(j:i<=L bA)(d:∀c,J7 Y e z c (bA.take i.toNat)->aA c=aA a->K c):rV (fo z Y a J (V<|iv i) J) K:=by have k:i.toNat<=L bA:=Z;obtain⟨rfl,rfl⟩|⟨b,m,rfl,n⟩:=g;have h:i.toNat=0:=X;have:fo z Y (.l [] U U) J (V<|iv i) J=V (.l [] U U):=(by simp[fo,lM,f,qY,h]);rw[this];exact d _ (.inl ⟨O,A⟩) A;have:fo z Y (.m b<|L bA) J (V<|iv i) J=V (.m b i.toNat):=(by grind [fo,lM,qY]);rw[this];refine d _ (.inr ⟨b,bA.drop i.toNat++m,?_,?_⟩) A;simp_all;grind [bje,List.take_append_drop]
theorem aOp:∀(l) (Y),Fx Y (kills Y l) l:=λl=>by induction l with|nil=>intro Y;exact Fx.refl _ _|cons b l d=>intro Y;show Fx Y (kills (if(box Y b).isSome then kill Y b else Y) l) (b::l);cases c:box Y b with|none=>grind [Fx.mono]|some x=>exact(Le c).trans<|d<|kill Y b
end
structure Lv(Y0 Y:ae)(cs tgt:dM):Prop where
 eq:cs.map (lz Y)=tgt
 nw:∀b∈aNN (.a cs),bK Y0 b
def aQm{Y zs cs tgt}(d:cs.map (lz Y)=tgt)(b:L tgt=L zs)(f:0<L zs)(g:tgt.all eN=U)(i:L zs<=1000):aX zs 1 Y [(0, .a cs)]=V (.l [tgt] U U,kills Y<|aNN<|.a cs):=by have h:nrm (eR Y<|.a cs)= .a tgt:=(by simp only[eR,nrm,vA,<-d];rfl);simp only[aX,ji,mU,h,Cz,RN,cL];have c:(er 1 zs).flatten=zs:=O;rw[zg ⟨Z,f⟩,c];simp only[aly,eY,b,Nat.zero_mul,aj,dA,aNR,a6F,CE,dW,List.drop_length,cL,a6X,g,df];simp[bsm,<-b]
theorem Lv.fx{d Y Y' cs tgt ks}(h:Lv d Y cs tgt)(f:Fx Y Y' ks)(l:∀b∈aNN (.a cs),b∉ks)(i:tgt.all eN=U):Lv d Y' cs tgt:=by refine⟨?_,h.nw⟩;rw[<-h.eq];refine ja λc k=>?_;have j:eN (lz Y c)=U:=(by rw[<-h.eq] at i;simp_all);cases c with|m b n=>(cases g:box Y b with|none=>grind [lz,aTH,gK,eN]|some x=>have:=f.keep b x (by grind [aNN,iR]) g;grind [lz,aTH])|_=>rfl
def aRA{e}{z d:Nat}{zs cs Y}{K:be}(l:L zs=z)(j:L cs=z)(h:0<z)(k:d<L Y)(i:∀v Y',Fx Y Y' []->bK Y (d,v)->box Y' (d,v)=V ⟨e,z,U,U,[cs]⟩->K (.p (d,v) 0 0) Y'):eV (alA e zs Y d) λp s=>sV (aK z s p<|.a cs) λs'=>K p s':=alI l h k λv o b f g=>stI (y:=z) (cs:=cs) g A j Z λm c n=>i v m ((b.trans c).mono aUw) f<|by simp_all
def stW{Y b}{z:Nat}{e o r cs K}(f:box Y b=V ⟨e,z,o,U,[r]⟩)(j:L r=z)(g:L cs=z)(d:∀Y',Fx Y Y' [b]->box Y' b=V ⟨e,z,o,U,[cs]⟩->K Y'):sV (aK z Y (.p b 0 0)<|.a cs) K:=stI (y:=z) (cs:=cs) f A g Z λh c i=>d h c<|by simp_all
def bdJ{Y q cs}:sA q Y (.q cs)=aN q cs:=rfl
def A0{Y b}{j z:Nat}{e o r x K}(d:box Y b=V ⟨e,z,o,U,[r]⟩)(g:eY x=V [x])(f:j<L r)(c:∀Y',Fx Y Y' [b]->box Y' b=V ⟨e,z,o,U,[r.set j x]⟩->K Y'):sV (aK 1 Y (.p b 0 j) x) K:=by grind [stI,GP]
def aPW{i ys R Lw K}(h:Ct i ys R)(b:ys.all iX=U)(c:∀r,R r->Lw r/\K r):fW (cX i) ys Lw K:=nX h b c
def aV2{x}(h:iX x=U):[x].all iX=U:=by simp[h]
def apQ{Y:ae}{e:TypeId}{z d by' n:Nat}{zs:dM}{a:AV}{bA new:List (dM)}{t o:Bool}{K:be}(h:J7 Y e z a bA)(m:L Y=n)(q:∀r∈bA,L r=z)(p:∀r∈new,L r=z)(g:new≠[])(j:(L bA+L new)*(by'+1)<=1099511627776)(i:∀c Y',lI Y' e z c (bA++new)->Fx Y Y' (aA a)->(∀b∈aA c,bK Y b/\b.1=d)->K c Y')(s:L zs=z:=by exact A)(f:0<z:=by decide)(k:d<n:=by decide):eV (apA e zs by' Y d a<|.l new t o) K:=qs h s f (m▸k) q p g j i
def anu{e:TypeId}{z d n:Nat}{zs cs:dM}{Y:ae}{K:be}(h:L Y=n)(c:∀v Y',Fx Y Y' []->bK Y (d,v)->box Y' (d,v)=V ⟨e,z,U,U,[cs]⟩->K (.p (d,v) 0 0) Y')(i:L zs=z:=by exact A)(f:L cs=z:=by exact A)(b:0<z:=by decide)(g:d<n:=by decide):eV (alA e zs Y d) λp s=>sV (aK z s p<|.a cs) λs'=>K p s':=aRA i f b (h▸g) c
def isI(r:AV):Prop:=∃x:Int,r=iv x
def isB(r:AV):Prop:=∃b:Bool,r=bv b
def aPG{x}:isI (iv x)=True:=bwX ⟨x,A⟩
def aNP{b}:isB (bv b)=True:=bwX ⟨b,A⟩
def iV:=ai @aNP @aRI
def aP1{c}[Decidable c]{v K}:rV (if c then V v else J) K=(c/\K v):=by grind [rV]
def jr:=ai @aP1 @aPR
def aWE(r:AV):Prop:=∃(x:Int) (b:Bool),r= .t [iv x,bv b]
def aQ1(r:AV):Prop:=∃x y:Int,r= .t [iv x,iv y]
def a6D{x b}:aWE (.t [iv x,bv b])=True:=bwX ⟨x,b,A⟩
def aO2{x y}:aQ1 (.t [iv x,iv y])=True:=bwX ⟨x,y,A⟩
def bd7{R Y x y}:aE R Y [iv x,iv y]=R (.t [iv x,iv y]):=bvI
def aTb{p n}: -1<=uo p n/\uo p n<n:=by grind [uo,List.mem_of_find?_eq_some]
def aXc(b):Ct 331 [bv b] (·=iv (if b then 1 else 0)):=bgS λs0 c a=>by cases b<;>simp[u1,ah]
def aOT:FT:=lH aXc
def bbU:=np aOT aXc
def aXa(i n):Ct 317 [iv i,iv n] (λr=>isI r):=bgQ λs0 b a=>by simp only[eQ,jr,aPG];refine⟨λh=>trivial,λh=>⟨X,?_⟩⟩;simp only[qz 35,qz 33,nV,aPG,FA]
def aSe:FT:=aRd aXa
def bbS:=aWg aSe aXa
def aXg(o):Ct 287 [iv o] (·=bv (Q (1<=o)&&Q (o<=5))):=bgW λs0 b a=>by simp+contextual only[eQ]
def aSf:FT:=lH aXg
def bbY:=np aSf aXg
def aXk(i n):Ct 263 [iv i,iv n] (·=bv (dh i n)):=bg7 λs0 b a=>by simp+contextual only[eQ,dh]
def aN3:FT:=bsk aXk
def bb2:=f200 aN3 aXk
def aXm(l)(s)(f:L l<4611686018427387904):Ct 272 [sl dS.c l,st s] (λr=>isI r):=bg9 λs0 e a=>bid (L l) (λk=>True) trivial λk d b=>by simp only[qz 19,gJ,bh,aPG,FA,nJ];grind [dJ,aL,bkg]
def aQE:FT:=pn aXm
def bb4:=f211 aQE aXm
def aXd(w:aOw)(s)(m:L w.cells<4611686018427387904):Ct 327 [.a w.c,st s] (·=iv (uo (λi=>Q<|(gd w.cells i).name=s)<|L w.cells)):=bgT A λn l b f=>bid (L w.cells) (λk=>∀j,j<k->Q ((gd w.cells j).name=s)=I) O λk g e=>by simp only[qz 19,fD,b,bh];refine⟨λh=>⟨vp h,λd=>?_,btA⟩,λh=>?_⟩;rw[KW (aL h) d e];grind [KX,bpL,dge]
def aQD:FT:=aIc aXd
def bbV:=gX aQD aXd
def aOB(l:List bmK)(s:ByteArray):Int:=uo (λi=>Q<|(gd l i).name=s)<|L l
def aYi(l:List bj9)(s:ByteArray):Int:=uo (λi=>Q<|(gd l i).name=s)<|L l
def aWX(l)(s)(g:L l<4611686018427387904):Ct 295 [sl bmK.c l,st s] (·=iv (aOB l s)):=bgB λi f d=>bid (L l) (λk=>∀j,j<k->Q ((gd l j).name=s)=I) O λk e b=>by simp only[qz 19,gg,gS,bh];refine⟨λh=>⟨vp h,λa=>?_,btA⟩,λh=>?_⟩;rw[aOB,KW (aL h) a b];grind [aOB,KX,bpL,dge]
def aPO:FT:=aIc aWX
def btm{p:Prop}(h:p:=by simp only[lT]):p:=h
def bbF:=gX aPO aWX (j:=btm)
def aW2(l)(s)(g:L l<4611686018427387904):Ct 296 [sl bj9.c l,st s] (·=iv (aYi l s)):=bgG λi f d=>bid (L l) (λk=>∀j,j<k->Q ((gd l j).name=s)=I) O λk e b=>by simp only[qz 19,gg,gS,bh];refine⟨λh=>⟨vp h,λa=>?_,btA⟩,λh=>?_⟩;rw[aYi,KW (aL h) a b];grind [aYi,KX,bpL,dge]
def aP9:FT:=aIc aW2
def bbK:=gX aP9 aW2 (j:=btm)
def aXp(n):Ct 319 [iv n] (λr=>isI r):=bhe λs0 b a=>by simp+contextual only[nV,aPG,FA]
def aSh:FT:=aP7 aXp
def bb7:=aRM aSh aXp
def aWQ(n):Ct 338 [iv n] (λr=>isI r):=bgt λs0 b a=>by simp+contextual only[nV,aPG,FA]
def aTZ:FT:=aP7 aWQ
def bby:=aRM aTZ aWQ
def aW6(a b):Ct 323 [iv a,iv b] (·=iv (if a≠0 then a else b)):=bgK λs0 d c=>by simp only[eQ];simp_all
def aOi:FT:=bsk aW6
def bbO:=f200 aOi aW6
def aW5(b):Ct 326 [bv b] (·=iv (if b then 7 else 0)):=bgJ λs0 c a=>by cases b<;>simp[u1,ah]
def aOS:FT:=lH aW5
def bbN:=np aOS aW5
def aWU(e:aNK):Ct 333 [.a e.c] (λr=>isB r):=bgy aN9 λg f b d=>by simp+contextual only[gp,b,aNP]
def aT2:FT:=aP7 aWU
def bbC:=aRM aT2 aWU (j:=btm)
def aWP(n):Ct 214 [iv n] (·= .a (aNK.mk 1 n ⟨#[]⟩ []).c):=by refine aDq (bgs λs0 f i=>?_);refine mo f λj g d=>?_;have b:bM bvA bst [(0,iv 1),(1,iv n)]=V (.a [iv 1,iv n,sv [], .l [] U U]):=A;simp only[qz 2,qy 4,b,aY];refine gN d bkb A rfl λk h e=>?_;simp only[eS,e,aN,bZ,bhZ,dA,a6F,List.take_succ_cons,CE];exact aQ7 bsM bsM
def aQC:FT:=lH aWP
def bbx:=np aQC aWP
def bie(i:aRV):eu:=
 bif Q (i.op=1)||(Q (i.op=6)||(Q (i.op=10)||Q (i.op=27))) then[i.a]
 else bif Q (i.op=2)||Q (i.op=3) then[i.a,i.b]
 else bif Q (i.op=4) then[i.a,i.b,i.k]
 else bif Q (i.op=7) then[i.a,i.k]
 else bif Q (i.op=8)||Q (i.op=26) then[i.b]
 else bif Q (i.op=9) then[i.b,i.k]
 else[]
attribute[local irreducible] aX
def aRU(l:eu)(r:AV):Prop:=∃t o,r= .l (l.map ci) t o
def rLI{l Y t o}:aE (λr=>aRU l r) Y [.l (l.map ci) t o]=True:=bwX ⟨A,t,o,A⟩
def bd0{Y t o}:aE (λr=>aRU [] r) Y [.l [] t o]=True:=bwX ⟨A,t,o,A⟩
def aXf(i):Ct 210 [.a i.c] (λr=>aRU (bie i) r):=bgV A λf e b d=>by simp only[gp,b];simp only[qz 23,iM,aY,sw];simp only[qz 21,qy 4,aI,au];simp only[bh0,qz 53,iM,aY,sw];simp only[qz 51,qy 6,qy 8,qy 10,aI,au];simp only[bh0,qz 95,iM,aY,sw];simp only[qz 93,qy 12,qy 14,aI,au];simp+contextual (maxSteps:=2000000) only[↓iS,gp,b,a5Y,fi,xA,bie,aRa,bih,rLI,bd0,FA,aNR]
def aRj:FT:=aP7 aXf
def bbX:=aRM aRj aXf (j:=btm)
def aTp:eu:=[3,3,3,3,3,4,4,4,4,4,5,5,5,6,6,6,7,7,7,8,9,10,11,12,13,14,14,15,16,16,17,17,18,18,19,20,1,1,2,21,22,23,23]
def aXF:Ct 200 [] (λr=>aRU aTp r):=bhz λs0 c b=>by have a:∀R,aVS s0 R=aE R s0 [.l (aTp.map ci) U U]:=λR=>a7c;show aVS s0 _;rw[a];exact⟨A,U,U,A⟩
def aUt:FT:=BK aXF
def bcm:=al3 aUt aXF
def aWO(s):Ct 305 [st s] (·= .a (aNK.mk 2 0 s []).c):=by refine aDq (bgr λs0 f i=>?_);refine mo f λj g d=>?_;have b:bM bvA bst [(0,iv 2),(2,st s)]=V (.a [iv 2,iv 0,st s, .l [] U U]):=A;simp only[qz 2,qy 4,b,aY];refine gN d bkb A rfl λk h e=>?_;simp only[eS,e,aN,bZ,bhZ,dA,a6F,List.take_succ_cons,CE];exact aQ7 bsM bsM
def aQB:FT:=lH aWO
def bbw:=np aQB aWO
def aXK:eu:=[3,3,4,4,5,6,7,8,9,10,11,12,13,14,15,16,18,19,20,21,22,23,2]
def aPY(o:Int):Int:=bif Q (o<6)||Q (28<o) then 0 else gd aXK (o-6).toNat
def aXv(o):Ct 289 [iv o] (·=iv (aPY o)):=bhn λs0 c b=>by have a:∀R,aVs (iv o) s0 R=aVt (iv o) R (.l (aXK.map ci) U U) s0:=λR=>a7c;show aVs (iv o) s0 _;rw[a];simp+contextual only[aVt,gg,tf,↓uL];refine⟨(by grind [aPY]),λh=>?_⟩;rw[aPY,h];simp only[cP,aPs] at h;rw[eM Z Z];exact⟨⟨Z,by show o-6<23;omega⟩,A⟩
def aUm:FT:=lH aXv
def bcd:=np aUm aXv
def aNF:List bmK:=[⟨1,0,⟨#[120]⟩,0,0,⟨#[]⟩⟩,⟨1,0,⟨#[121]⟩,0,1,⟨#[]⟩⟩,⟨2,0,⟨#[118]⟩,0,0,⟨#[]⟩⟩,⟨1,0,⟨#[113]⟩,2,0,⟨#[]⟩⟩,⟨3,0,⟨#[109]⟩,0,0,⟨#[]⟩⟩,⟨3,0,⟨#[110]⟩,0,0,⟨#[]⟩⟩,⟨4,0,⟨#[114]⟩,0,0,⟨#[]⟩⟩,⟨5,0,⟨#[99]⟩,0,0,⟨#[109]⟩⟩,⟨6,0,⟨#[102]⟩,0,0,⟨#[]⟩⟩]
def aWN:Ct 211 [] (·=sl bmK.c aNF):=by refine aDq (bgk λs0 d b=>?_);have a:∀R,aUG s0 R=aE R s0 [.l (aNF.map bmK.c) U U]:=λR=>a7c;show aUG s0 _;rw[a];exact aQ7 A rfl
def aSd:FT:=BJ aWN
def bbv:=al2 aSd aWN
attribute[local semireducible] aX
def bqS(l:List aP)(t:Int)(j:Nat):Nat:=L ((l.take j).filter λe=>Q<|e.aq=t)
theorem aV8{l}{t:Int}{j:Nat}(h:j<L l):bqS l t (j+1)=bqS l t j+if(gd l j).aq=t then 1 else 0:=by grind [bqS,iJ,aNV,a6G]
theorem a6c{l t j}:bqS l t j<=j:=gl (List.length_filter_le _ _) NA
def aOE(l:List aP)(i:Nat)(t n:Int):Prop:=∃j,j<i/\(gd l j).aq=t/\((gd l j).kind=3\/(gd l j).kind=23)/\(bqS l t j:Int)=n
def aXy(l)(i:Nat)(t:Int)(ns)(u:i<=L l/\L l<1000000/\L ns<4611686018427387904):Ct 127 [sl aP.c l,iv i,iv t,sl ci ns] (λr=>∃b,r=bv b/\(b=U->∀n∈ns,aOE l i t n)):=by obtain⟨y,z,B⟩:=u;refine bhq λs0 E x=>?_;refine bid (L ns) (λk=>∀j,j<k->aOE l i t (gd ns j)) O λk D p=>?_;simp only[qz 19,eQ];refine⟨λh=>?_,λh=>⟨U,A,λ_=>?_⟩⟩;(focus refine yh (λs:Bool×Nat=>[iv<|bqS l t s.2,bv s.1,iv s.2]) 2 i (λs=>s.2<=i/\(s.1=U->aOE l i t (gd ns k))) (I,0) ⟨Z,O⟩ ?_;rintro⟨v,j⟩ ⟨C,F⟩;simp only[qz 67,au,eQ];refine⟨λh=>?_,λh=>⟨O,λd=>?_⟩⟩;(focus have g:=aL h;have f:j<L l:=Z;have e:=aV8 (t:=t) f;have w:=a6c (l:=l) (t:=t) (j:=j);have nx:∀(a b:Bool) (c:Int),c=((bqS l t (j+1):Nat):Int)->(b=U->aOE l i t (gd ns k))->tI (λs:Bool×Nat=>[iv<|bqS l t s.2,bv s.1,iv s.2]) (λs=>s.2<=i/\(s.1=U->aOE l i t (gd ns k))) [iv c,bv b,iv ((j+1:Nat):Int)]/\pM 2 i [iv c,bv b,iv ((j+1:Nat):Int)]<pM 2 i [iv<|bqS l t j,bv a,iv j]:=λa b c p h=>(by subst p;exact wN (enc:=λs:Bool×Nat=>[iv<|bqS l t s.2,bv s.1,iv s.2]) (s:=(a,j)) (s':=(b,j+1)) A rfl rfl g ⟨g,h⟩);(cases v<;>simp+contextual only[qz 89,gJ,bh,J9,jA,jN,qz 87,uO,aRa,bih]);(all_goals refine⟨dJ f,λd=>?_,λd=>?_⟩;all_goals rw[fX Z]);simp_all;simp at d;rw[zg d] at e;rw[fX Z];refine⟨dJ<|aL ‹_›,λ_=>dJ f,λ_ _=>dJ f,?_⟩;(cases m:Q ((bqS l t j:Int)=gd ns k)<;>cases q:Q ((gd l j).kind=3)<;>simp only[aRa,bih,qE,xM,ru,qc,fh,kN]);simp_all;simp_all;exact nx _ _ _ (by rw[e]) λo=>⟨j,g,d, .inr (by simpa using o),by simpa using m⟩;exact nx _ _ _ (by rw[e]) λo=>⟨j,g,d, .inl (by simpa using q),by simpa using m⟩;simp_all;simp at d;rw[zg d] at e;rw[fX Z];simp_all);grind [bkg,aL]);grind [ou,aNV,bpL,dge]
def aSi:FT:=ER aXy
def bcg:=axQ aSi aXy (j:=by simp only[ij,Int.natCast_inj])
section
variable{Q:J3}{Y:ae}{xs:dM}
def bd1:(∀r,isB r->Q r)=∀b,Q (bv b):=bqL ⟨λh b=>h _ ⟨b,A⟩,by rintro h r ⟨b,rfl⟩;exact h b⟩
def a65:(∀r,isI r->Q r)=∀x,Q (iv x):=bqL ⟨λh b=>h _ ⟨b,A⟩,by rintro h r ⟨b,rfl⟩;exact h b⟩
def bd4:(∀r,aQ1 r->Q r)=∀x y,Q (.t [iv x,iv y]):=bqL ⟨λh x b=>h _ ⟨x,b,A⟩,by rintro h r ⟨x,b,rfl⟩;exact h x b⟩
def bdO{v w}:lo Y xs (.t [.s v, .s w])=True:=by simp[lo,uN,btE,wD]
def bcB{α}[Nonempty α]{b}{f:α->AV}{K}:gB b (λk=>∀x,k<|f x) K=∀x,K (gv b<|f x):=by(cases b);exact bqL ⟨λh x=>h,λh=>h<|Classical.choice ‹_›⟩;rfl
def bcD{α}[Nonempty α]{b S}{f:α->AV}{K}:gB b (λk=>S/\∀x,k<|f x) K=((b=U->S)/\∀x,K<|gv b<|f x):=by(cases b);exact bqL ⟨λh=>⟨(λh=>by cases h),λx=>h⟩,λh=>h.2<|Classical.choice ‹_›⟩;simp[gB,gv]
def bcC{b}{f:Bool->AV}{K}:gB b (λk=>∀x,k<|f x) K=∀x,K (gv b<|f x):=bcB
def bcE{b S}{f:Bool->AV}{K}:gB b (λk=>S/\∀x,k<|f x) K=((b=U->S)/\∀x,K<|gv b<|f x):=bcD
def rg:=ai @bcC<|@bcE
def rr:=ai @bd1<|ai @a65<|ai @bd4<|ai @bdO<|ai @AL<|ai @oJ<|ai @pG<|ai @bdJ<|@bd7
def jB:=ai @gp @rr
def mV:=ai @gS @rr
end
def a6n{a}{p:Int->Prop}:(∃k,iv a=iv k/\p k)=p a:=O
def aRB{a b:ByteArray}:bc4 .neq 0 [] (st a) (st b)=V (bv<|Q<|a≠b):=by have h:=@alq a b;simp only[bc4,zP,df,aOe,AV.s.injEq,Value.bool.injEq] at h;simp only[bc4,zP,df,h,decide_not]
def a7w:dO:=(331,aOT)::(317,aSe)::(287,aSf)::(263,aN3)::(272,aQE)::(327,aQD)::(295,aPO)::(296,aP9)::(319,aSh)::(338,aTZ)::(323,aOi)::(326,aOS)::(333,aT2)::(214,aQC)::(210,aRj)::(200,aUt)::(305,aQB)::(289,aUm)::(211,aSd)::(127,aSi)::apB
def aOh:eJ a7w:=asq (nH aXc) (asq (aYm aXa)<|asq (nH aXg)<|asq (nI aXk)<|asq (aN0 aXm)<|asq (aCb aXd)<|asq (aCb aWX)<|asq (aCb aW2)<|asq (aR6 aXp)<|asq (aR6 aWQ)<|asq (nI aW6)<|asq (nH aW5)<|asq (aR6 aWU<|λ_=>by simp only[Cs,aqG,aOW,Bool.and_self])<|asq (nH aWP)<|asq (aR6 aXf)<|asq (bF4 aXF)<|asq (nH aWO)<|asq (nH aXv)<|asq (apM aWN)<|asq (aM6 aXy)<|Rj)
def aOX:=ai @bbU<|ai @bbS<|ai @bbY<|ai @bb2<|ai @bb4<|ai @bbV<|ai @bbF<|ai @bbK<|ai @bb7<|ai @bby<|ai @bbO<|ai @bbN<|ai @bbC<|ai @bbx<|ai @bbX<|ai @bcm<|ai @bbw<|ai @bcd<|ai @bbv<|ai @bcg<|@amo
section
attribute[local irreducible] aX
def a9j:=I9 8 []
def bgR{a a1}:=y0 aOh func318 a9j [a,a1]
def a9h:=I9 36 []
def bgP{a a1 b}:=y0 aOh func320 a9h [a,a1,b]
def bgZ{c0 a1 b}:=y1 34 6 3 aOh func286 at1 c0 [.a c0,a1,b]
def a9B:=I9 15 [(3,([1,5],[0])),(6,([1],[0,5]))]
def bg8{a a1}:=y0 aOh func262 a9B [a,a1]
def a9P:=I9 18 [(3,([7],[2,3,6])),(10,([40],[2]))]
def bho{c0 b}:=y2 290 6 2 277 4 3 aOh func290 a9P c0 b [.a c0, .a b]
def bgz{c0}:=y1 347 6 1 aOh func293 a9j c0 [.a c0]
def a85:=I9 26 [(20,([56],[3,7]))]
def bgD{c0 a1 b}:=y1 217 2 3 aOh func334 a85 c0 [.a c0,a1,b]
def a89:=I9 33 [(4,([4,5,6,7,8],[0])),(7,([4,5,6,7],[0,8])),(15,([4,5,6,7],[0,8,9])),(17,([39],[0,4,5,6,7,8,9,36])),(19,([47],[0,4,5,6,7,8,9,36]))]
def bgH{a}:=y0 aOh func268 a89 [a]
def a9d:=I9 29 [(3,([4],[1])),(12,([6],[1])),(21,([8],[1,6,7]))]
def bgL{c0}:=y1 217 2 1 aOh func269 a9d c0 [.a c0]
def a8H:=I9 9 [(4,([3,4],[0]))]
def bgd{a}:=y0 aOh func62 a8H [a]
def bgi{c b}:=y1 298 4 3 aOh func213 at1 b [c, .a b]
def bgj{d b c}:=y2 298 4 4 298 4 5 aOh func304 at1 b c [d, .a b, .a c]
def a94:=I9 11 [(4,([3,10],[8,9])),(7,([3],[8,9,10]))]
def bhE{c0}:=y1 42 7 1 aOh func260 a94 c0 [.a c0]
end
def a5C{a b}:mL (bv U) a b=V a:=rfl
def a7i{a b}:mL (bv I) a b=V b:=rfl
def aXX{P:Int->Prop}{Q:J3}:(∀r,(∃k:Int,r=iv k/\P k)->Q r)=∀k,P k->Q (iv k):=X
def bd8{a b c d e f g h i j k}:aN (V 11) [a,b,c,d,e,f,g,h,i,j,k]=V (.a [a,b,c,d,e,f,g,h,i,j,k]):=rfl
def rkx{s}:aN (V 3) (aoC.c s)=V (.a<|aoC.c s):=rfl
def aXb(o a):Ct 318 [iv o,iv a] (λr=>aWE r):=bgR λs0 c b=>by simp only[hZ,aEn,aOX,a6D,QV,FA,aNR]
def aUb:FT:=aRd aXb
def bbT:=aWg aUb aXb
def aW9(o a b):Ct 320 [iv o,iv a,iv b] (λr=>aWE r):=bgP λs0 d c=>by simp+contextual only[hZ,jr,a5N,aOX,a6D,QV,FA,aNR,aRI,aPs,awG,btD,not_false_iff]
def aUa:FT:=aSb aW9
def bbR:=a6o aUa aW9
def aXj(w:aOw)(b n):Ct 286 [.a w.c,iv b,iv n] (λr=>isB r):=bgZ A λg f d e=>by simp+contextual only[gj,d,aOX,DR,aNP];grind [dX]
def aSg:FT:=aSb aXj
def bb1:=a6o aSg aXj
def aXl(l)(a:Int)(n:L l<1000000):Ct 262 [sl aRV.c l,iv a] (λr=>isB r):=bg8 λs0 m i=>by have nx:∀(a b:Int) (k:Nat),k<L l+1->tI (λs:Int×Nat=>[iv s.1,iv s.2]) (λs=>s.2<=L l+1) [iv b,iv ((k+1:Nat):Int)]/\pM 1 (L l+1) [iv b,iv ((k+1:Nat):Int)]<pM 1 (L l+1) [iv a,iv k]:=λa b k e=>wN (enc:=λs:Int×Nat=>[iv s.1,iv s.2]) (s:=(a,k)) (s':=(b,k+1)) A rfl rfl e e;refine yh (λs:Int×Nat=>[iv s.1,iv s.2]) 1 (L l+1) (λs=>s.2<=L l+1) (a,0) O ?_;rintro⟨f,k⟩ e;simp+contextual only[qz 39,qz 41,qz 19,bh0,au,oj,mV,aOX,iV,FA];intro j h;have g:k<L l+1:=X;have d:aF (L l) f:=(by simp at h;exact⟨Z,Z⟩);rw[fX Z];exact⟨d,λ_=>⟨d,λ_=>⟨d,nx _ _ _ g⟩,λ_=>nx _ _ _ g⟩⟩
def aUe:FT:=pn aXl
def bb3:=f211 aUe aXl (j:=btm)
def a8e(i:aRV)(s:bim):Prop:=i.op=7\/i.op=9->aF (L s.aO6) i.k
def aXw(i)(s)(b:a8e i s):Ct 290 [.a i.c, .a s.c] (λr=>isI r):=bho A rfl λj g d e f=>by simp+contextual only[qz 63,qz 65,qz 21,qz 23,bh0,au,ie,d,e,J9,aOX,aPG,FA,aRI,rr];simp only[awG,aPs,sr,aPZ,FA,Cq];exactλ_ _=>⟨λh=>b<|.inl h,λ_ h=>b<|.inr h⟩
def aUn:FT:=pn aXw
def bce:=f211 aUn aXw (j:=btm)
def aWV(d:bmK):Ct 293 [.a d.c] (λr=>isB r):=bgz A λg f b e=>by simp+contextual only[gp,b,mj,aOX,aRB,aNP,FA]
def aT3:FT:=aP7 aWV
def bbD:=aRM aT3 aWV (j:=btm)
def slc{Y K}{i:Int}{l}:rV (fo 1 Y (sl cs l) J (V<|iv i) J) K=((0<=i/\i<=L l)/\K (sl cs<|l.take i.toNat)):=aIk λ_=>A
def aWZ(p)(t)(s)(e:PrB p):Ct 334 [.a p.c,iv t,st s] (λr=>∃k,r=iv k/\(k=5->0<=aOB p.brP s)):=by obtain⟨g,j,l⟩:=e;refine bgD A λo m b f=>?_;have d:=aTb (p:=λi=>Q<|(gd p.brP i).name=s) (n:=L p.brP);have:∀t:Int,L (gd p.ay t.toNat).locs<4611686018427387904:=λt=>(by by_cases h:t.toNat<L p.ay;grind [dB];rw[gd,List.getD_eq_getElem?_getD,List.getElem?_eq_none Z];decide);rw[<-aOB] at d;simp+contextual only[qz 123,qz 125,bh0,au,fQ,b,gS,aOX,a6n];simp only[aF];(try simp only[awG,aPs,bN,bik,aNS,btD]);grind
def aT5:FT:=vn aWZ
def bbH:=zZ aT5 aWZ (j:=btm)
def aW3(l)(P:L l<1000):Ct 268 [sl bmK.c l] (λr=>aQ1 r):=by
 refine bgH λs0 E M=>?_
 refine jD (α:=Int×Int×Int×Int) (λs i=>[iv s.1,iv s.2.1,iv s.2.2.1,iv s.2.2.2,iv i]) 4 (L l) (λ_ _ Y=>L Y=4096) (s0:=(0,0,0,0)) E ?_
 rintro k ⟨a,b,c,d⟩ Y N e
 have nx:∀(x y z u:Int) Y',L Y'=4096->k<L l->yI (λ(s:Int×Int×Int×Int) i=>[iv s.1,iv s.2.1,iv s.2.2.1,iv s.2.2.2,iv i]) (L l) (λ_ _ Y=>L Y=4096) [iv x,iv y,iv z,iv u,iv<|dq.wrap<|(k:Int)+1] Y'/\gM 4 (L l) [iv x,iv y,iv z,iv u,iv<|dq.wrap<|(k:Int)+1] Y'<gM 4 (L l) [iv a,iv b,iv c,iv d,iv k] Y:=λx y z u Y' m g=>
  dR (mk:=λ(s:Int×Int×Int×Int) i=>[iv s.1,iv s.2.1,iv s.2.2.1,iv s.2.2.2,iv i]) (s:=(a,b,c,d)) (s':=(x,y,z,u)) (λ_ _=>A) g Z m
 have t:∀{Y:ae} {K:J3} {i:Int},rV (fo 6 Y (sl bmK.c l) J (V<|iv i) J) K=((0<=i/\i<=L l)/\K (sl bmK.c<|l.take i.toNat)):=aIk λ_=>A
 simp only[qz 25,au,eQ,aO2,mV,FA,aRI,qz 47,qy 2,bh]
 intro h
 have f:=aL h
 refine⟨dJ f,anu e λv G w F B=>?_⟩
 have o:=w.len.trans e
 have j:(0:Int)<=k/\(k:Int)<=L l:=Z
 have D:=aTb (p:=λi=>Q<|(gd (l.take k) i).name=(gd l k).on) (n:=L<|l.take k)
 have q:L (l.take k)<4611686018427387904:=NA
 have C:Q (aOB (l.take k) (gd l k).on<0)=I->aF (L l) (aOB (l.take k) (gd l k).on):=λh=>by
  simp only[aPs] at h
  have:L (l.take k)<=L l:=by simp only[List.length_take];omega
  exact⟨Z,by have:=D.2;rw[aOB];omega⟩
 simp+contextual only[t,bh,hH,B,mV,aOX,aO2,FA,aRI,qz 45,qz 93,qz 117,qz 119,qz 105,qz 107,qz 95,qz 4,j,C,nx,f,o,q,aRW]
def aT7:FT:=om aW3
def bbL:=aUy aT7 aW3 (j:=btm)
def aW7(p)(C:PrB p):Ct 269 [.a p.c] (λr=>aQ1 r):=bgL A λm t o D=>by obtain⟨E,G,y⟩:=C;have w:∀{Y:ae} {K:J3} {i:Int},rV (fo 4 Y (sl bj9.c p.ay) J (V<|iv i) J) K=((0<=i/\i<=L p.ay)/\K (sl bj9.c<|p.ay.take i.toNat)):=aIk λ_=>A;refine yV (L p.ay) (λ_ _ Y=>Fx m Y []) (Fx.refl _ _) ?_;rintro k _ Y B F;have e:=F.kq o;have f:=F.len.trans t;simp only[qz 19,qy 4,au,ox,e,bh];refine⟨λh=>⟨vp h,anu f λv n d x g=>?_⟩,λh=>?_⟩;have b:=aL h;have l:=d.kq e;have q:(0:Int)<=k/\(k:Int)<=L p.ay:=Z;have u:L (p.ay.take k)<4611686018427387904:=NA;have nx:=dR (mk:=λ(_:Unit) i=>[iv i]) (p:=0) (s:=()) (s':=()) (Inv:=λ_ _ Y=>Fx m Y []) (Y:=Y) (Y':=n) (λ_ _=>A) b Z<|F.trans d;simp+contextual only[qz 6,w,bh,jB,l,g,ar,aOX,aO2,FA,aRI,q,u,nx];omega;refine yV (L p.ay) (λ_ _ Y=>Fx m Y []) F ?_;rintro k _ Y B F;have e:=F.kq o;have f:=F.len.trans t;simp only[qz 73,qy 8,au,eT,e,mV,bh,aO2,FA,aRI];refineλh=>⟨vp h,anu f λv n d x g=>?_⟩;have b:=aL h;have l:=d.kq e;simp+contextual only[qz 10,jB,g,aO2,FA,Cq];intro M;have:=y _<|dB b;refine bid (L (gd p.ay k).locs) (λ_=>True) trivial λj N _=>?_;simp+contextual only[qz 127,au,gj,l,g,J9,bh,aOX,rr,aO2,FA,slc];refine⟨λz=>?_,λz=>yU b<|F.trans d⟩;grind [aL,dJ,bkg]
def aT9:FT:=om aW7
def bbP:=aUy aT9 aW7 (j:=btm)
def cu(x:Int):dM:=[.s<|.int .u8 x]
def a6E{Y K}{i:Int}{l}:rV (cz 1 Y (sl cu l)<|iv i) K=(aF (L l) i/\K (.q<|cu<|gd l i.toNat)):=aBz λ_=>A
theorem bcP{x y:Int}:(cu x=cu y)=(x=y):=by simp[cu]
def aQZ{l l'}:(sl cu l=sl cu l')=(l=l'):=(by grind [kL,bcP])
def aWH(l)(q:L l<1000):Ct 62 [sl cu l] (λr=>∃cs:List ot,r=sl ot.c cs/\L cs=L l):=by refine aDq (bgd λs0 j n=>?_);refine yW (L l) (λk a Y=>L Y=4096/\∃cs:List ot,L cs=k/\lI Y 113 2 a (cs.map ot.c)) (s0:= .l [] U U) ⟨j,[],A,lI.nil⟩ ?_;rintro k a Y o ⟨b,cs,i,d⟩;simp only[qz 25,qy 2,au,eQ,a6E,bh,cu,qM,aS6,jr,a5N];refine⟨λh=>⟨vp h,H,vp h,H,H,?_⟩,λh=>?_⟩;generalize(dq.wrap<|gd l k).tmod 4=x;generalize dq.wrap ((dq.wrap<|(dq.wrap<|gd l k).tdiv 4).tmod 5-1)=y;have e:bM bjw bqW [(0,iv x),(1,iv y)]=V (.a<|ot.c ⟨x,y⟩):=A;have f:aX bjw 1 Y [(0, .a<|ot.c ⟨x,y⟩)]=V (.l ([(⟨x,y⟩:ot)].map ot.c) U U,Y):=ua A rfl rfl H A H;simp only[e,f,aY,bQ];refine apQ d.p b (by grind [ot.c]) (by grind [ot.c]) O NA λm Y' g F N=>?_;refine dT (by first|rfl|(simp[eL,okT,tok,lb,cq,Qh,aNG,dC,pP,dK];done)) ?_;simp only[eQ];refine yX (aL h) ⟨F.len.trans b,cs++[⟨x,y⟩],by simp[i],vB⟩;exact aOv (Q:=λr=>∃cs:List ot,r=sl ot.c cs/\L cs=L l) (aWs d.p) (by simp[iX,eN]) ⟨cs,A,X⟩
def aTT:FT:=om aWH
def bbp:=aUy aTT aWH (j:=by simp only[ij,aQZ])
def aWL(s)(e):Ct 213 [st s, .a e.c] (·= .a (amt.mk 1 0 s ⟨#[]⟩ [] e [] []).c):=by refine aDq (bgi aN9 λp j f o=>?_);refine zm j λv q d m g=>?_;have i:=d.kq f;have b:bM bsW alz [(0,iv 1),(2,st s),(5, .a e.c)]=V (.a [iv 1,iv 0,st s,sv [], .l [] U U,iv e.op,iv e.n,st e.name,sl aNK.c e.l, .l [] U U, .l [] U U]):=bsM;simp only[qz 4,qy 6,eQ,i,J9,b];refine stW g A rfl λr k h=>?_;simp only[eQ,h,bd8];exact aQ7 bqK bqK
def aPN:FT:=bsk aWL
def bbt:=f200 aPN aWL (j:=btm)
def aWM(o)(a b):Ct 304 [iv o, .a a.c, .a b.c] (·= .a (aNK.mk o 0 ⟨#[]⟩ [a,b]).c):=by refine aDq (bgj aN9 aN9 λt p h i s=>?_);refine zm p λv g d r j=>?_;have m:=d.kq h;have n:=d.kq i;have f:aX bvY 2 g [(0, .a a.c),(1, .a b.c)]=V (.l [a.c,b.c] U U,g):=(by rw[aoH (x:=a),aoH (x:=b)];kernel_rfl);simp only[qz 6,eQ,m,n,J9,f];have e:bM bvA bst [(0,iv o),(3, .l [a.c,b.c] U U)]=V (.a [iv o,iv 0,sv [], .l [a.c,b.c] U U]):=A;simp only[qz 8,qy 10,e,aY];refine stW j A rfl λu q k=>?_;simp only[eQ,k,uS];exact aQ7 (by rw[aoH (x:= .mk o 0 ⟨#[]⟩ [a,b])];rfl) (by rw[aoH (x:= .mk o 0 ⟨#[]⟩ [a,b])];rfl)
def aRg:FT:=buC aWM
def bbu:=KP aRg aWM (j:=btm)
def aXG(s:aTo)(D:L s.eB.ay<1000):Ct 260 [.a s.c] (λr=>∃l:eu,r=sl ci l/\L l<=L s.eB.ay):=by refine aDq (bhE A λi t m z=>?_);simp only[eT,m];refine yW (L s.eB.ay) (λk a Y=>Fx i Y []/\∃l:eu,L l<=k/\lI Y 3 1 a (l.map ci)/\∀q∈aA a,bK i q) (s0:= .l [] U U) ⟨Fx.refl _ _,[],O,lI.nil,aBY⟩ ?_;rintro k a Y C ⟨F,l,B,f,o⟩;have d:=F.len.trans t;simp only[qz 25,au,eQ,qz 47,qy 4,ix,bh,rkx,rr];refine⟨λh=>⟨vp h,anu d λv x b w n=>?_⟩,λh=>?_⟩;have e:=aL h;have:=b.len.trans d;simp only[qz 6,qy 8,qy 10,eT,n,a5Y,qz 45];refine⟨λ_=>?_,λ_=>yX e ⟨F.trans b,l,Z,f.fx b O,o⟩⟩;refine qs (f.fx b O).p A H Z pU pU O NA λy Y' g j u=>?_;refine yX e ⟨((F.trans b).trans j).mono λq E=> .inr ?_,l++[(k:Int)],NA,vB,bse⟩;grind [bK.no];exact aOv (Q:=λr=>∃l:eu,r=sl ci l/\L l<=L s.eB.ay) (aWs f.p) (by simp[iX,eN]) ⟨l,A,Z⟩
def aSk:FT:=om aXG
def bcn:=aUy aSk aXG
def a7x:dO:=(318,aUb)::(320,aUa)::(286,aSg)::(262,aUe)::(290,aUn)::(293,aT3)::(334,aT5)::(268,aT7)::(269,aT9)::(62,aTT)::(213,aPN)::(304,aRg)::(260,aSk)::a7w
def aNH:eJ a7x:=asq (aYm aXb) (asq (a7W aW9)<|asq (a7W aXj)<|asq (aN0 aXl)<|asq (aN0 aXw)<|asq (aR6 aWV)<|asq (By aWZ)<|asq (rj aW3)<|asq (rj aW7)<|asq (rj aWH)<|asq (nI aWL<|λ_ _=>by simp only[Cs,aqG,aOW,Bool.and_self])<|asq (Rs aWM<|λ_ _ _=>by simp only[Cs,aqG,aOW,Bool.and_self])<|asq (rj aXG)<|aOh)
def aD6:=ai @bbT<|ai @bbR<|ai @bb1<|ai @bb3<|ai @bce<|ai @bbD<|ai @bbH<|ai @bbL<|ai @bbP<|ai @bbp<|ai @bbt<|ai @bbu<|ai @bcn<|@aOX
def oi:=ai @Cq @aD6
section
attribute[local irreducible] aX
def bgO{c0 a1 b c d}:=y1 217 2 5 aNH func324 a8V c0 [.a c0,a1,b,c,d]
def a86:=I9 10 [(4,([4,5,6],[1]))]
def bgE{c0}:=y1 298 4 1 aNH func335 a86 c0 [.a c0]
def bgA{a}:=y0 aNH func270 a8H [a]
def a8X:=I9 14 [(7,([4],[1]))]
def bgv{c0}:=y1 298 4 1 aNH func332 a8X c0 [.a c0]
def a9D:=I9 35 [(11,([59],[2,3,6])),(14,([78],[2,3,6])),(19,([98],[2,3,6])),(23,([108],[2,3,6]))]
def bha{c0 b}:=y2 34 6 2 290 6 3 aNH func261 a9D c0 b [.a c0, .a b]
end
def aW8(p)(t)(s)(a b)(e:PrB p):Ct 324 [.a p.c,iv t,st s,iv a,iv b] (λr=>∃k,r=iv k/\(k=0->a=5->b=5->0<=aOB p.brP s)):=bgO A λh g d f=>by simp+contextual only[hZ,d,oy,aD6,e,aXX,a6n];grind
def aOd:FT:=aTQ aW8
def bsg{p:Prop}(h:p:=by simp+contextual only[lT]):p:=h
def bbQ:=bbn aOd aW8 (j:=bsg)
def aW0(e)(f:∃n,shE n e):Ct 335 [.a e.c] (λr=>aQ1 r):=by obtain⟨n,f⟩:=f;induction n generalizing e with|zero=>exact f.elim|succ n i=>have:=f.len;refine bgE aN9 λo m g j=>?_;refine yh (λs:Int×Int×Nat=>[iv s.1,iv s.2.1,iv s.2.2]) 2 (L e.l) (λ_=>True) (1,0,0) trivial ?_;rintro⟨a,b,k⟩ _;simp only[qz 25,au,jB,g,ixv,bh,jM,kU,jt,Fa,aO2,FA,aRI];intro h;have d:=aL h;refine⟨dJ d,aPW (i _<|f.2 _<|dB d) (aV2 bbb) ?_⟩;rintro r ⟨x,y,rfl⟩;simp only[jZ,rr,aRW];exact wN (enc:=λs:Int×Int×Nat=>[iv s.1,iv s.2.1,iv s.2.2]) (s:=(a,b,k)) (s':=(_,_,k+1)) (by rw[fX Z]) A rfl d trivial
def aT6:FT:=om aW0
def bbI:=aUy aT6 aW0 (j:=bsg)
def aWW(l)(d:∃n,shL n 8 l):Ct 270 [sl amt.c l] (λr=>isI r):=by obtain⟨n,d⟩:=d;induction n using Nat.strongRecOn generalizing l with|ind n f=>obtain⟨j,g⟩:=d;refine bgA λs0 o i=>?_;simp only[eQ];refine yh (λs:Int×Nat=>[iv s.1,iv s.2]) 1 (L l) (λ_=>True) (L l,0) trivial ?_;rintro⟨a,k⟩ _;simp only[qz 25,au,eQ,mV,bh,jM,kU,jt,alg,aPG,FA,aRI];intro h;have b:=aL h;obtain⟨m,rfl,g1,e⟩:=(g _<|dB b).body;refine⟨dJ b,aPW (f m Z _ ⟨by have:=g1.1;omega,g1.2⟩) A ?_⟩;rintro r ⟨x,rfl⟩;simp only[jZ,AL];refine⟨dJ b,aPW (f m Z _ ⟨by have:=e.1;omega,e.2⟩) A ?_⟩;rintro r ⟨y,rfl⟩;simp only[jZ,AL];exact wN (enc:=λs:Int×Nat=>[iv s.1,iv s.2]) (s:=(a,k)) (s':=(_,k+1)) (by rw[fX Z]) A rfl b trivial
def aT4:FT:=om aWW
def bbE:=aUy aT4 aWW (j:=bsg)
def aWS(e)(f:∃n,shE n e):Ct 332 [.a e.c] (λr=>isB r):=by obtain⟨n,f⟩:=f;induction n generalizing e with|zero=>exact f.elim|succ n o=>have:=f.len;refine bgv aN9 λt s g p=>?_;dsimp only;generalize m:@qp _ 43 ⟨_⟩=Lw;have d:lR [iv 0] Lw:=(by rw[<-m];refine bid (L e.l) (λ_=>True) trivial λk q _=>?_;simp only[qz 43,au,jB,g,ixv,bh,jM,kU,jt,Fa,iV,FA];intro h;have i:=aL h;refine⟨dJ i,aPW (o _<|f.2 _<|dB i) (aV2 bbb) ?_⟩;rintro r ⟨x,rfl⟩;simp only[jZ,AL,FA];grind [bkg]);have b:e.op=2\/e.op=3\/(e.op≠2/\e.op≠3):=Z;obtain b|b|⟨j,b⟩:=b;simp+contextual only[jB,g,ar,aD6,aRB,aNP,FA,b,bqQ,d,a5C,Bool.and_self,↓jN];simp+contextual only[jB,g,ar,aD6,aRB,aNP,FA,b,bqQ,bqF,wY,d,Int.reduceEq,a5C,Bool.and_self,↓jA];simp+contextual only[jB,g,ar,aD6,aRB,aNP,FA,j,b,bqF,d,a7i,Bool.and_self,↓jA,↓jN]
def aRh:FT:=om aWS
def bbA:=aUy aRh aWS (j:=bsg)
def aXn(w:aOw)(i:aRV):Ct 261 [.a w.c, .a i.c] (λr=>isB r):=bha A rfl λg f b d e=>by simp+contextual (maxSteps:=2000000) only[qz 141,qz 143,qz 117,qz 119,qz 87,qz 89,qz 69,qz 71,bh0,au,ie,b,d,J9,aD6,rr,aNP,DR,FA];(try simp only[awG,aPs,bN,bik,aNS,btD]);(repeat' (first|apply ai|intro _));all_goals first|omega|trivial
def aUf:FT:=aRd aXn
def bb5:=aWg aUf aXn (j:=bsg)
def a7y:dO:=(324,aOd)::(335,aT6)::(270,aT4)::(332,aRh)::(261,aUf)::a7x
def aR1:eJ a7y:=asq (bhJ aW8) (asq (rj aW0<|λ_=>by simp only[Cs,aqG,aOW,Bool.and_self])<|asq (rj aWW<|λ_=>by simp only[Cs,aqG,aOW,Bool.and_self])<|asq (rj aWS<|λ_=>by simp only[Cs,aqG,aOW,Bool.and_self])<|asq (aYm aXn)<|aNH)
def aRO:=ai @bbQ<|ai @bbI<|ai @bbE<|ai @bbA<|ai @bb5<|@aD6
section
attribute[local irreducible] aX
def a9a:=I9 13 [(2,([7],[1,3,5])),(8,([7,8],[1,3,5]))]
def bgI{c0 a1 b}:=y2 217 2 3 298 4 5 aR1 func336 a9a c0 b [.a c0,a1, .a b]
def a8Y:=I9 23 []
def bgw{c0}:=y1 300 11 1 aR1 func321 a8Y c0 [.a c0]
def a8Z:=I9 10 [(3,([3],[0]))]
def bgx{a}:=y0 aR1 func294 a8Z [a]
def a9F:=I9 30 [(7,([8],[1,3,5,7])),(23,([11],[1,3,5,7,8,10]))]
def bhb{c0 a1 b}:=y2 34 6 3 273 2 5 aR1 func204 a9F c0 b [.a c0,a1, .a b]
end
def aW4(p)(t)(e)(d:PrB p/\∃n,shE n e):Ct 336 [.a p.c,iv t, .a e.c] (λr=>isI r):=by obtain⟨j,n,d⟩:=d;induction n generalizing e with|zero=>exact d.elim|succ n o=>have:=d.len;refine bgI A aN9 λv u g i q=>?_;dsimp only;generalize m:@qp _ 49 ⟨_⟩=Lw;have f:∀x:Int,lR [iv x,iv 0] Lw:=(λx=>by rw[<-m];refine yh (λs:Int×Nat=>[iv s.1,iv s.2]) 1 (L e.l) (λ_=>True) (x,0) trivial ?_;rintro⟨a,k⟩ _;simp+contextual only[qz 49,au,jB,g,i,ixv,bh,jM,kU,jt,Fa,aPG,tW,FA,aRI];intro h;have b:k<L e.l:=vB;refine⟨dJ b,aPW (o _<|d.2 _<|dB b) (by simp only[Cs,aqG,aOW,Bool.and_self]) ?_⟩;rintro r ⟨y,rfl⟩;simp only[AL,Cq];exact wN (enc:=λs:Int×Nat=>[iv s.1,iv s.2]) (s:=(a,k)) (s':=(y,k+1)) (by grind [fX]) A rfl b trivial);simp+contextual only[bh0,qz 17,qz 15,au,gp,g,i,aRO,j,aXX,mj,Fa,f,FA]
def aT8:FT:=vn aW4
def bbM:=zZ aT8 aW4 (j:=bsg)
def aX1(n:Nat)(h:∀s,shS n s->Ct 321 [.a s.c] isB)(l)(i:L l<=8)(hs:∀s∈l,shS n s):Ct 294 [sl amt.c l] isB:=bgx λs0 e f=>bid (L l) (λ_=>True) trivial λk g _=>by simp only[qz 19,au,eQ,mV,bh,jM,kU,jt,Fa,iV,FA];intro d;have b:=aL d;refine⟨dJ b,aPW (h _<|hs _<|dB b) (aV2 bbd) ?_⟩;rintro r ⟨x,rfl⟩;simp only[jZ,AL,FA];grind [bkg]
set_option maxHeartbeats 8000000 in
def a7f:∀(n:Nat) (s:amt),shS n s->Ct 321 [.a s.c] isB:=λn=>by induction n with|zero=>intro s h;exact h.elim|succ n o=>intro s l;have B:=l.at;obtain⟨m,D,g1,q⟩:=l.body;obtain rfl:n=m:=Z;refine bgw brR λd C f z=>?_;have hI:Q ((L s.index:Int)=1)=U->∃n,shE n (gd s.index 0):=bv8;have u:s.op=1\/s.op=2\/s.op=3\/s.op=14->∃n,shE n s.expr:=X;have k:fW (cX 294) [sl amt.c s.body] (lo d [sl amt.c s.body]) (λb=>gR (gP U b) (λg=>g<|AV.p (1,1) 0 10) λt=>gR (gP U b) (λg=>rV (sA J d t) λv=>g v) λe=>gR (gP U b) (λg=>fW (cX 294) [dG d e] (lo d [e]) λv=>g v) λi=>rV (mL b i<|bv I) λj=>aE isB d [j]):=(aPW (aX1 n o _ Z g1.2) A<|by rintro r ⟨x,rfl⟩;(cases x);simp only[jZ,AL,a7i,aNP,jN];simp only[jZ,AL,jA,f,J9,alg,a5C];refine aPW (aX1 n o _ Z q.2) A ?_;rintro r ⟨y,rfl⟩;simp only[AL,u1,aNP,Cq]);have cs:(Q (s.op<1)||Q (15<s.op))=U\/s.op=1\/s.op=2\/s.op=3\/s.op=4\/s.op=5\/s.op=6\/s.op=7\/s.op=8\/s.op=9\/s.op=10\/s.op=11\/s.op=12\/s.op=13\/s.op=14\/s.op=15:=X;obtain h|h|h|h|h|h|h|h|h|h|h|h|h|h|h|h:=cs;simp+contextual only[gp,f,h,aNP,↓iC];trace_state;all_goals(try have w:=u Z);simp+contextual only[fQ,f,mV,Fa,aRO,rg,Gx,aRB,iV,h,k,bqQ,bqF,Int.reduceLT,Int.reduceEq,Int.reduceLE,btD,bCa,bFD,a5C,a7i,↓jA,↓jN,Bool.and_self,FA];(try simp only[aF,awG,aPs,bN,Bool.or_eq_true,cP,bik,aNS,eH,fK]);simp_all
def a6L(s)(b:∃n,shS n s):Ct 321 [.a s.c] (λr=>isB r):=by obtain⟨n,b⟩:=b;exact a7f n s b
def a8a:FT:=om a6L
def aWT(l)(a:∃n,shL n 8 l):Ct 294 [sl amt.c l] (λr=>isB r):=by obtain⟨n,a⟩:=a;exact aX1 n (a7f n) l a.1 a.2
def aT1:FT:=om aWT
def bbB:=aUy aT1 aWT (j:=bsg)
def aYh(c:bqI):Prop:=0<=c.aO6/\c.aO6<=32/\∀k,k<L c.boU->∀j∈bie (gd c.boU k),0<=j/\j<c.aO6
def aTv{P:Bool->Prop}{Q:J3}:(∀r,(∃b:Bool,r=bv b/\P b)->Q r)=∀b,P b->Q (bv b):=X
def aPA{a}{p:Bool->Prop}:(∃k,bv a=bv k/\p k)=p a:=O
def nn:=ai @aPA @aPZ
def bd5{l}{Q:J3}:(∀r,aRU l r->Q r)=∀t o,Q (.l (l.map ci) t o):=QS
def bdN{Y}{x:aRV}{r}:lo Y [.a x.c] r=True:=by simp[lo,nA,aNN,iR,aRV.c]
def aXo(w:aOw)(t:Int)(c)(E:L c.boU<1000000):Ct 204 [.a w.c,iv t, .a c.c] (λr=>∃b,r=bv b/\(b=U->aYh c)):=bhb A rfl λG D s g P=>by simp+contextual only[gp,g,ar,nn,eE,FA];intro f;refine yV (L c.boU) (λk _ Y=>Fx G Y []/\∀q,q<k->∀j∈bie (gd c.boU q),0<=j/\j<c.aO6) ⟨Fx.refl _ _,O⟩ ?_;rintro k _ Y T ⟨F,hI⟩;have n:=F.len.trans D;have z:=F.kq s;have l:=F.kq g;simp only[qz 43,qy 6,au,ox,l,bh,aPA];refine⟨λh=>⟨vp h,anu n λv N e M u=>?_⟩,λh _=>?_⟩;have p:=aL h;have B:=e.kq z;have m:=e.kq l;simp+contextual only[qz 8,au,gj,B,m,u,oy,aRO,rr,rg,nn,bd5,bdN,E,eE,FA];refineλx y _=>⟨btB,λ_ _ W o=>?_⟩;refine bid (L<|bie<|gd c.boU k) (λi=>∀d,d<i->0<=gd (bie<|gd c.boU k) d/\gd (bie<|gd c.boU k) d<c.aO6) O λi S hJ=>?_;have:L (bie<|gd c.boU k)<=3:=(by grind [bie]);simp only[qz 139,au,fQ,tf,J9,m,bh,aRO,rr,nn,eE,FA];refine⟨(by grind [dJ,aL,bkg,dh]),λR=>?_⟩;refine yU p ⟨F.trans e,a6p hI λj C=>?_⟩;obtain⟨d,K,rfl⟩:=ou C;grind [aNV,bpL,dge];simp at f;obtain rfl:k=L c.boU:=X;exact⟨Z,Z,hI⟩
def aUg:FT:=vn aXo
def bb6:=zZ aUg aXo (j:=bsg)
def a7z:dO:=(336,aT8)::(321,a8a)::(294,aT1)::(204,aUg)::a7y
def aTB:eJ a7z:=asq (By aW4<|λ_ _ _=>by simp only[Cs,aqG,aOW,Bool.and_self]) (asq (rj a6L<|λ_=>by simp only[Cs,aqG,aOW,Bool.and_self])<|asq (rj aWT<|λ_=>by simp only[Cs,aqG,aOW,Bool.and_self])<|asq (By aXo)<|aR1)
def aQT:=ai @bbM<|ai @bbB<|ai @bb6<|@aRO
section
attribute[local irreducible] aX
def a8W:=I9 27 [(3,([3],[1])),(11,([4],[1])),(18,([6],[1,4,5]))]
def bgu{c0}:=y1 217 2 1 aTB func267 a8W c0 [.a c0]
def bgC{c0 a1 b}:=y2 217 2 3 298 4 5 aTB func325 a8V c0 b [.a c0,a1, .a b]
def a9p:=I9 13 [(6,([3],[1]))]
def bgX{c0}:=y1 150 7 1 aTB func122 a9p c0 [.a c0]
end
def aWR(p)(s:shP p):Ct 267 [.a p.c] (λr=>isB r):=by obtain⟨⟨y,z,B⟩,C,n⟩:=s;refine bgu A λt q e x=>?_;refine bid (L p.brP) (λ_=>True) trivial λk o _=>?_;simp+contextual only[qz 19,au,fQ,e,mV,bh,Fa,aQT,aNP,FA];refine⟨λh=>⟨vp h,btA⟩,λ_=>?_⟩;refine yV (L p.ay) (λ_ _ Y=>Fx t Y []) (Fx.refl _ _) ?_;rintro k _ Y o F;have m:=F.kq e;have f:=F.len.trans q;simp only[qz 67,qy 4,qy 6,au,ox,m,bh,iV,FA];intro h;have d:=aL h;refine⟨dJ d,anu f λv w i u l=>?_⟩;have g:=n _<|dB d;refine bid (L (gd p.ay k).locs) (λ_=>True) trivial λj D _=>?_;simp+contextual only[qz 109,au,gj,l,J9,bh,aQT,rr,rg,aNP,FA];refine⟨λh=>⟨vp h,λ_=>bkg (aL h) (aYF g.1) trivial⟩,λ_=>⟨λ_=>⟨4,g.2⟩,λb _=>yU d<|F.trans i⟩⟩
def aT0:FT:=om aWR
def bbz:=aUy aT0 aWR (j:=bsg)
def aWY(p)(t)(e)(f:PrB p/\∃n,shE n e):Ct 325 [.a p.c,iv t, .a e.c] (λr=>isI r):=bgC A aN9 λi h b d g=>by simp+contextual only[hZ,b,d,oy,aQT,f,rr,aPG,FA,aNR]
def aP8:FT:=vn aWY
def bbG:=zZ aP8 aWY (j:=bsg)
def aPU(c:bit):Prop:=mQ c.aQ=U/\L c.ay=L c.aQ.ay/\∀t∈c.ay,aYh t
def aOc(c:bit):Prop:=L c.ay<1000/\∀t∈c.ay,L t.boU<1000000
def aXh(c)(f:aOc c):Ct 122 [.a c.c] (λr=>∃b,r=bv b/\(b=U->aPU c)):=by obtain⟨i,e⟩:=f;refine bgX A λp n d g=>?_;simp+contextual only[jB,d,ar,aQT,nn,eE,FA];intro o;refine bid (L c.ay) (λk=>∀j,j<k->aYh (gd c.ay j)) O λk m l=>?_;simp+contextual only[qz 37,au,fQ,d,mV,bh,Fa,aQT,aTv,nn,eE,FA];refine⟨λh=>⟨vp h,e _<|dB<|aL h,btA⟩,λh _=>⟨?_,?_,?_⟩⟩;simp_all;grind;grind [ou,aNV,bpL,dge]
def aRk:FT:=om aXh
def bbZ:=aUy aRk aXh (j:=bsg)
def aYb:dO:=(267,aT0)::(325,aP8)::(122,aRk)::a7z
def aTC:eJ aYb:=asq (rj aWR) (asq (By aWY<|λ_ _ _=>by simp only[Cs,aqG,aOW,Bool.and_self])<|asq (rj aXh)<|aTB)
def aQU:=ai @bbz<|ai @bbG<|ai @bbZ<|@aQT
section
attribute[local irreducible] aX
def a9e:=I9 11 [(3,([9],[0,1,2,3]))]
def bgM{a a1 b c}:=yB aTC func322 a9e [a,a1,b,c]
def a9f:=I9 56 [(12,([67],[0,3,5,6,7,8,9,30])),(17,([91],[0,3,5,6,7,8,9,30])),(24,([119],[0,3,5,6,7,8,9,30])),(51,([14],[0,3,5,6]))]
def bgN{c b}:=yB1 300 11 3 aTC func297 a9f b [c, .a b]
def a5F:=I9 22 [(3,([6],[0,1])),(9,([8],[0,1,6,7])),(16,([8,9],[0,1,6]))]
def aRq a a1 s0 R:=(.mk _:NF<|zF GGV aYb a5F Tryz.f271 [a,a1] [] s0<|QDb Tryz.f271 R).p
def a7S{a a1:AV}{s0:ae}{R:be}(hs:L s0=4096)(h:aRq a a1 s0 R):EB 271 [a,a1] s0 R:=aTc<|zB a5F (aQ9 aTC) func271 h
end
def aV6{fn xs Y d K}{P:Value->Prop}(i:uQ.elem fn=U)(h:∃r b,((∃v,r= .s v/\P v)/\Fx Y b [])/\cZ aS GG fn xs Y r b)(g:∀v,P v->K (.s v) Y):cB fn xs Y d K:=by obtain⟨r,b,⟨⟨v,rfl,j⟩,c⟩,f⟩:=h;exact aS2 i ⟨_,b,⟨A,c⟩,f⟩<|g v j
section
variable{Y:ae}{e:TypeId}{z:Nat}{a:AV}{bA:List (dM)}
theorem ixG{i:Int}{K}(d:J7 Y e z a bA)(c:aF (L bA) i)(f:∀b m,a= .m b (L bA)->box Y b=V ⟨e,z,U,I,bA++m⟩->K (.p b i.toNat 0)):rV (cz z Y a<|iv i) K:=by have:=c.1;have:=c.2;obtain⟨rfl,rfl⟩|⟨b,m,rfl,g⟩:=d;grind;grind [cz,rV]
theorem stG{b}{i:Nat}{cs K}(c:box Y b=V ⟨e,z,U,I,bA⟩)(l:i<L bA)(m:∀r∈bA,L r=z)(j:L cs=z)(k:cs.all eN=U)(h:nrm (eR Y<|.a cs)= .a cs)(hI:aNN (.a cs)=[])(g:∀Y',Fx Y Y' [b]->box Y' b=V ⟨e,z,U,I,bA.set i cs⟩->K Y'):sV (aK z Y (.p b i 0)<|.a cs) K:=by have d:bA[i]?=V bA[i]:=O;have:bA[i].length=z:=vB;have f:aK z Y (.p b i 0) (.a cs)=V (wr Y b ⟨e,z,U,I,bA.set i cs⟩):=(by simp only[aK,aBG,c,eE,btd,hI,kills,aRl,h,pW,eY,d];grind);rw[f];exact g _ (wc c)<|lO c
theorem aQz{b}{i j:Nat}{x r K}(c:box Y b=V ⟨e,z,U,I,bA⟩)(h:bA[i]?=V r)(l:j<L r)(g:eY (nrm<|eR Y x)=V [nrm<|eR Y x])(k:eN (nrm<|eR Y x)=U)(hI:aNN x=[])(f:∀Y',Fx Y Y' [b]->box Y' b=V ⟨e,z,U,I,bA.set i<|r.set j<|nrm<|eR Y x⟩->K Y'):sV (aK 1 Y (.p b i j) x) K:=by have d:aK 1 Y (.p b i j) x=V (wr Y b ⟨e,z,U,I,bA.set i<|r.set j<|nrm<|eR Y x⟩):=(by simp only[aK,aBG,c,eE,btd,hI,kills,aRl,pW,g,h,bZ,bhZ];grind [GP]);rw[d];exact f _ (wc c)<|lO c
end
def bxL{e}{z d:Nat}{cs Y K}(h:L cs=z)(g:0<z)(b:d<L Y)(f:∀v Y',Fx Y Y' []->bK Y (d,v)->box Y' (d,v)=V ⟨e,z,U,U,[cs]⟩->K (.p (d,v) 0 0) Y'):eV (bxA e z Y d<|.a cs) K:=by have c:bxA e z Y d (.a cs)=V (.p (lA Y d) 0 0,put Y d ⟨e,z,U,U,[cs]⟩):=(by grind [bxA,eY,vg]);rw[c];exact f _ _ (kH b) (qQ Y d)<|iy b
def gfP{Y b T e}{z ze j d by':Nat}{cs zs a bA new t o}{K:AV->be}(C:box Y b=V ⟨T,z,U,U,[cs]⟩)(M:j<L cs)(w:J7 Y e ze a bA)(i:b∉aA a)(S:L zs=ze)(k:0<ze)(E:d<L Y)(R:∀r∈bA,L r=ze)(P:∀r∈new,L r=ze)(v:new≠[])(h:(L bA+L new)*(by'+1)<=1099511627776)(D:b.1≠d)(B:∀c Y',box Y' b=V ⟨T,z,U,U,[cs.set j c]⟩->lI Y' e ze c (bA++new)->Fx Y Y' (b::aA a)->(∀q∈aA c,bK Y q/\q.1=d)->K (.p b 0 j) c Y'):eV (apA e zs by' Y d a<|.l new t o) λx s=>rV (iQ j s<|.p b 0 0) λy=>sV (aK 1 s y x) (K y x):=qs w S k E R P v h λc Y' g F N=>by have f:=F.keep _ _ i C;have G:iQ j Y' (.p b 0 0)=V (.p b 0 j):=(by simp[iQ,f]);simp only[G,aY];refine A0 f g.p.ce M λn m u=>?_;have:b∉aA c:=X;refine B c n u (by grind [lI.fx]) ((F.trans m).mono λq W=>?_) N;grind
def bfa{α:Type}{l}{x y:α}:(l++[x]).set (L l) y=l++[y]:=O
structure Wk(Y:ae)(b:Id)(p:bqH)(al:List amt)(n:Nat)(a s t:AV):Prop where
 bx:∃th:Int,box Y b=V ⟨344,6,U,U,[[sl bmK.c p.brP,sl bj9.c p.ay,iv th,a,s,t]]⟩
 ga:J7 Y 300 11 a (al.map amt.c)
 gs:∃l:List ByteArray,J7 Y 9 1 s (l.map cs)/\L l<=n
 gt:∃l:List ByteArray,J7 Y 9 1 t (l.map cs)/\L l<=n
 la:L al<=6
 le:L Y=4096
 sb:b.1=60
 sa:∀q∈aA a,q.1=42
 ss:∀q∈aA s,q.1=204
 st:∀q∈aA t,q.1=262
section
variable{Y Y':ae}{b:Id}{p:bqH}{al:List amt}{n:Nat}{a s t:AV}
theorem Wk.fx{ks}(W:Wk Y b p al n a s t)(F:Fx Y Y' ks)(d:b∉ks)(e:∀q∈aA a,q∉ks)(f:∀q∈aA s,q∉ks)(h:∀q∈aA t,q∉ks):Wk Y' b p al n a s t:=by obtain⟨o,i⟩:=W.bx;obtain⟨l,g,j⟩:=W.gs;obtain⟨m,c,k⟩:=W.gt;exact⟨⟨o,F.keep _ _ d i⟩,W.ga.fx F e,⟨l,g.fx F f,j⟩,⟨m,c.fx F h,k⟩,W.la,F.len.trans W.le,W.sb,W.sa,W.ss,W.st⟩
theorem Wk.fx0(W:Wk Y b p al n a s t)(F:Fx Y Y' []):Wk Y' b p al n a s t:=(by grind [Wk.fx])
theorem Wk.mono{m}(W:Wk Y b p al n a s t)(h:n<=m):Wk Y b p al m a s t:=by obtain⟨l,g,e⟩:=W.gs;obtain⟨k,c,d⟩:=W.gt;exact⟨W.bx,W.ga,⟨l,g,Z⟩,⟨k,c,Z⟩,W.la,W.le,W.sb,W.sa,W.ss,W.st⟩
theorem ixL{i:Int}{K α}[Inhabited α]{f}{l:List α}{z:Nat}{e}(d:J7 Y e z a<|l.map f)(c:aF (L l) i)(u:∀x,L (f x)=z)(g:∀y,(∀q,sA q Y y=aN q (f<|gd l i.toNat))->(∀j q,rV (iQ j Y y) q=q (match y with| .p b k o=> .p b k (o+j)|y=>y))->K y):rV (cz z Y a<|iv i) K:=by refine ixG d X λb m r h=>g _ (λq=>?_) (λj q=>?_);have:=c.1;have:=c.2;grind [gd,xe,eC,aNV,sA,iE];simp[iQ,h,rV]
def bdi(W:Wk Y b p al n a s t)(x y)(o):∃r c,((∃v,r= .s v/\∃u:Bool,v= .bool u)/\Fx Y c [])/\cZ aS GG 322 [.p b 0 0,iv x,iv y,st o] Y r c:=bgM W.le<|yV (L al) (λ_ _ Y'=>Fx Y Y' []) (Fx.refl _ _)<|by rintro k _ c z F;have e:=W.fx0 F;obtain⟨B,g⟩:=e.bx;have i:∀u Y',Fx Y Y' []->aRf (λr c=>(∃v,r= .s v/\∃u:Bool,v= .bool u)/\Fx Y c []) Y' [bv u]:=λu Y' d=>⟨⟨_,A,u,A⟩,d⟩;simp only[qz 19,qy 2,au,nlP g,gp,g,e.ga.ln,bJ];refine⟨λh=>?_,λ_=>i _ _ F⟩;have f:=aL h;refine ixL e.ga (dJ f) (λ_=>brR) λC m _=>?_;simp only[m,bh,J9,aY];refine aRA A brR H (by rw[e.le];decide) λv w j q l=>?_;have d:=F.trans j;simp+contextual only[qz 4,au,gp,l,i _ _ d,FA,Cq];have:=W.la;exactλ_=>yU f d
theorem aRE(W:Wk Y b p al n a s t){x y c d K}(e:∀u,K (bv u) Y):cB 322 [.p b 0 0,iv x,iv y,st c] Y d K:=aV6 A (bdi W x y c) vB
def aPr(Y:ae)(b:Id)(p:bqH)(al:List amt)(n:Nat)(a s t:AV)(r:AV)(c:ae):Prop:=∃(e:Int) (s' d:AV),r=iv e/\Wk c b p al (n+1) a s' d/\Fx Y c (b::(aA s++aA t))/\(∀q∈aA s',q∈aA s\/bK Y q)/\∀q∈aA d,q∈aA t\/bK Y q
theorem aPr.no(W:Wk Y b p al n a s t)(F:Fx Y Y' [])(e):aPr Y b p al n a s t (iv e) Y':=⟨e,s,t,A,(W.fx0 F).mono Z,F.mono O,λ_ h=> .inl h,λ_ h=> .inl h⟩
def bd6{Q:J3}:(∀r,(∃k:Int,r=iv k)->Q r)=∀k,Q (iv k):=a65
def a52{x}:aX zd9 1 Y [(0,st x)]=V (.l ([x].map cs) U U,Y):=iz
theorem bvk{p:Prop}(h:p:=by grind [Go.Ab.Wk.st]):p:=h
theorem bvl{p:Prop}(h:p:=by grind [Go.Ab.Wk.ss]):p:=h
set_option maxHeartbeats 8000000 in
theorem bdl(W:Wk Y b p al n a s t)(S:PrB p){m:Nat}{x:amt}(hx:shS m x)(hn:n<100000):∃r Y1,aPr Y b p al n a s t r Y1/\cZ aS GG 297 [.p b 0 0, .a x.c] Y r Y1:=by have hw:=W;have ha:=hx.at;obtain⟨b1,C⟩:=b;obtain rfl:b1=60:=W.sb;refine bgN W.le brR λs2 v3 K2 a4 nf2 b3=>?_;have F2:Fx Y s2 []:=K2.fx [];have W2:=W.fx0 F2;obtain⟨th,E⟩:=W2.bx;have rp:∀{l:dM},aN (V 2) (sl bmK.c p.brP::sl bj9.c p.ay::l)=V (.a p.c):=A;simp only[qy 4,nlP E,gp,E,rp];refine anu W2.le λv5 B G aV b5=>?_;have f:=W2.fx0 G;have c3:=G.kq b3;have F:=F2.trans G;obtain⟨th,E⟩:=f.bx;have a3:cO B (.p (60,C) 0 0)=V (.p (60,C) 0 0):=nlP E;obtain⟨ls,R,a1⟩:=f.gs;obtain⟨lt,M,a2⟩:=f.gt;have aP:dG B s=sl Ab.cs ls:=R.ar;have aQ:dG B t=sl Ab.cs lt:=M.ar;refine dT (by first|rfl|(simp[eL,okT,tok,lb,cq,Qh,aNG,dC,pP,dK];done)) ?_;refine aRE f λtx=>?_;simp only[qz 8];refine aRE f λaW=>?_;simp only[qz 10];refine aRE f λlp=>?_;have dn:∀e:Int,aRf (aPr Y (60,C) p al n a s t) B [iv e]:=λe=>aPr.no W F e;have hI:∀y∈x.index,∃n,shE n y:=X;have hX:x.op=1\/x.op=2\/x.op=3\/x.op=14->∃n,shE n x.expr:=X;have av:=aTb (p:=λi=>Q<|(gd p.brP i).name=x.name) (n:=L p.brP);have ao:(x.op=1\/x.op=2\/x.op=3\/x.op=4\/x.op=5\/x.op=6\/x.op=7\/x.op=8\/x.op=9\/x.op=10\/x.op=11\/x.op=12\/x.op=13\/x.op=14)\/(x.op≠1/\x.op≠2/\x.op≠3/\x.op≠4/\x.op≠5/\x.op≠6/\x.op≠7/\x.op≠8/\x.op≠9/\x.op≠10/\x.op≠11/\x.op≠12/\x.op≠13/\x.op≠14):=Z;have lock:∀(i j:Int) (d:Nat) (k:Int),gF (!tx) (λk=>cB 322 [AV.p (60,C) 0 0,iv i,iv j,st x.name] B d λaD aB=>k aD aB) B λaE D=>rV (mL (bv tx) (bv U) aE) λaa=>fW aOS [dG D aa] (lo D [aa]) λab=>fW aOi [AV.s<|Value.int dq k,dG D ab] (lo D [iv k,ab]) λaF=>aRf (aPr Y (60,C) p al n a s t) D [aF]:=(λi j d k=>by(cases tx);simp only[kN,gF,aRa];refine aRE f λu=>?_;simp only[u0,mj,aQU,dn];simp only[gF,bih,a5C,u0,mj,aQU,dn]);simp only[qz 12,gp,c3];obtain(h|h|h|h|h|h|h|h|h|h|h|h|h|h)|⟨g1,g2,g3,g4,g5,g6,g7,g8,g9,aX,aY,z,aZ,a0⟩:=ao;(all_goals(try have aq:=hX Z);simp+contextual only[qz 309,qy 26,qz 311,qz 147,qy 20,qz 149,qz 105,qz 107,qz 75,qz 77,bh0,au,fQ,mV,Fa,aQU,Gx, *,bqQ,bqF,Int.reduceEq,btD,↓iC,↓iB,aXX,bd6,FA,mb,eE,sr]);intro h0 k;have:0<L x.index:=X;exact⟨⟨Z,Z⟩,hI _<|dB this⟩;(any_goals intro k hk h0;have ax:k=0:=vB;refine⟨by have:=S.1;omega,⟨hk ax,av.2⟩,aRE f λu=>?_⟩;cases tx<;>cases u<;>simp+contextual only[qz 18,gp,c3,mj,aQU,dn,a5C,a7i,jA,jN]);intro k hk;refine⟨by have:=S.2.1;omega,λ_=>⟨Z,λ_=>?_⟩⟩;simp only[a52,bQ];refine apQ R f.le oX oX O NA λs' az z o am=>?_;have w:=o.keep _ _ (λg=>by have:=f.ss _ g;simp at this) E;simp only[qz 22,nlP w,eS,w];refine A0 w z.p.ce O λT v K=>?_;refine dT (by first|rfl|(simp[eL,okT,tok,lb,cq,Qh,aNG,dC,pP,dK];done)) ?_;have P:∀q∈aA s',q∉[((60,C):Id)]:=X;refine⟨0,s',t,A,⟨⟨th,K⟩,(f.ga.fx o<|λq g N=>by grind [Wk.sa,Wk.ss]).fx v (λq g e=>by grind [Wk.sa]),⟨ls++[x.name],by rw[dg];exact z.p.fx v P,NA⟩,⟨lt,(M.fx o<|λq g N=>by grind [Wk.st,Wk.ss]).fx v<|λq g e=>bvk,Z⟩,f.la,v.len.trans<|o.len.trans f.le,A,f.sa,X,f.st⟩,((F.trans o).trans v).mono<|λq g=> .inl ?_,bse,λq g=> .inl g⟩;grind;intro k _;have:=S.2.1;omega;(focus refineλk=>⟨λ_=>Z,λ_=>?_,λ_=>?_⟩;all_goals simp only[a52,bQ];refine apQ M f.le oX oX O NA λt' az z o am=>?_;have w:=o.keep _ _ (λg=>by have:=f.st _ g;simp at this) E;have d3:=o.keep _ _ (λg=>by have:=f.st _ g;simp at this) c3;have d5:=o.keep _ _ (λg=>by have:=f.st _ g;simp at this) b5;simp only[qz 28,nlP w,eS,w];refine A0 w z.p.ce O λT v K=>?_;have d3:=v.kq d3;have d5:=v.kq d5;refine dT (by first|rfl|(simp[eL,okT,tok,lb,cq,Qh,aNG,dC,pP,dK];done)) ?_;have P:∀q∈aA t',q∉[((60,C):Id)]:=X;have ap:∀e:Int,aPr Y (60,C) p al n a s t (iv e) T:=(λe=>by refine⟨e,s,t',A,⟨⟨th,K⟩,(f.ga.fx o<|λq g N=>by grind [Wk.sa,Wk.st]).fx v (λq g e=>by grind [Wk.sa]),⟨ls,(R.fx o<|λq g N=>by grind [Wk.ss,Wk.st]).fx v<|λq g e=>bvl,Z⟩,⟨lt++[x.name],by rw[dg];exact z.p.fx v P,NA⟩,f.la,v.len.trans<|o.len.trans f.le,A,f.sa,f.ss,X⟩,((F.trans o).trans v).mono<|λq g=> .inl ?_,λq g=> .inl g,bse⟩;grind);simp only[jB,d3,d5,mj,Fa,aQU,S,aq];exactλ_=>ap _)
theorem baX(W:Wk Y b p al n a s t)(h:PrB p){m x}(j:shS m x)(i:n<100000){d K}(v:∀(e) (s' g) f,Wk f b p al (n+1) a s' g->Fx Y f (b::(aA s++aA t))->(∀q∈aA s',q∈aA s\/bK Y q)->(∀q∈aA g,q∈aA t\/bK Y q)->K (iv e) f):cB 297 [.p b 0 0, .a x.c] Y d K:=jH A (bdl W h j i)<|by rintro r f ⟨e,s',g,rfl,k,l,o,u⟩;grind [Fx.len]
def bS:Nat->Nat|0=>0|m+1=>1+8*bS m
def aR9(Y:ae)(b:Id)(p:bqH)(al:List amt)(n:Nat)(a s t:AV)(r:AV)(c:ae):Prop:=∃(e l:Int) (d s' f:AV),r= .t [iv e,iv l]/\Wk c b p al n d s' f/\Fx Y c (b::(aA a++(aA s++aA t)))/\(∀q∈aA d,q∈aA a\/bK Y q)/\(∀q∈aA s',q∈aA s\/bK Y q)/\∀q∈aA f,q∈aA t\/bK Y q
theorem bc8(hB:PrB p):∀(m:Nat) {Y al} {n:Nat} {a s t l},Wk Y b p al n a s t->shL m 8 l->n+L l*bS m<100000->
  ∃r Y1,aR9 Y b p al (n+L l*bS m) a s t r Y1/\cZ aS GG 271 [.p b 0 0,sl amt.c l] Y r Y1:=by
 intro m
 induction m with
 |zero=>
  intro Y al n a s t l W hs hn
  have:=List.eq_nil_iff_forall_not_mem.2 λx hx=>hs.2 x hx
  subst this
  refine a7S W.le ?_
  simp only[aRq]
  refine yV 0 (λ_ _ Y'=>Y'=Y) A ?_
  rintro k _ Y1 hk rfl
  simp only[qz 19,qy 2,au,eQ,bhZ]
  refine⟨λh=>by simp at h;omega,λ_=>⟨0,0,a,s,t,A,W.mono Z,Fx.refl _ _,λ_ h=> .inl h,λ_ h=> .inl h,λ_ h=> .inl h⟩⟩
 |succ m ih=>
  intro Y al n a s t l W hs hn
  obtain⟨b1,g⟩:=b
  obtain rfl:b1=60:=W.sb
  refine a7S W.le ?_
  simp only[aRq]
  refine yV (L l) (λk _ Y'=>∃D s' F,Wk Y' (60,g) p al (n+k*bS (m+1)) D s' F/\Fx Y Y' ((60,g)::(aA a++(aA s++aA t)))/\(∀q∈aA D,q∈aA a\/bK Y q)/\(∀q∈aA s',q∈aA s\/bK Y q)/\∀q∈aA F,q∈aA t\/bK Y q) (by grind [Fx.refl]) ?_
  rintro k _ Y1 hk ⟨a1,s1,t1,W1,F1,i1,i2,i3⟩
  have cc:k*bS (m+1)<=L l*bS (m+1):=qo _ hk
  have aT:∀(e ln:Int) (D s' F:AV) Y',Wk Y' (60,g) p al (n+L l*bS (m+1)) D s' F->Fx Y Y' ((60,g)::(aA a++(aA s++aA t)))->(∀q∈aA D,q∈aA a\/bK Y q)->(∀q∈aA s',q∈aA s\/bK Y q)->(∀q∈aA F,q∈aA t\/bK Y q)->aRf (aR9 Y (60,g) p al (n+L l*bS (m+1)) a s t) Y' [iv e,iv ln]:=λe ln D s' F Y' h1 h2 h3 h4 h5=>⟨e,ln,D,s',F,A,h1,h2,h3,h4,h5⟩
  simp only[qz 19,qy 2,au,eQ,mV,bh]
  refine⟨λh=>⟨vp h,aRA A brR H (by rw[W1.le];decide) λv s2 F2 N2 aQ=>?_⟩,X⟩
  have av:=aL h
  have W2:=W1.fx0 F2
  have hx:=hs.2 _<|dB av
  obtain⟨m',cq,g1,g2⟩:=hx.body
  obtain rfl:m=m':=Z
  have bG:n+k*bS (m+1)+(1+8*bS m)<=n+L l*bS (m+1):=by
   have h9:(k+1)*bS (m+1)<=L l*bS (m+1):=qo _ av
   grind [tN,bS]
  have n7:∀{D s' F:AV} {Y':ae} {bm:List amt} {n':Nat},Wk Y' (60,g) p bm n' D s' F->∀(v:Nat),((7,v):Id)∉((60,g):Id)::(aA D++(aA s'++aA F)):=λW v o=>by
   simp only[eW,dF,iK] at o
   obtain h|h|h|h:=o
   ·omega
   ·have:=W.sa _ h;simp at this
   ·have:=W.ss _ h;simp at this
   ·have:=W.st _ h;simp at this
  generalize cs:gd l k=x at*
  simp only[qz 4,eQ,aQ,J9]
  refine baX W2 hB hx Z λe s3 t3 Y3 z F3 j2 j3=>?_
  have b3:=F3.keep _ _ (λo=>n7 W2 v (by simp only[eW,dF] at o⊢;obtain h|h|h:=o;exact .inl h;exact .inr<|.inr<|.inl h;exact .inr<|.inr<|.inr h)) aQ
  have af:Fx Y Y3 ((60,g)::(aA a++(aA s++aA t))):=((F1.trans F2).trans F3).mono aUw
  have aW:∀q∈aA s3,q∈aA s\/bK Y q:=bse
  have aZ:∀q∈aA t3,q∈aA t\/bK Y q:=bse
  obtain⟨th,ao⟩:=z.bx
  have br:=z.la
  have ew:dq.wrap ((L al:Int)+1)=((L al+1:Nat):Int):=fX Z
  simp+contextual only[qz 6,bh0,qz 59,qz 57,qy 8,au,nlP ao,eS,ao,iF,bkl,bc5,z.ga.ln,bJ,b3,J9,ew,Int.reduceEq,btD,bCa,bqQ,↓iC]
  have ah:=λe ln=>aT e ln _ _ _ _ (z.mono Z) af i1 aW aZ
  refine⟨λ_=>ah _ _,λh6=>⟨λ_=>ah _ _,λ_=>?_⟩⟩
  have cp:L al+1<=6:=X
  have bu:aX bs4 1 Y3 [(0,.a [iv 0,iv 0,sv [],sv [],.l [] U U,iv 0,iv 0,sv [],.l [] U U,.l [] U U,.l [] U U])]=V (.l [bs4] U U,Y3):=a7c
  simp only[bu,bQ]
  refine apQ z.ga z.le (qW λ_=>brR) O O NA λa4 Y4 g4 F4 N4=>?_
  obtain⟨h8,_⟩|⟨q,bq,o⟩:=g4
  ·simp at h8
  subst bq
  have aU:=(N4 q aBY).2
  have bA:=(N4 q aBY).1
  obtain⟨q1,q2⟩:=q
  simp only at aU
  subst aU
  have na:∀{u:Nat} {r:Nat},r≠42->((r,u):Id)∉aA a1:=λj o=>j<|z.sa _ o
  have b4:=F4.keep _ _ (na H) b3
  have bs:=F4.keep _ _ (na H) ao
  have aG:L (al.map amt.c++[bs4])=L al+1:=O
  have bv:∀{K:J3},K (.p (42,q2) (L al) 0)->rV (cz 11 Y4 (.m (42,q2)<|L<|al.map amt.c++[bs4])<|iv (L al:Int)) K:=λ{K} hK=>by
   simp only[cz,Int.natCast_nonneg,a6F,o,a6X,bh,aG,Nat.lt_succ_self,aNR,rV]
   exact hK
  simp only[qz 10]
  refine bv ?_
  refine stG o O (λr j=>by simp only[dF,dN,cE] at j;obtain⟨y,_,rfl⟩|rfl:=j;exact brR;rfl) brR bqK bqK bqK λY5 F5 aV=>?_
  have a5:(al.map amt.c++[bs4]).set (L al) (amt.c x)=(al++[x]).map amt.c:=by
   have:=bfa (l:=al.map amt.c) (x:=bs4) (y:=amt.c x)
   rw[bJ] at this
   rw[this];simp
  rw[a5] at aV
  have b5:=F5.kq b4
  have ac:=F5.kq bs
  simp only[qz 12,nlP ac,eS,ac]
  refine A0 ac A O λY6 F6 bt=>?_
  have b6:=F6.kq b5
  have cr:=F6.kq aV
  have bz:aNG (.a x.c)=[]:=bqK
  refine dT (by simp only[lbV,aBG,ac,o,a6F,eE,btd,Cz,RN,bz];simp[eL,lb,aNG,dC,dK]) ?_
  have ag:Fx Y3 Y6 (aA a1++[(60,g)]):=((F4.trans F5).trans F6).mono λr j=>by
   simp only[dF,cE] at j⊢
   grind [bK.no]
  have bb:=(af.trans ag).mono λr j=>by
   obtain h|h:=dF.1 j
   ·exact .inl h
   ·obtain h|h:=dF.1 h
    ·obtain h|h:=i1 r h
     ·grind
     ·exact .inr h.no
    grind
  have aR:∀r:Id,r.1≠42->r.1≠60->r∉aA a1++[((60,g):Id)]:=X
  obtain⟨ls,gs,ar⟩:=z.gs
  obtain⟨lt,an,ab⟩:=z.gt
  have W6:Wk Y6 (60,g) p (al++[x]) (n+k*bS (m+1)+1) (.m (42,q2)<|L<|al.map amt.c++[bs4]) s3 t3:=by
   refine⟨⟨th,bt⟩, .inr ⟨(42,q2),[],O,X⟩,⟨ls,gs.fx ag<|λr j=>aR r bvl bvl,ar⟩,⟨lt,an.fx ag<|λr j=>aR r bvk bvk,ab⟩,NA,F6.len.trans<|F5.len.trans<|F4.len.trans z.le,A,aBY,z.ss,z.st⟩
  have a6:=bA.old af
  have ak:∀{C:ae} {N:Nat} {R E G:AV} {l':List amt} {d:Nat} {K:be},Wk C (60,g) p (al++[x]) N R E G->shL m 4 l'->N<=n+k*bS (m+1)+(1+4*bS m)->Fx Y C ((60,g)::(aA a++(aA s++aA t)))->(∀q∈aA R,q∈aA a\/bK Y q)->(∀q∈aA E,q∈aA s\/bK Y q)->(∀q∈aA G,q∈aA t\/bK Y q)->
    (∀(e ln:Int) (P s9 t9:AV) (M:ae),Wk M (60,g) p (al++[x]) (N+4*bS m) P s9 t9->Fx C M ((60,g)::(aA R++(aA E++aA G)))->Fx Y M ((60,g)::(aA a++(aA s++aA t)))->(∀q∈aA P,q∈aA a\/bK Y q)->(∀q∈aA s9,q∈aA s\/bK Y q)->(∀q∈aA t9,q∈aA t\/bK Y q)->K (.t [iv e,iv ln]) M)->cB 271 [.p (60,g) 0 0,sl amt.c l'] C d K:=by
   intro C N R E G l' d K B aq hN F8 az S T hK
   have h4:L l'*bS m<=4*bS m:=qo _ aq.1
   refine jH A (ih B ⟨by have:=aq.1;omega,aq.2⟩ Z) ?_
   rintro r M ⟨e,ln,P,s9,t9,rfl,W9,w,v1,v2,v3⟩
   refine⟨w.len,hK e ln P s9 t9 M (W9.mono Z) w ((F8.trans w).mono λr j=>?_) (λq o=>(v1 q o).elim (az q) λh=> .inr<|h.old F8) (λq o=>(v2 q o).elim (S q) λh=> .inr<|h.old F8)<|λq o=>(v3 q o).elim (T q) λh=> .inr<|h.old F8⟩
   obtain h|h:=dF.1 j
   ·exact .inl h
   ·simp only[eW,dF] at h⊢
    obtain h|h|h|h:=h
    ·grind
    ·exact(az r h).elim X λh=> .inr h.no
    ·exact(S r h).elim X λh=> .inr h.no
    ·exact(T r h).elim X λh=> .inr h.no
  simp only[eS,b6,J9]
  refine ak W6 g1 Z bb (by simp[aA];exact .inr a6) aW aZ λe' ln P s9 t9 M W9 G9 w v1 v2 v3=>?_
  have b9:=G9.keep _ _ (n7 W6 v) b6
  simp only[qz 16,rr,aY]
  refine bpF (λf=>∀(e ln:Int) {C:ae} {N:Nat} {R E G:AV},Wk C (60,g) p (al++[x]) N R E G->N<=n+k*bS (m+1)+(1+8*bS m)->Fx Y C ((60,g)::(aA a++(aA s++aA t)))->(∀q∈aA R,q∈aA a\/bK Y q)->(∀q∈aA E,q∈aA s\/bK Y q)->(∀q∈aA G,q∈aA t\/bK Y q)->f [iv e,iv ln] C) ?_ λf aw=>?_
  ·intro e ln C N R E G B hN F8 az S T
   obtain⟨th,ap⟩:=B.bx
   have e1:dq.wrap (((L al+1:Nat):Int)-1)=(L al:Int):=brE
   simp only[qz 99,nlP ap,eS,ap,iF,bkl,bc5,B.ga.ln,bJ,a6G,bZ,bhZ,e1]
   refine slP B.ga Z NA λP g9 i9=>?_
   have ht:((al++[x]).map amt.c).take ((L al:Int).toNat)=al.map amt.c:=O
   rw[ht] at g9
   refine A0 ap g9.ce O λM w b9=>?_
   have d9:∀r:Id,r.1≠60->r∉[((60,g):Id)]:=X
   obtain⟨ls,gs,ar⟩:=B.gs
   obtain⟨lt,an,ab⟩:=B.gt
   have W9:Wk M (60,g) p al N P E G:=⟨⟨th,b9⟩,g9.fx w<|λr j=>(by grind [Wk.sa]),⟨ls,gs.fx w<|λr j=>bvl,ar⟩,⟨lt,an.fx w<|λr j=>bvk,ab⟩,br,w.len.trans B.le,A,λr j=>B.sa r<|i9▸j,B.ss,B.st⟩
   have aP:=(F8.trans w).mono λr j=>by
    obtain h|h:=dF.1 j
    ·exact .inl h
    ·exact .inl (by simp at h;simp[h])
   have u9:∀q∈aA P,q∈aA a\/bK Y q:=X
   simp only[qz 20,au,eQ]
   refine⟨λ_=>aT _ _ _ _ _ _ (W9.mono Z) aP u9 S T,λ_=>?_⟩
   refine dR (mk:=λ_ i=>[iv i]) (s:=()) (s':=()) (λ_ _=>A) av (aYF hs.1) ⟨P,E,G,W9.mono ?_,aP,u9,S,T⟩
   grind [tN,bS]
  simp only[qz 101,eS,b9,J9]
  refine⟨λ_=>?_,λ_=>aw _ _ W9 Z w v1 v2 v3⟩
  refine ak W9 g2 Z w v1 v2 v3 λe2 ct co cu cv cn bi cm ba w1 w2 w3=>?_
  simp only[qz 18,rr,aY]
  exact aw _ _ bi Z ba w1 w2 w3
theorem baR(i:PrB p){m:Nat}{l}(W:Wk Y b p al n a s t)(hs:shL m 8 l)(j:n+L l*bS m<100000){d:Nat}{K}(x:∀(e ln:Int) (g s' h) f,Wk f b p al (n+L l*bS m) g s' h->Fx Y f (b::(aA a++(aA s++aA t)))->(∀q∈aA g,q∈aA a\/bK Y q)->(∀q∈aA s',q∈aA s\/bK Y q)->(∀q∈aA h,q∈aA t\/bK Y q)->K (.t [iv e,iv ln]) f):cB 271 [.p b 0 0,sl amt.c l] Y d K:=jH A (bc8 i m W hs j)<|by rintro r f ⟨e,ln,g,s',h,rfl,k,o,u,v,w⟩;grind [Fx.len]
end
def a7A:dO:=aYb
def a7k:eJ a7A:=aTC
def aWi:=@aQU
section
attribute[local irreducible] aX
def a87:=I9 37 [(18,([8,9],[1])),(28,([11],[1,10]))]
def bgF{c0}:=y1 217 2 1 a7k func206 a87 c0 [.a c0]
end
def bdo{p}(f:shP p):Ct 206 [.a p.c] aQ1:=by
 have g:=f.1
 have S:=g.1
 have h2:=g.2.1
 refine bgF A λs2 T i h0=>?_
 simp+contextual only[jB,i,o0,aWi,f,S,g,aO2,FA]
 intros
 refine yh (λs:Int×Nat=>[iv s.1,iv s.2]) 1 (L p.ay) (λ_=>True) (0,0) trivial ?_
 rintro⟨c,k⟩ _
 simp+contextual only[qz 109,au,fQ,i,mV,bh,aWi,aO2,FA]
 refine⟨λh=>⟨vp h,⟨4,(f.2.2 _<|dB<|aL h).2⟩,λx=>wN (enc:=λs:Int×Nat=>[iv s.1,iv s.2]) (s:=(c,k)) (s':=(_,k+1)) (by rw[fX X]) A rfl (aL h) trivial⟩,λ_ _=>?_⟩
 have y:bM byy [(0,2),(2,1),(3,1),(4,1),(5,1)] [(0, .a p.c)]=V (.a [sl bmK.c p.brP,sl bj9.c p.ay,iv 0, .l [] U U, .l [] U U, .l [] U U]):=A
 simp only[y,aY]
 refine bxL A H Z λv s3 n N3 N=>?_
 have z:=n.len.trans T
 have W3:Wk s3 (60,v) p [] 0 (.l [] U U) (.l [] U U) (.l [] U U):=⟨⟨0,N⟩, .inl ⟨A,A⟩,⟨[], .inl ⟨A,A⟩,O⟩,⟨[], .inl ⟨A,A⟩,O⟩,O,z,A,aBY,aBY,aBY⟩
 have c3:=n.kq i
 refine yV (L p.ay) (λk _ Y=>∃a s t,Wk Y (60,v) p [] (k*10000) a s t/\box Y (1,1)=V ⟨217,2,U,U,[p.c]⟩) X ?_
 rintro k _ Y hk ⟨a,s,t,W,o⟩
 obtain⟨th,j⟩:=W.bx
 simp only[qz 169,au,eS,o,nlP j,j,J9,rr,aO2,FA,aRI]
 intro h
 have d:=aL h
 have E:=f.2.2 _<|dB d
 have ae:=f.2.1
 refine A0 j A O λs4 b P=>?_
 have q:=b.kq o
 have G:Wk s4 (60,v) p [] (k*10000) a s t:=by
  obtain⟨ls,u,B⟩:=W.gs
  obtain⟨lt,w,m⟩:=W.gt
  have d9:∀r:Id,r.1≠60->r∉[((60,v):Id)]:=vB
  exact⟨⟨k,P⟩,W.ga.fx b<|λr D=>(by grind [Wk.sa]),⟨ls,u.fx b<|λr D=>bvl,B⟩,⟨lt,w.fx b<|λr D=>bvk,m⟩,W.la,b.len.trans W.le,A,W.sa,W.ss,W.st⟩
 simp only[qz 6,eT,q,J9,ixv,bh]
 have ad:bS 4=585:=A
 have hm:L (gd p.ay k).body*bS 4<=8*bS 4:=qo _ E.2.1
 refine⟨dJ d,baR g G E.2 Z λe ln M s' t' s5 K F _ _ _=>?_⟩
 have R:=F.keep _ _ (λC=>by
  simp only[eW,dF,iK] at C
  obtain h|h|h|h:=C
  ·omega
  ·have:=W.sa _ h;simp at this
  ·have:=W.ss _ h;simp at this
  ·have:=W.st _ h;simp at this) q
 simp only[qz 8,au,jZ,rr,aO2,FA]
 exactλ_=>yU d ⟨M,s',t',K.mono Z,R⟩
def a59{p}(f:shP p):∃x:Int×Int,Ct 206 [.a p.c] (·= .t [iv x.1,iv x.2]):=by obtain⟨r,⟨e,l,rfl⟩,b,d⟩:=bdo f;exact⟨(e,l),_,A,b,d⟩
noncomputable def chk(p:bqH):Int×Int:=@dite _ (shP p) (Classical.propDecidable _) (λh=>Classical.choose<|a59 h) λ_=>(0,0)
def aW1(p)(b:shP p):Ct 206 [.a p.c] (·= .t [iv (chk p).1,iv (chk p).2]):=by rw[chk,dif_pos b];exact Classical.choose_spec<|a59 b
def aRi:FT:=mT aW1
def bbJ:=oK aRi aW1 (j:=bsg)
def a7B:dO:=(206,aRi)::a7A
def aX4:eJ a7B:=asq (pg aW1)<|a7k
def aWj:=ai @bbJ<|@aWi
section
attribute[local irreducible] aX
def a9E:=I9 11 [(3,([0,2,10],[1,3]))]
def a7U{a a1 b c}:=yB aX4 func273 a9E [a,a1,b,c]
def a9q:=I9 32 [(8,([6],[1,2,3])),(11,([],[1,2,3,6])),(14,([39],[1,2,3,6,7,31])),(17,([8],[1,2,3,6,7])),(21,([65],[1,2,3,6,7,31])),(26,([9],[1,2,3]))]
def bgY{c0}:=y1 217 2 1 aX4 func207 a9q c0 [.a c0]
end
def SiR(Y:ae)(a:AV)(N:Nat)(r:AV)(d:ae):Prop:=∃(a':AV) (e:Int) (l':List dL),r= .t [a',iv e]/\J7 d 125 3 a' (l'.map dL.c)/\L l'<=N/\Fx Y d (aA a)/\(∀q∈aA a',q∈aA a\/bK Y q)/\∀q∈aA a',q∈aA a\/q.1=27
def bdu(u:Int):∀(m:Nat) {Y a} {n:Int} {l:List dL} {st},L Y=4096->J7 Y 125 3 a (l.map dL.c)->shL m 8 st->L l+L st*bS m<100000->
  ∃r f,SiR Y a (L l+L st*bS m) r f/\cZ aS GG 273 [a,iv u,iv n,sl amt.c st] Y r f:=by
 intro m
 induction m with
 |zero=>
  intro Y a n l st y g hs hn
  have:=List.eq_nil_iff_forall_not_mem.2 λx S=>hs.2 x S
  subst this
  refine a7U y ?_
  refine jD (α:=AV×Int) (λs i=>[s.1,iv s.2,iv i]) 2 0 (λ_ s Y'=>Y'=Y/\s.1=a) (s0:=(a,n)) ⟨A,A⟩ ?_
  rintro k ⟨a',n'⟩ f hk ⟨rfl,rfl⟩
  simp only[qz 19,qy 2,au,eQ,bhZ]
  exact⟨λh=>by simp at h;omega,λ_=>⟨_,_,l,A,g,Z,Fx.refl _ _,λ_ h=> .inl h,λ_ h=> .inl h⟩⟩
 |succ m ih=>
  intro Y a n l st y g hs hn
  refine a7U y ?_
  refine jD (α:=AV×Int) (λs i=>[s.1,iv s.2,iv i]) 2 (L st) (λk s Y'=>∃l':List dL,J7 Y' 125 3 s.1 (l'.map dL.c)/\L l'<=L l+k*bS (m+1)/\Fx Y Y' (aA a)/\(∀q∈aA s.1,q∈aA a\/bK Y q)/\∀q∈aA s.1,q∈aA a\/q.1=27) (s0:=(a,n)) (by grind [Fx.refl]) ?_
  rintro k ⟨a1,o⟩ f hk ⟨l1,g1,aG,P,i1,p1⟩
  simp only at g1 i1 p1
  have z:=P.len.trans y
  simp only[qz 19,qy 2,au,eQ,gS,bh,rk]
  refine⟨λh=>⟨vp h,?_⟩,λh=>⟨a1,o,l1,A,g1,X,P,i1,p1⟩⟩
  have e:=aL h
  have S:=hs.2 _<|dB e
  obtain⟨m',aM,b1,b2⟩:=S.body
  obtain rfl:m=m':=Z
  have am:L l+k*bS (m+1)+(1+8*bS m)<=L l+L st*bS (m+1):=by
   have h9:(k+1)*bS (m+1)<=L st*bS (m+1):=qo _ e
   grind [bS]
  generalize N:gd st k=x at*
  have ac:bM bwK aM7 [(0,iv u),(1,iv o),(2,iv x.line)]=V (.a<|dL.c ⟨u,o,x.line⟩):=A
  have ad:aX bwK 1 f [(0, .a<|dL.c ⟨u,o,x.line⟩)]=V (.l ([(⟨u,o,x.line⟩:dL)].map dL.c) U U,f):=ua A rfl rfl H A H
  simp only[ac,aY,ad,bQ]
  refine apQ g1 z (by grind [dL.c]) (by grind [dL.c]) O NA λa2 Y2 g2 W N2=>?_
  have ay:=W.len.trans z
  rw[<-dg] at g2
  have T:Fx Y Y2 (aA a):=(P.trans W).mono aUw
  have v:∀{E:ae} {a3:AV} {n3:Int} {F:List dL} {M:List amt} {d:Nat} {K:be},J7 E 125 3 a3 (F.map dL.c)->shL m 4 M->L F<=L l+k*bS (m+1)+(1+4*bS m)->Fx Y E (aA a)->(∀q∈aA a3,q∈aA a\/bK Y q)->(∀q∈aA a3,q∈aA a\/q.1=27)->
    (∀(a4:AV) (G:Int) (C:List dL) (j:ae),J7 j 125 3 a4 (C.map dL.c)->L C<=L F+4*bS m->Fx Y j (aA a)->(∀q∈aA a4,q∈aA a\/bK Y q)->(∀q∈aA a4,q∈aA a\/q.1=27)->K (.t [a4,iv G]) j)->cB 273 [a3,iv u,iv n3,sl amt.c M] E d K:=by
   intro E a3 n3 F M d K g3 B aJ F3 i3 p3 hK
   have h4:L M*bS m<=4*bS m:=qo _ B.1
   refine jH A (ih (F3.len.trans y) g3 ⟨by have:=B.1;omega,B.2⟩ Z) ?_
   rintro r j ⟨a4,G,C,rfl,R,af,D,i4,p4⟩
   exact⟨D.len,hK a4 G C j R Z ((F3.trans D).mono aUw) bse X⟩
  simp only[qz 4,au,eQ,gS,bh,rk,N]
  refine⟨dJ e,v g2.p b1 NA T bse X λa4 G C j R af D i4 p4=>?_⟩
  simp only[qz 6,au,rr,eQ,ixv,bh,J9,N]
  refine⟨dJ e,v R b2 X D i4 p4 λa5 n5 l5 Y5 g5 aK F5 i5 p5=>?_⟩
  simp only[qz 8,au,rr,eQ]
  refine dR (mk:=λ(s:AV×Int) i=>[s.1,iv s.2,iv i]) (s:=(a1,o)) (s':=(a5,n5)) (λ_ _=>A) e (aYF hs.1) ⟨l5,g5,?_,F5,i5,p5⟩
  grind [bS]
structure Wo(Y:ae)(b:Id)(w:aOw)(a0 a1 a2 a3 a4 a5:AV):Prop where
 bx:box Y b=V ⟨34,6,U,U,[[a0,a1,a2,a3,a4,a5]]⟩
 g0:J7 Y 119 5 a0 (w.cells.map cA.c)
 g1:J7 Y 121 2 a1 (w.ak.map dS.c)
 g2:J7 Y 123 2 a2 (w.bC.map yp.c)
 g3:J7 Y 9 1 a3 (w.bU.map cs)
 g4:J7 Y 9 1 a4 (w.ay.map cs)
 g5:J7 Y 125 3 a5 (w.dU.map dL.c)
 p0:∀q∈aA a0,q.1=63
 p1:∀q∈aA a1,q.1=77
 p2:∀q∈aA a2,q.1=92
 p3:∀q∈aA a3,q.1=37
 p4:∀q∈aA a4,q.1=110
 p5:∀q∈aA a5,q.1=27
 sb:b.1=3
 le:L Y=4096
section
variable{Y Y':ae}{b:Id}{w:aOw}{a0 a1 a2 a3 a4 a5 a':AV}
theorem Wo.fx0(W:Wo Y b w a0 a1 a2 a3 a4 a5)(F:Fx Y Y' []):Wo Y' b w a0 a1 a2 a3 a4 a5:=⟨F.kq W.bx,W.g0.fx F O,W.g1.fx F O,W.g2.fx F O,W.g3.fx F O,W.g4.fx F O,W.g5.fx F O,W.p0,W.p1,W.p2,W.p3,W.p4,W.p5,W.sb,F.len.trans W.le⟩
theorem bum{p:Prop}(h:p:=by grind [Go.Ab.Wo.p1]):p:=h
theorem bun{p:Prop}(h:p:=by grind [Go.Ab.Wo.p2]):p:=h
theorem buo{p:Prop}(h:p:=by grind [Go.Ab.Wo.p3]):p:=h
theorem bvF{p:Prop}(h:p:=by grind [Go.Ab.Wo.p4]):p:=h
theorem buH{p:Prop}(h:p:=by grind [Go.Ab.Wo.p5]):p:=h
theorem Wo.up0{new}(W:Wo Y b w a0 a1 a2 a3 a4 a5)(d:box Y' b=V ⟨34,6,U,U,[[a',a1,a2,a3,a4,a5]]⟩)(g:lI Y' 119 5 a'<|(w.cells++new).map cA.c)(F:Fx Y Y' (b::aA a0))(N:∀q∈aA a',bK Y q/\q.1=63):Wo Y' b {w with cells:=w.cells++new} a' a1 a2 a3 a4 a5:=by have:∀q:Id,q.1≠3->q.1≠63->q∉b::aA a0:=λq e f a=>(by grind [Wo.sb,Wo.p0]);exact⟨d,g.p,W.g1.fx F<|λq a=>bum,W.g2.fx F<|λq a=>bun,W.g3.fx F<|λq a=>buo,W.g4.fx F<|λq a=>bvF,W.g5.fx F<|λq a=>buH,X,W.p1,W.p2,W.p3,W.p4,W.p5,W.sb,F.len.trans W.le⟩
theorem buI{p:Prop}(h:p:=by grind [Go.Ab.Wo.p0]):p:=h
theorem Wo.up1{new}(W:Wo Y b w a0 a1 a2 a3 a4 a5)(d:box Y' b=V ⟨34,6,U,U,[[a0,a',a2,a3,a4,a5]]⟩)(g:lI Y' 121 2 a'<|(w.ak++new).map dS.c)(F:Fx Y Y' (b::aA a1))(N:∀q∈aA a',bK Y q/\q.1=77):Wo Y' b {w with ak:=w.ak++new} a0 a' a2 a3 a4 a5:=by have:∀q:Id,q.1≠3->q.1≠77->q∉b::aA a1:=λq e f a=>(by grind [Wo.sb,Wo.p1]);exact⟨d,W.g0.fx F<|λq a=>buI,g.p,W.g2.fx F<|λq a=>bun,W.g3.fx F<|λq a=>buo,W.g4.fx F<|λq a=>bvF,W.g5.fx F<|λq a=>buH,W.p0,X,W.p2,W.p3,W.p4,W.p5,W.sb,F.len.trans W.le⟩
theorem Wo.up2{new}(W:Wo Y b w a0 a1 a2 a3 a4 a5)(d:box Y' b=V ⟨34,6,U,U,[[a0,a1,a',a3,a4,a5]]⟩)(g:lI Y' 123 2 a'<|(w.bC++new).map yp.c)(F:Fx Y Y' (b::aA a2))(N:∀q∈aA a',bK Y q/\q.1=92):Wo Y' b {w with bC:=w.bC++new} a0 a1 a' a3 a4 a5:=by have:∀q:Id,q.1≠3->q.1≠92->q∉b::aA a2:=λq e f a=>(by grind [Wo.sb,Wo.p2]);exact⟨d,W.g0.fx F<|λq a=>buI,W.g1.fx F<|λq a=>bum,g.p,W.g3.fx F<|λq a=>buo,W.g4.fx F<|λq a=>bvF,W.g5.fx F<|λq a=>buH,W.p0,W.p1,X,W.p3,W.p4,W.p5,W.sb,F.len.trans W.le⟩
theorem Wo.up3{new}(W:Wo Y b w a0 a1 a2 a3 a4 a5)(c:box Y' b=V ⟨34,6,U,U,[[a0,a1,a2,a',a4,a5]]⟩)(g:lI Y' 9 1 a'<|(w.bU++new).map cs)(F:Fx Y Y' (b::aA a3))(N:∀q∈aA a',bK Y q/\q.1=37):Wo Y' b {w with bU:=w.bU++new} a0 a1 a2 a' a4 a5:=by have:∀q:Id,q.1≠3->q.1≠37->q∉b::aA a3:=λq d e a=>(by grind [Wo.sb,Wo.p3]);exact⟨c,W.g0.fx F<|λq a=>buI,W.g1.fx F<|λq a=>bum,W.g2.fx F<|λq a=>bun,g.p,W.g4.fx F<|λq a=>bvF,W.g5.fx F<|λq a=>buH,W.p0,W.p1,W.p2,X,W.p4,W.p5,W.sb,F.len.trans W.le⟩
theorem Wo.up4{new}(W:Wo Y b w a0 a1 a2 a3 a4 a5)(c:box Y' b=V ⟨34,6,U,U,[[a0,a1,a2,a3,a',a5]]⟩)(g:lI Y' 9 1 a'<|(w.ay++new).map cs)(F:Fx Y Y' (b::aA a4))(N:∀q∈aA a',bK Y q/\q.1=110):Wo Y' b {w with ay:=w.ay++new} a0 a1 a2 a3 a' a5:=by have:∀q:Id,q.1≠3->q.1≠110->q∉b::aA a4:=λq d e a=>(by grind [Wo.sb,Wo.p4]);exact⟨c,W.g0.fx F<|λq a=>buI,W.g1.fx F<|λq a=>bum,W.g2.fx F<|λq a=>bun,W.g3.fx F<|λq a=>buo,g.p,W.g5.fx F<|λq a=>buH,W.p0,W.p1,W.p2,W.p3,X,W.p5,W.sb,F.len.trans W.le⟩
end
def WBd(w:aOw):Prop:=L w.cells<100000/\L w.ak<100000/\L w.bC<100000/\L w.bU<100000/\L w.ay<100000/\L w.dU<100000
def bbe:∀k,k<9->(gd aNF k).size<=4:=H
def rwW{a b c d e f}:aN (V 6) [a,b,c,d,e,f]=V (.a [a,b,c,d,e,f]):=rfl
def aXi(p)(hp:shP p/\p.brP=aNF):Ct 207 [.a p.c] (λr=>∃w:aOw,r= .a w.c/\WBd w/\((chk p).1=0->∃c∈w.cells,c.name=qN)):=by
 obtain⟨hp,hd⟩:=hp
 refine aDq (bgY A λs2 hl b1 h0=>?_)
 simp only[qy 4]
 refine zm hl λv2 s4 F4 N4 b2=>?_
 have aF:=F4.len.trans hl
 refine zm aF λB s6 F6 N6 G=>?_
 have c1:=F6.kq<|F4.kq b1
 have c2:=F6.kq b2
 have bE:=F6.len.trans aF
 have W6:Wo s6 (3,B) ⟨[],[],[],[],[],[]⟩ (.l [] U U) (.l [] U U) (.l [] U U) (.l [] U U) (.l [] U U) (.l [] U U):=⟨G, .inl ⟨A,A⟩, .inl ⟨A,A⟩, .inl ⟨A,A⟩, .inl ⟨A,A⟩, .inl ⟨A,A⟩, .inl ⟨A,A⟩,aBY,aBY,aBY,aBY,aBY,aBY,A,bE⟩
 have aV:∀{Y:ae} {w:aOw} {a0 a1 a2 a3 a4 a5:AV} {r:dM},Wo Y (3,B) w a0 a1 a2 a3 a4 a5->box Y (2,v2)=V ⟨34,6,U,U,[r]⟩->L r=6->WBd w->((chk p).1=0->∃c∈w.cells,c.name=qN)->
   aw 6 Y (.p (3,B) 0 0) λt=>sV (aK 6 Y (.p (2,v2) 0 0) t) λaJ=>aw 6 aJ (.p (2,v2) 0 0) λbf=>aE (λr=>∃w:aOw,bqE r= .a w.c/\WBd w/\((chk p).1=0->∃c∈w.cells,c.name=qN)) aJ [bf]:=by
  intro Y w a0 a1 a2 a3 a4 a5 r W hb hr hB u
  simp only[aC5,W.bx,aww,aBF,df,axE,awx,rwW,aY,↓uL]
  refine stW hb hr A λY' F b'=>?_
  simp only[b',aww,aBF,df,awx,rwW,aY]
  have d:∀q:Id,q.1≠2->q∉[((2,v2):Id)]:=vB
  refine aOv (Q:=λr=>∃w:aOw,r= .a w.c/\WBd w/\((chk p).1=0->∃c∈w.cells,c.name=qN)) (v':= .a w.c) ?_ A ⟨w,A,hB,u⟩
  simp only[fzT,ji,mU,aBr<|W.g0.fx F λq u=>buI,aBr<|W.g1.fx F λq u=>bum,aBr<|W.g2.fx F λq u=>bun,aBr<|W.g3.fx F λq u=>buo,aBr<|W.g4.fx F λq u=>bvF,aBr<|W.g5.fx F λq u=>buH]
  rfl
 simp+contextual only[qz 6,qy 8,hZ,c1,oy,aWj,hp,rr]
 refine⟨λbF=>aV W6 c2 A (by simp[WBd]) (λh=>by simp[h] at bF),λcl=>?_⟩
 have h9:L p.brP=9:=by rw[hd];rfl
 obtain⟨Inv,aC⟩:∃g:Nat->Unit->ae->Prop,g=λk _ Y=>∃(w:aOw) (a0 a1 a2 a3 a4 a5:AV) (r:dM),Wo Y (3,B) w a0 a1 a2 a3 a4 a5/\box Y (1,1)=V ⟨217,2,U,U,[p.c]⟩/\box Y (2,v2)=V ⟨34,6,U,U,[r]⟩/\L r=6/\L w.cells<=4*k/\L w.ak<=k/\L w.bC<=k/\L w.bU<=k/\w.ay=[]/\w.dU=[]/\(3<k->∃c∈w.cells,c.name=qN):=⟨_,A⟩
 refine yV (L p.brP) Inv (by rw[aC];exact⟨_,_,_,_,_,_,_,_,W6,c1,c2,A,O,O,O,O,A,A,O⟩) ?_
 rintro k _ Y hk hi
 rw[aC] at hi
 obtain⟨w,a0,a1,a2,a3,a4,a5,r,W,d1,d2,hr,n0,n1,n2,n3,n4,n5,u⟩:=hi
 simp only[qz 49,au,gp,d1]
 refine⟨λh=>bsf (λe=>∀{Y':ae} {w':aOw} {x0 x1 x2 x3 x4 x5:AV},Wo Y' (3,B) w' x0 x1 x2 x3 x4 x5->box Y' (1,1)=V ⟨217,2,U,U,[p.c]⟩->box Y' (2,v2)=V ⟨34,6,U,U,[r]⟩->L w'.cells<=4*(k+1)->L w'.ak<=k+1->L w'.bC<=k+1->L w'.bU<=k+1->w'.ay=[]->w'.dU=[]->(3<k+1->∃c∈w'.cells,c.name=qN)->e [] Y') ?_ λe al=>?_,λh=>?_⟩
 ·intro Y' w' x0 x1 x2 x3 x4 x5 g1 g2 v g4 g5 g6 g7 g8 g9 ci
  simp only[qz 69,au,eQ]
  exact yU (aL h) X
 ·simp only[qz 71,qy 10,ox,d1,bh]
  refine⟨vp h,anu W.le λv7 S F1 N1 e7=>?_⟩
  have ag:=aL h
  have m:=W.fx0 F1
  have e1:=F1.kq d1
  have e2:=F1.kq d2
  have cp:(gd p.brP k).size<=4:=by rw[hd];exact bbe k Z
  have co:k=3->(gd p.brP k).kind=1/\(gd p.brP k).name=qN:=by rintro rfl;rw[hd];exact⟨A,A⟩
  generalize ck:gd p.brP k=i at*
  have ep:∀{Y':ae} {j:Nat} {a:AV} {T z:Nat} {bq:Bool} {rs:List (dM)} {q:Id},Fx S Y' ((3,B)::aA a)->(∀q∈aA a,q.1=j)->q.1≠3->q.1≠j->box S q=V ⟨T,z,U,bq,rs⟩->box Y' q=V ⟨T,z,U,bq,rs⟩:=λF hj D cm hb=>F.keep _ _ X hb
  have nb:∀{a:AV} {j:Nat},(∀q∈aA a,q.1=j)->j≠3->((3,B):Id)∉aA a:=X
  have ah:k≠3->3<k+1->∃c∈w.cells,c.name=qN:=X
  have bu:dG S a1=sl dS.c w.ak:=m.g1.ar
  have N:∀{a:AV} {j:Nat},(∀q∈aA a,q.1=j)->∀q:Id,q.1≠3->q.1≠j->q∉((3,B):Id)::aA a:=X
  have kc:(i.kind=1\/i.kind=2)\/(i.kind=3\/i.kind=4)\/i.kind=5\/(i.kind≠1/\i.kind≠2/\i.kind≠3/\i.kind≠4/\i.kind≠5):=Z
  have aD:i.kind≠1->k≠3:=Z
  obtain h|h|h|⟨h1,h2,D,h4,h5⟩:=kc
  ·obtain h|h:=h
   all_goals
    simp only[qz 12,bh0,qz 89,qz 87,qz 131,qz 129,qy 20,qy 32,au,eS,e7,m.bx,J9,ar,eE,sr,mb,h,bqQ,bqF,Int.reduceEq,↓iC,↓iB]
    obtain⟨M,hM⟩:∃M:Int,M=if 1>i.size then 1 else i.size:=⟨_,A⟩
    have cj:1<=M/\M<=4:=Z
    refine yV M.toNat (λk2 _ Y'=>∃(new:List cA) (x0:AV),Wo Y' (3,B) {w with cells:=w.cells++new} x0 a1 a2 a3 a4 a5/\box Y' (1,1)=V ⟨217,2,U,U,[p.c]⟩/\box Y' (2,v2)=V ⟨34,6,U,U,[r]⟩/\box Y' (7,v7)=V ⟨347,6,U,U,[i.c]⟩/\L new=k2/\(0<k2->∃c∈new,c.name=i.name)) ⟨[],a0,by simpa using m,e1,e2,e7,A,O⟩ ?_
    rintro k2 _ Y2 cn ⟨new,x0,s,f1,f2,f7,bd,bG⟩
    simp only[qz 103,qy 14,au,eS,f7,s.bx,J9,aRW,<-hM]
    refine⟨λh2=>?_,λh2=>?_⟩
    ·have bc:k2<M.toNat:=X
     have ac:bM bwH aOG [(0,st i.name),(1,iv k2),(2,iv i.size),(3,bv<|Q<|i.kind=2),(4,iv i.init)]=V (.a<|cA.c ⟨i.name,k2,i.size,Q<|i.kind=2,i.init⟩):=A
     have C:∀{x:cA},aX bwH 1 Y2 [(0, .a<|cA.c x)]=V (.l ([x].map cA.c) U U,Y2):=λ{x}=>ua A rfl rfl H A H
     simp only[ac,aY,C,bQ]
     refine gfP (j:=0) s.bx O s.g0 (nb s.p0 H) A H (by rw[s.le];decide) (qW (f:=cA.c) (z:=5) λ_=>A) (qW (f:=cA.c) (z:=5) λ_=>A) O NA O λa' Y3 G v o R=>?_
     simp only[qz 18,au,eQ]
     rw[<-dg] at v
     have N:∀{q:Id},q.1≠3->q.1≠63->q∉((3,B):Id)::aA x0:=λD bt u=>by
      obtain h|h:=eW.1 u
      ·rw[h] at D;exact D A
      ·exact bt (s.p0 _ h)
     have y:=s.up0 (new:=[⟨i.name,k2,i.size,Q<|i.kind=2,i.init⟩]) G v o R
     refine yU bc ⟨new++[⟨i.name,k2,i.size,Q<|i.kind=2,i.init⟩],a',X,o.keep _ _ X f1,o.keep _ _ X f2,o.keep _ _ X f7,by simp[bd],O⟩
    ·have cd:k2=M.toNat:=X
     refine al s f1 f2 NA X X X n4 n5 λD=>?_
     by_cases h4:k=3
     ·obtain⟨c,hc,bw⟩:=bG Z
      grind
     ·obtain⟨c,hc,bw⟩:=ah h4 D
      grind
  ·have D:=aD Z
   obtain h|h:=h
   all_goals
    simp only[qz 12,bh0,qz 89,qz 87,qz 131,qz 129,qy 20,qy 32,au,eS,e7,m.bx,J9,ar,eE,sr,mb,h,bqQ,bqF,Int.reduceEq,↓iC,↓iB]
    have ac:∀{rw:Bool},bM bwI bqW [(0,st i.name),(1,bv rw)]=V (.a<|dS.c ⟨i.name,rw⟩):=λ{rw}=>A
    have C:∀{x:dS},aX bwI 1 S [(0, .a<|dS.c x)]=V (.l ([x].map dS.c) U U,S):=λ{x}=>ua A rfl rfl H A H
    simp only[ac,aY,C,bQ]
    refine gfP (j:=1) m.bx O m.g1 (nb m.p1 H) A H (by rw[m.le];decide) (qW (f:=dS.c) (z:=2) λ_=>A) (qW (f:=dS.c) (z:=2) λ_=>A) O NA O λa' Y3 G v o R=>?_
    rw[<-dg] at v
    exact al (m.up1 (new:=[⟨i.name,_⟩]) G v o R) (o.keep _ _ (N m.p1 _ O O) e1) (o.keep _ _ (N m.p1 _ O O) e2) X NA X X n4 n5<|ah D
  ·have D:=aD Z
   simp only[qz 12,bh0,qz 89,qz 87,qz 131,qz 129,qy 20,qy 26,au,eS,e7,m.bx,J9,bu,ar,aWj,rr,eE,fL,h,bqQ,bqF,Int.reduceEq,↓iC,↓iB]
   refine⟨Z,λx=>?_⟩
   have ac:bM bwJ bqW [(0,st i.name),(1,iv x)]=V (.a<|yp.c ⟨i.name,x⟩):=A
   have C:∀{x:yp},aX bwJ 1 S [(0, .a<|yp.c x)]=V (.l ([x].map yp.c) U U,S):=λ{x}=>ua A rfl rfl H A H
   simp only[ac,aY,C,bQ]
   refine gfP (j:=2) m.bx O m.g2 (nb m.p2 H) A H (by rw[m.le];decide) (qW (f:=yp.c) (z:=2) λ_=>A) (qW (f:=yp.c) (z:=2) λ_=>A) O NA O λa' Y3 G v o R=>?_
   rw[<-dg] at v
   simp only[qz 30]
   refine dT (by first|rfl|(simp[eL,okT,tok,lb,cq,Qh,aNG,dC,pP,dK];done)) ?_
   exact al (m.up2 (new:=[⟨i.name,x⟩]) G v o R) (o.keep _ _ (N m.p2 _ O O) e1) (o.keep _ _ (N m.p2 _ O O) e2) X X NA X n4 n5<|ah D
  ·simp only[qz 12,bh0,qz 89,qz 87,qz 131,qz 129,qy 20,qy 32,au,eS,e7,m.bx,J9,ar,eE,fL,h1,h2,D,h4,h5,bqF,↓iB]
   have D:=aD h1
   have C:aX zd9 1 S [(0,st i.name)]=V (.l ([i.name].map cs) U U,S):=iz
   simp only[C,bQ]
   refine gfP (j:=3) m.bx O m.g3 (nb m.p3 H) A H (by rw[m.le];decide) oX oX O NA O λa' Y3 G v o R=>?_
   rw[<-dg] at v
   exact al (m.up3 (new:=[i.name]) G v o R) (o.keep _ _ (N m.p3 _ O O) e1) (o.keep _ _ (N m.p3 _ O O) e2) X X X NA n4 n5<|ah D
 ·have bB:k=9:=X
  subst bB
  clear hk h
  refine yV (L p.ay) (λk _ Y=>∃(P:aOw) (a4 a5:AV),Wo Y (3,B) P a0 a1 a2 a3 a4 a5/\P.cells=w.cells/\P.ak=w.ak/\P.bC=w.bC/\P.bU=w.bU/\box Y (1,1)=V ⟨217,2,U,U,[p.c]⟩/\box Y (2,v2)=V ⟨34,6,U,U,[r]⟩/\L P.ay<=k/\L P.dU<=k*5000) X ?_
  rintro k _ Y2 hk ⟨P,x4,x5,s,w0,w1,w2,w3,f1,f2,m4,m5⟩
  have cr:=hp.2.1
  simp only[qz 157,qy 38,qy 48,au,eT,f1,s.bx,J9,ixv,bh]
  refine⟨λh=>⟨vp h,?_⟩,λh=>?_⟩
  rotate_left
  ·have:=aV s f2 hr (by simp only[WBd,w0,w1,w2,w3];omega) (λ_=>by rw[w0];exact u Z)
   simp only[u1,s.bx,J9,↓uL] at this
   exact this
  have ag:=aL h
  have aU:=(hp.2.2 _<|dB ag).2
  generalize bH:gd p.ay k=tk at*
  have C:aX zd9 1 Y2 [(0,st tk.name)]=V (.l ([tk.name].map cs) U U,Y2):=iz
  simp only[C,bQ]
  have nb:∀{a:AV} {j:Nat},(∀q∈aA a,q.1=j)->j≠3->((3,B):Id)∉aA a:=X
  have N:∀{a:AV} {j:Nat},(∀q∈aA a,q.1=j)->∀q:Id,q.1≠3->q.1≠j->q∉((3,B):Id)::aA a:=X
  refine gfP (j:=4) s.bx O s.g4 (nb s.p4 H) A H (by rw[s.le];decide) oX oX O NA O λa' Y3 G v o R=>?_
  rw[<-dg] at v
  have y:=s.up4 (new:=[tk.name]) G v o R
  have h1:=o.keep _ _ (N s.p4 _ O O) f1
  have h2:=o.keep _ _ (N s.p4 _ O O) f2
  have b9:bS 4=585:=A
  have hm:L tk.body*bS 4<=8*bS 4:=qo _ aU.1
  simp only[qz 42]
  refine dT (by first|rfl|(simp[eL,okT,tok,lb,cq,Qh,aNG,dC,pP,dK];done)) ?_
  simp only[eT,y.bx,h1,J9,ixv,bh,bH]
  refine⟨dJ ag,jH A (bdu k 4 (n:=0) y.le y.g5 aU X) ?_⟩
  rintro ct Y4 ⟨aN,n',l',rfl,g4,aF,F4,i4,p4⟩
  refine⟨F4.len,?_⟩
  have p5:∀q∈aA aN,q.1=27:=λq u=>buH
  have br:∀q:Id,q.1≠27->q∉aA x5:=λq h u=>h<|y.p5 q u
  have b4:=F4.keep _ _ (br _ O) y.bx
  simp only[qz 44,rr,aY,u1,b4,aj]
  refine A0 b4 g4.ce O λY5 F5 b5=>?_
  simp only[qz 46]
  refine dT (by first|rfl|(simp[eL,okT,tok,lb,cq,Qh,aNG,dC,pP,dK];done)) ?_
  have ch:∀q:Id,q.1≠3->q∉[((3,B):Id)]:=X
  have E:Fx Y3 Y5 (aA x5++[(3,B)]):=F4.trans F5
  have K:∀q:Id,q.1≠27->q.1≠3->q∉aA x5++[((3,B):Id)]:=X
  have W5:Wo Y5 (3,B) {P with ay:=P.ay++[tk.name],dU:=l'} a0 a1 a2 a3 a' aN:=⟨b5,y.g0.fx E<|λq u=>K q buI buI,y.g1.fx E<|λq u=>K q bum bum,y.g2.fx E<|λq u=>K q bun bun,y.g3.fx E<|λq u=>K q buo buo,y.g4.fx E<|λq u=>K q X X,g4.fx F5 X,y.p0,y.p1,y.p2,y.p3,y.p4,p5,A,F5.len.trans<|F4.len.trans y.le⟩
  simp only[eQ]
  refine yU ag ⟨_,a',aN,W5,w0,w1,w2,w3,E.keep _ _ X h1,E.keep _ _ X h2,NA,?_⟩
  grind
def aUd:FT:=om aXi
def bb0:=aUy aUd aXi (j:=bsg)
def aYc:dO:=(207,aUd)::a7B
def aX5:eJ aYc:=asq (rj aXi)<|aX4
def aQV:=ai @bb0<|@aWj
section
attribute[local irreducible] aX
def a5E:=I9 28 [(7,([7],[2,3,4,5,6])),(13,([],[2,3,4,5,6,7,8])),(16,([9],[2,3,4,5,6,7,8])),(21,([],[2,3,4,5,6,7,8]))]
def aUA a s0 R:=(.mk _:NF<|zF GGV aYc a5E Tryz.f126 [a] [] s0<|I3 Tryz.f126 R).p
def bgf{a:AV}{R:J3}(h:∀s0:ae,L s0=4096->(∀k,aZ s0 k=mO)->aUA a s0 R):Fn aS GG 126 [a] R:=by refine fnV (uq ready (aQ9 aX5) func126 (an:=a5E) a7c<|Eq.mpr (show ZF aS GGV aYc a5E Tryz.f126 [a] R=(aUA a (ly Tryz.f126) R) by kernel_rfl) ?_);exact h _ uB<|i8 _
def a9m:=I9 32 [(9,([8,9],[1,2,7])),(21,([12],[1,2,7,8,9,10,11])),(27,([14],[1,2,7,8,9,10,11,12,13]))]
def bgU{c0}:=y1 217 2 1 aX5 func125 a9m c0 [.a c0]
end
section
attribute[local irreducible] aX
def bgg{a a1}:=yB aNH func119 ato [a,a1]
def bgo{a a1}:=yB aNH func306 at1 [a,a1]
def bgm{a a1}:=yB aNH func303 atB [a,a1]
def bgl{a a1 b}:=yB aNH func307 auF [a,a1,b]
def a8R:=I9 47 [(13,([],[4,7]))]
def bgp{a a1}:=yB aNH func275 a8R [a,a1]
def a8S:=I9 9 [(4,([7,8],[0,1,2]))]
def aZ9 d(I1:aG)(m1:bu) e b a:=aV (gt d 1) (iv 1) λc=>I1 [b,c] a/\m1 [b,c] a<m1 d e
def aUQ a I1 m1 f d b:=eV (aX bs4 1 b [(0,d)]) λe c=>eV (apA 300 bsW 176 c 30 (gt a 0) e)<|aZ9 a I1 m1 f
def aRp k d a1 R I1 m1 b c:=Rg->aU (gt b 1) k λt3=>Qct t3 (gt b 1) λl=>Qot t3 (QbE l<|iv 0) λm=>Qct t3 m λa=>bX a d λe=>aC a (rV<|cO c e) λf=>Qlf a 2 c f λg=>aC a (aO .gtr g<|iv 0) λh=>Qot t3 (aD a (bv U) h) λi=>aD t3 i (bv I) λj=>ah j (cB 275 [d,a1] c 28<|aUQ b I1 m1 c)<|aRf R c [gt b 0]
def aUP a a1 b s0 R:=lV [.l [] U U,iv 0] s0<|aRp b a a1 R
def bgq{a a1 b:AV}{s0:ae}{R:be}(hs:L s0=4096)(h:aUP a a1 b s0 R):EB 212 [a,a1,b] s0 R:=zB a8S aNH func212 h
end
structure Tp(Y:ae)(b:Id)(l:eu)(at':Nat):Prop where
 bx:box Y b=V ⟨140,2,U,U,[[sl cu l,iv at']]⟩
 le:at'<=L l
 ok:∀x∈l,0<=x/\x<256
 ll:L l<4611686018427387904
theorem Tp.fx{Y Y' b l a ks}(T:Tp Y b l a)(F:Fx Y Y' ks)(h:b∉ks):Tp Y' b l a:=⟨F.keep _ _ h T.bx,T.le,T.ok,T.ll⟩
def a6S{Y l}:fS Y (sl cu l)=V (iv<|L l):=cT
def aWF{Y b l}{a:Nat}(q:L Y=4096)(T:Tp Y b l a)(n:Int):∃r Y1,(∃(x:Int) (f:Nat),r=iv x/\0<=x/\(1<=n->x<n)/\Tp Y1 b l f/\a<=f/\(a<L l->1<=n->f=a+1)/\Fx Y Y1 [b])/\cZ aS GG 119 [.p b 0 0,iv n] Y r Y1:=bgg q<|by have i:=T.bx;have:=T.ll;simp+contextual only[nlP i,eS,i,iF,bkl,bc5];constructor<;>intro h;refine⟨0,a,A,Z,λh=>Z,T,Z,λh1 h2=>?_,Fx.refl _ _⟩;grind;simp only[cP,aPs] at h;have c:a<L l:=Z;rw[fX Z];refine A0 i A O λY1 j g=>?_;have s:=T.ok _<|dB c;simp only[qz 2,nlP g,eS,g,iF,bkl,bc5,List.set_cons_succ,List.set_cons_zero,a6E,cu,qM,aS6,jr];have k:dq.wrap (((a+1:Nat):Int)-1)=(a:Int):=brE;rw[k,bh,eM (x:=gd l a) Z Z];refine⟨dJ c,Z,_,a+1,A,Int.tmod_nonneg _ s.1,λh1=>Int.tmod_lt_of_pos _ Z,⟨g,c,T.ok,T.ll⟩,Z,λ_ _=>A,j⟩
def a55{Y b l}{a:Nat}(f:L Y=4096)(T:Tp Y b l a){n:Int}{d:Nat}{K}(g:∀(x:Int) (c:Nat) Y1,0<=x->(1<=n->x<n)->Tp Y1 b l c->a<=c->(a<L l->1<=n->c=a+1)->Fx Y Y1 [b]->K (iv x) Y1):cB 119 [.p b 0 0,iv n] Y d K:=jH A (aWF f T n)<|by grind [Fx.len]
structure Mak(Y:ae)(m b:Id)(hs:List ByteArray)(h:AV):Prop where
 mx:∃(th lf:Int) (s tx at' lp:Bool),box Y m=V ⟨294,8,U,U,[[.p b 0 0,iv th,iv lf,bv s,bv tx,bv at',bv lp,h]]⟩
 tp:∃l a,Tp Y b l a
 gh:J7 Y 9 1 h (hs.map cs)
 le:L Y=4096
 sm:m.1=16
 sb:b.1=14
 sh:∀q∈aA h,q.1=15
section
variable{Y Y':ae}{m b:Id}{hs:List ByteArray}{h:AV}{d:Nat}{K:be}
theorem Mak.ne(M:Mak Y m b hs h):m≠b:=(by grind [Mak.sm,Mak.sb])
theorem Mak.fx{ks}(M:Mak Y m b hs h)(F:Fx Y Y' ks)(h1:m∉ks)(h2:b∉ks)(c:∀q∈aA h,q∉ks):Mak Y' m b hs h:=by obtain⟨k,i,s,tx,f,j,g⟩:=M.mx;obtain⟨l,a,T⟩:=M.tp;exact⟨bsq,⟨l,a,T.fx F h2⟩,M.gh.fx F c,F.len.trans M.le,M.sm,M.sb,M.sh⟩
theorem Mak.fx0(M:Mak Y m b hs h)(F:Fx Y Y' []):Mak Y' m b hs h:=(by grind [Mak.fx])
theorem Mak.nb(M:Mak Y m b hs h):∀q∈aA h,q∉[b]:=(by grind [Mak.sh,Mak.sb])
theorem Mak.nm(M:Mak Y m b hs h):∀q∈aA h,q∉[m]:=(by grind [Mak.sh,Mak.sm])
theorem aO4(M:Mak Y m b hs h){n}(g:∀(x) Y1,0<=x->(1<=n->x<n)->Mak Y1 m b hs h->Fx Y Y1 [b]->K (iv x) Y1):cB 119 [.p b 0 0,iv n] Y d K:=by obtain⟨r,k,s,tx,i,q,j⟩:=M.mx;obtain⟨l,a,T⟩:=M.tp;refine a55 M.le T λx c Y1 h1 h2 f _ _ F=>g x Y1 h1 h2 ⟨(by grind [Fx.keep,Mak.ne]),⟨l,c,f⟩,M.gh.fx F M.nb,F.len.trans M.le,M.sm,M.sb,M.sh⟩ F
theorem aPJ(M:Mak Y m b hs h){j x K}(c:(j=1\/j=2)/\(∃n:Int,x=iv n)\/(3<=j/\j<=6)/\∃u:Bool,x=bv u)(f:∀Y1,Mak Y1 m b hs h->Fx Y Y1 [m]->K Y1):sV (aK 1 Y (.p m 0 j) x) K:=by obtain⟨w,r,s,tx,k,v,g⟩:=M.mx;obtain⟨l,a,T⟩:=M.tp;have i:eY x=V [x]:=(by obtain⟨_,n,rfl⟩|⟨_,u,rfl⟩:=c<;>rfl);refine A0 g i NA λY1 F q=>f Y1 ⟨?_,⟨l,a,T.fx F<|by simpa using M.ne.symm⟩,M.gh.fx F M.nm,F.len.trans M.le,M.sm,M.sb,M.sh⟩ F;obtain⟨h1|h1,n,rfl⟩|⟨h1,u,rfl⟩:=c;simp_all;simp_all;obtain rfl|rfl|rfl|rfl:j=3\/j=4\/j=5\/j=6:=Z;simp_all;simp_all;simp_all;simp_all
def bdh(M:Mak Y m b hs h)(g:L hs<1000)(s):∃r Y1,((∃v,r= .s v/\∃u:Bool,v= .bool u)/\Fx Y Y1 [])/\cZ aS GG 306 [.p m 0 0,st s] Y r Y1:=bgo M.le<|by obtain⟨k,i,s,tx,f,j,a⟩:=M.mx;have c:dG Y h=sl cs hs:=M.gh.ar;simp only[nlP a,eS,a,iF,bkl,bc5,jM,kU,jt,c,tW,oi,AL];exact⟨Z,⟨_,A,_,A⟩,Fx.refl _ _⟩
theorem aQP(M:Mak Y m b hs h)(a:L hs<1000){s}(c:∀u,K (bv u) Y):cB 306 [.p m 0 0,st s] Y d K:=aV6 A (bdh M a s) vB
def isE(k:Nat)(r:AV):Prop:=∃(e:aNK) (t o:Bool),shE k e/\r= .a [iv e.op,iv e.n,st e.name, .l (e.l.map aNK.c) t o]
theorem isE.mono{k n r}(h:isE k r)(a:k<=n):isE n r:=by obtain⟨e,t,o,h1,h2⟩:=h;exact⟨e,t,o,h1.mono a,h2⟩
def ExR(Y:ae)(m b:Id)(hs:List ByteArray)(h:AV)(k:Nat)(r:AV)(Y1:ae):Prop:=isE k r/\Mak Y1 m b hs h/\Fx Y Y1 [b]
theorem aTx{q T}{z:Nat}{r cs R}(f:box Y q=V ⟨T,z,U,U,[r]⟩)(i:L r=z)(g:L cs=z)(c:∀Y1,Fx Y Y1 [q]->R (.a cs) Y1):sV (aK z Y (.p q 0 0)<|.a cs) λs=>rV (sA (V z) s<|.p q 0 0) λt=>aRf R s [t]:=stW f i g λY1 F j=>by have:sA (V z) Y1 (.p q 0 0)=V (.a cs):=(by grind [sA,iE,aN]);rw[this];exact c Y1 F
def baK{Y}:aX zd9 7 Y [(0,sv [97]),(1,sv [98]),(2,sv [120]),(3,sv [121]),(4,sv [118]),(5,sv [120]),(6,sv [121])]=V (.l ([⟨#[97]⟩,⟨#[98]⟩,⟨#[120]⟩,⟨#[121]⟩,⟨#[118]⟩,⟨#[120]⟩,⟨#[121]⟩].map cs) U U,Y):=a7c
def baN{Y}:aX bH 6 Y [(0,iv 6),(1,iv 7),(2,iv 8),(3,iv 11),(4,iv 13),(5,iv 17)]=V (.l ([6,7,8,11,13,17].map ci) U U,Y):=a7c
def aSY{e:aNK}{t o}:dG Y (.a [iv e.op,iv e.n,st e.name, .l (e.l.map aNK.c) t o])= .a e.c:=bsM
theorem aXO{x c d r}(h:aNN (.a c)=[])(f:aNN (.a d)=[]):lo Y [.s x, .a c, .a d] r=True:=by have:aNN (.s x)=[]:=A;grind [lo,nA]
def aXP{x c r}(h:aNN (.a c)=[]):lo Y [.s x, .a c] r=True:=by have e:aNN (.s x)=[]:=A;simp[lo,nA,h,e]
def a6T{x r}:lo Y [.s x] r=True:=by simp[lo,nA,aNN,iR]
def aWC{k e}(h:shE k e):isE k (.a e.c):=⟨e,I,I,h,bsM⟩
theorem buL{p:Prop}(h:p:=by grind [Go.Ab.Mak.sh]):p:=h
def buM{p:Prop}(h:p:=by simp[Go.Ab.aNK.l]):p:=h
theorem a6K{n}(hn:n<=1)(ih:n=1->∀{Y},Mak Y m b hs h->∃r Y1,ExR Y m b hs h 1 r Y1/\cZ aS GG 303 [.p m 0 0,iv 0] Y r Y1)(M:Mak Y m b hs h):
  ∃r Y1,ExR Y m b hs h (n+1) r Y1/\cZ aS GG 303 [.p m 0 0,iv n] Y r Y1:=by
 obtain⟨m1,G⟩:=m
 obtain rfl:m1=16:=M.sm
 obtain⟨b1,z⟩:=b
 obtain rfl:b1=14:=M.sb
 refine bgm M.le ?_
 refine zm M.le λv s1 W N1 q1=>?_
 simp only[qz 2,baK,bQ]
 have M1:=M.fx0 W
 obtain⟨th,lf,s,tx,ad,lp,R⟩:=M1.mx
 simp only[qz 4,nlP R,eS,R,iF,bc5]
 refine aO4 M1 λx s2 h1 h2 E F2=>?_
 have h2:=h2 H
 obtain⟨th,lf,s,tx,ad,lp,D⟩:=E.mx
 have P:=F2.kq q1
 have N:Fx Y s2 [(14,z)]:=(W.trans F2).mono O
 have C:∀{g k:ae} {r:AV},isE (n+1) r->Mak g (16,G) (14,z) hs h->Fx Y g [(14,z)]->Fx g k [(4,v)]->ExR Y (16,G) (14,z) hs h (n+1) r k:=λF j f i=>
  ⟨F,j.fx i O O<|λq hq e=>buL,(f.trans i).mono aUw⟩
 have T:∀{g:ae} {d:Nat} {K:be},n=1->Mak g (16,G) (14,z) hs h->(∀r k,isE 1 r->Mak k (16,G) (14,z) hs h->Fx g k [(14,z)]->K r k)->cB 303 [.p (16,G) 0 0,iv 0] g d K:=λh1 j hK=>by
  refine jH A (ih h1 j) ?_
  rintro r k ⟨g1,u,g3⟩
  grind [Fx.len]
 simp+contextual only[qz 6,qy 16,nlP D,eS,D,iF,bc5,gT]
 refine⟨λ_=>?_,λhc=>⟨λ_=>?_,λh7=>⟨λh8=>?_,λh8=>?_⟩⟩⟩
 ·refine aO4 E λy g g1 u j f=>?_
  have B:=f.kq P
  simp only[qz 8,qy 10,jM,kU,jt,tW,oi,a6T]
  exact aTx B A aN9 λk i=>C (aWC ⟨.inl ⟨.inl A,A⟩,buM⟩) j ((N.trans f).mono O) i
 ·refine aO4 E λy g g1 u j f=>?_
  have B:=f.kq P
  have u:=u H
  simp only[qz 12,qy 14,amZ,gg,J9,jM,kU,jt,tW,oi,a6T]
  exact⟨⟨g1,u⟩,aTx B A aN9 λk i=>C (aWC ⟨.inl ⟨.inr A,A⟩,buM⟩) j ((N.trans f).mono O) i⟩
 ·have w:n=1:=X
  refine T w E λr g F j f=>?_
  have B:=f.kq P
  obtain⟨e,t,o,he,rfl⟩:=F
  have ag:aX bvY 1 g [(0, .a [iv e.op,iv e.n,st e.name, .l (e.l.map aNK.c) t o])]=V (.l [e.c] U U,g):=aQm bsM aN9 H bsM H
  simp only[ag,bQ,qz 18,qy 20]
  have af:bM bvA bst [(0,iv 3),(2,sv [113]),(3, .l [e.c] U U)]=V (.a [iv 3,iv 0,sv [113], .l [e.c] U U]):=A
  simp only[af,aY]
  refine aTx B A rfl λk i=>C ⟨aNK.mk 3 0 ⟨#[113]⟩ [e],U,U,⟨.inr<|.inl ⟨A,A,A⟩,?_⟩,A⟩ j ((N.trans f).mono O) i
  grind [aNK.l]
 ·have w:n=1:=X
  have e0:dq.wrap ((n:Int)-1)=0:=by subst w;rfl
  simp only[baN,bQ,qz 22,nlP D,eS,D,iF,bc5,gT]
  refine aO4 E λy g g1 u j f=>?_
  have u:=u H
  have B:=f.kq P
  simp only[qz 24,tf,gg,J9,e0]
  refine⟨⟨g1,u⟩,T w j λr k F M4 i=>?_⟩
  have q4:=i.kq B
  simp only[qz 26,eQ,e0]
  refine T w M4 λr' s5 ah M5 F5=>?_
  have q5:=F5.kq q4
  obtain⟨e,t,o,he,rfl⟩:=F
  obtain⟨e',t',o',aC,rfl⟩:=ah
  have S:6<=gd [(6:Int),7,8,11,13,17] y.toNat:=by
   grind [dB]
  generalize gd [(6:Int),7,8,11,13,17] y.toNat=op at S
  simp only[qz 28,jM,kU,jt,tW,aSY,aD6]
  rw[aXO A rfl]
  refine⟨trivial,stW q5 A aN9 λs6 F6 b6=>?_⟩
  refine dT (by simp[eL,lb,cq,Qh,aNG,dC,dK]) ?_
  have:sA (V 4) s6 (.p (4,v) 0 0)=V (.a (aNK.mk op 0 ⟨#[]⟩ [e,e']).c):=by grind [aC5,a69]
  (try rw[art]);rw[this]
  refine C (aWC ⟨.inr<|.inr ⟨S,A⟩,?_⟩) M5 ((((N.trans f).trans i).trans F5).mono O) F6
  grind [aNK.l]
def a6J(M:Mak Y m b hs h):∃r Y1,ExR Y m b hs h 1 r Y1/\cZ aS GG 303 [.p m 0 0,iv 0] Y r Y1:=a6K (n:=0) Z (λh=>Z) M
def bdg(M:Mak Y m b hs h):∃r Y1,ExR Y m b hs h 2 r Y1/\cZ aS GG 303 [.p m 0 0,iv 1] Y r Y1:=a6K (n:=1) Z (λ_ {Y} M=>a6J M) M
theorem baU(M:Mak Y m b hs h)(f:∀r Y1,isE 2 r->Mak Y1 m b hs h->Fx Y Y1 [b]->K r Y1):cB 303 [.p m 0 0,iv 0] Y d K:=jH A (a6J M)<|by rintro r g ⟨g1,a,c⟩;grind [Fx.len,isE.mono]
theorem aQO(M:Mak Y m b hs h)(f:∀r Y1,isE 2 r->Mak Y1 m b hs h->Fx Y Y1 [b]->K r Y1):cB 303 [.p m 0 0,iv 1] Y d K:=jH A (bdg M)<|by rintro r g ⟨g1,a,c⟩;grind [Fx.len]
structure RH(m b:Id)(Y:ae)(h:AV)(Y1:ae)(h1:AV):Prop where
 f:Fx Y Y1 (m::b::aA h)
 i:∀q∈aA h1,q∈aA h\/bK Y q
section
variable{Y2 Y1:ae}{h1 h2:AV}
theorem RH.refl:RH m b Y h Y h:=⟨Fx.refl _ _,λ_ g=> .inl g⟩
theorem RH.trans(a:RH m b Y h Y1 h1)(c:RH m b Y1 h1 Y2 h2):RH m b Y h Y2 h2:=by refine⟨(a.f.trans c.f).mono λq j=>?_,λq j=>(c.i q j).elim (a.i q) λg=> .inr<|g.old a.f⟩;grind [RH.i,bK.no]
theorem RH.of{ks}(F:Fx Y Y1 ks)(a:∀q∈ks,q=m\/q=b\/bK Y q):RH m b Y h Y1 h:=⟨(by grind [Fx.mono,bK.no]),λ_ g=> .inl g⟩
theorem RH.ofb(F:Fx Y Y1 [b]):RH m b Y h Y1 h:= .of F O
def RH.ofm(F:Fx Y Y1 [m]):RH m b Y h Y1 h:= .of F O
def RH.of0(F:Fx Y Y1 []):RH m b Y h Y1 h:= .of F O
theorem RH.new(a:RH m b Y h Y1 h1){q}(F:Fx Y1 Y2 [q])(c:bK Y q):RH m b Y h Y2 h1:=⟨(a.f.trans F).mono aUw,a.i⟩
theorem Mak.out(M:Mak Y m b hs h):∀q,q.1≠14->q.1≠15->q.1≠16->q∉m::b::aA h:=λq g1 a c f=>by
 grind [Mak.sm,Mak.sb,Mak.sh]
end
def aTj{x:amt}:aNN (.a x.c)=[]:=bqK
def aYy{a}{x:amt}:Lv a Y x.c x.c:=⟨bqK,by rw[aTj];simp⟩
def aPq{f op nm i index e t o u o' bd a body els}(k:J7 Y 300 11 bd<|body.map amt.c)(p:J7 Y 300 11 a<|els.map amt.c)(r:∀q∈aA bd,bK f q)(s:∀q∈aA a,bK f q):Lv f Y [iv op,iv 0,st nm,st i, .l (index.map aNK.c) u o',iv e.op,iv e.n,st e.name, .l (e.l.map aNK.c) t o,bd,a] (amt.mk op 0 nm i index e body els).c:=by refine⟨?_,λq j=>?_⟩;rw[apT];simp only[ji,mU,aOb k,aOb p,aQ5,aXQ];rfl;simp only[aNN,Cz,RN,iR,dW,cL,dF] at j;obtain g|g:=j;(exact r q<|by cases bd<;>first|exact g|simp[iR] at g);exact s q (by cases a<;>first|exact g|simp[iR] at g)
def aPB{op nm j}{index:List aNK}{e:aNK}{t o r o' bd f}{P:Id->Prop}(k:∀q∈aA bd,P q)(p:∀q∈aA f,P q):∀q∈aNN (.a [iv op,iv 0,st nm,st j, .l (index.map aNK.c) r o',iv e.op,iv e.n,st e.name, .l (e.l.map aNK.c) t o,bd,f]),P q:=λq i=>by
 simp only[aNN,Cz,RN,iR,dW,cL,dF] at i
 obtain g|g:=i
 ·exact k q (by cases bd<;>first|exact g|simp[iR] at g)
 ·exact p q (by cases f<;>first|exact g|simp[iR] at g)
def SmR(Y:ae)(m b:Id)(hs:List ByteArray)(h:AV)(d:Nat)(r:AV)(Y1:ae):Prop:=∃cs x f,r= .a cs/\Lv Y Y1 cs (amt.c x)/\(∀q∈aNN (.a cs),q.1=30\/q.1=126)/\shS (d+1) x/\Mak Y1 m b hs f/\RH m b Y h Y1 f
def SsR(Y:ae)(m b:Id)(hs:List ByteArray)(h:AV)(d:Nat)(n:Int)(r:AV)(Y1:ae):Prop:=∃(l:List amt) (a:AV),J7 Y1 300 11 r (l.map amt.c)/\L l<=n/\(∀x∈l,shS (d+1) x)/\(∀q∈aA r,bK Y q/\q.1=30)/\Mak Y1 m b hs a/\RH m b Y h Y1 a
def aQH(m b:Id)(d:Nat):Prop:=∀{Y:ae} {hs:List ByteArray} {h:AV} {n:Int},Mak Y m b hs h->L hs+d<=500->0<=n->n<=3->∃r Y1,SsR Y m b hs h d n r Y1/\cZ aS GG 212 [.p m 0 0,iv d,iv n] Y r Y1
theorem aQQ{D:Nat}(w:aQH m b D)(M:Mak Y m b hs h)(v:L hs+D<=500){i n:Int}(u:i=D)(k:0<=n)(s:n<=3)(E:∀(a) (l:List amt) (g) Y1,J7 Y1 300 11 a (l.map amt.c)->(L l:Int)<=n->(∀x∈l,shS (D+1) x)->(∀q∈aA a,bK Y q/\q.1=30)->Mak Y1 m b hs g->RH m b Y h Y1 g->K a Y1):cB 212 [.p m 0 0,iv i,iv n] Y d K:=by subst u;refine jH A (w M v k s) ?_;rintro r Y1 ⟨l,g,g1,y,z,B,C,j⟩;exact⟨j.f.len,X⟩
def baO{Y x}:aX zd9 1 Y [(0,st x)]=V (.l ([x].map cs) U U,Y):=iz
theorem bdS(M:Mak Y m b hs h){h1 c K}(g:J7 Y 9 1 h1<|c.map cs)(j:∀q∈aA h1,q.1=15)(f:∀Y1,Mak Y1 m b c h1->Fx Y Y1 [m]->K Y1):sV (aK 1 Y (.p m 0 7) h1) K:=by obtain⟨v,r,s,tx,k,u,i⟩:=M.mx;obtain⟨l,a,T⟩:=M.tp;refine A0 i g.ce O λY1 F n=>f Y1 ⟨vB,⟨l,a,T.fx F<|by simpa using M.ne.symm⟩,(by grind [J7.fx,Mak.sm]),F.len.trans M.le,M.sm,M.sb,j⟩ F
theorem bdd{D:Nat}(ih:aQH m b D)(M:Mak Y m b hs h)(hl:L hs+D+1<=500){s}{S:Int}(hd:S=D):∃r Y1,SsR Y m b hs h D 2 r Y1/\cZ aS GG 307 [.p m 0 0,st s,iv S] Y r Y1:=bgl M.le<|by obtain⟨N,C,s',tx,j,E,B⟩:=M.mx;simp only[qy 2,nlP B,eS,B,iF,bkl,bc5,baO];refine apQ M.gh M.le O O O NA λy G z u N4=>?_;rw[<-dg] at z;have n:=u.keep _ _ (λc=>by have:=M.sh _ c;have:=M.sm;omega) B;have M4:∀{Y':ae} {K:ae->Prop},(∀Y1,Mak Y1 m b (hs++[s]) y->Fx G Y1 [m]->K Y1)->sV (aK 1 G (.p m 0 7) y) K:=λ{Y' K} hK=>(by obtain⟨l,a,T⟩:=M.tp;refine A0 n z.p.ce O λY1 F b1=>hK Y1 ⟨⟨N,C,s',tx,j,E,b1⟩,⟨l,a,(T.fx u<|by grind [Mak.sh,Mak.sb]).fx F<|by simpa using M.ne.symm⟩,z.p.fx F (by grind [Mak.sm]),F.len.trans<|u.len.trans M.le,M.sm,M.sb,λq c=>(N4 q c).2⟩ F);simp only[qz 4,nlP n,eS,n];refine M4 (Y':=G) λs5 R F5=>?_;obtain⟨N,C,s',tx,j,E,v⟩:=R.mx;simp only[qz 6,nlP v,eS,v,iF,bc5];refine aO4 R λx s6 h1 h2 M6 F6=>?_;have h2:=h2 H;simp only[qz 8,eQ,eM (x:=1+x) Z Z];refine aQQ ih M6 NA hd Z Z λa l h' s7 g1 g2 g3 k g R7=>?_;obtain⟨N,C,s',tx,j,E,w⟩:=g.mx;simp only[qz 10,qy 12,nlP w,eS,w,iF,bkl,bc5,g.gh.ln,bJ,a6G,bZ,bhZ];have e1:dq.wrap (((L hs+(0+1):Nat):Int)-1)=(L hs:Int):=brE;rw[e1];refine slP g.gh Z NA λa8 W e8=>?_;rw[bh,dg,List.take_left' O] at W;refine bdS g W (λq c=>g.sh q<|e8▸c) λs9 M9 P=>?_;have R4:RH m b Y h s6 y:=⟨((u.trans F5).trans F6).mono X,vB⟩;have R9:=(R4.trans R7).trans<|.ofm P;exact⟨l,a8,g1.fx P (λq c e=>by have:=(k q c).2;have:=M.sm;simp at e;subst e;omega),Z,g3,λq c=>⟨(k q c).1.old R4.f,(k q c).2⟩,M9,⟨R9.f,by grind [RH.i]⟩⟩
def aPh{a K}:gF U a Y K=a K:=rfl
def aOq{a K}:gF I a Y K=K (.t []) Y:=rfl
def baJ:aX zd9 4 Y [(0,sv [120]),(1,sv [121]),(2,sv [120]),(3,sv [118])]=V (.l ([⟨#[120]⟩,⟨#[121]⟩,⟨#[120]⟩,⟨#[118]⟩].map cs) U U,Y):=a7c
def aV4:aX zd9 2 Y [(0,sv [97]),(1,sv [98])]=V (.l ([⟨#[97]⟩,⟨#[98]⟩].map cs) U U,Y):=a7c
def a5Z:aX zd9 2 Y [(0,sv [109]),(1,sv [110])]=V (.l ([⟨#[109]⟩,⟨#[110]⟩].map cs) U U,Y):=a7c
def baH{e:aNK}{t o:Bool}:aX bvY 1 Y [(0, .a [iv e.op,iv e.n,st e.name, .l (e.l.map aNK.c) t o])]=V (.l ([e].map aNK.c) U U,Y):=aQm bsM aN9 H bsM H
def a50{x:amt}:aX bs4 1 Y [(0, .a x.c)]=V (.l ([x].map amt.c) U U,Y):=ua bqK aTj brR H bqK H
section
variable{o:Int}{nm:ByteArray}{x:AV}{e:aNK}{t o':Bool}{body:List amt}{bA:List (dM)}
def a5O(f:J7 Y 300 11 x bA):bM bsW alz [(0,iv o),(5, .a [iv e.op,iv e.n,st e.name, .l (e.l.map aNK.c) t o']),(6,x)]=V (.a [iv o,iv 0,st ⟨#[]⟩,st ⟨#[]⟩, .l (([]:List aNK).map aNK.c) U U,iv e.op,iv e.n,st e.name, .l (e.l.map aNK.c) t o',x, .l [] U U]):=by obtain⟨_,rfl⟩|⟨q,m,rfl,_⟩:=f<;>rfl
def aSZ(f:J7 Y 300 11 x bA):bM bsW alz [(0,iv o),(2,st nm),(6,x)]=V (.a [iv o,iv 0,st nm,st ⟨#[]⟩, .l (([]:List aNK).map aNK.c) U U,iv (aNK.mk 0 0 ⟨#[]⟩ []).op,iv (aNK.mk 0 0 ⟨#[]⟩ []).n,st (aNK.mk 0 0 ⟨#[]⟩ []).name, .l ((aNK.mk 0 0 ⟨#[]⟩ []).l.map aNK.c) U U,x, .l [] U U]):=by obtain⟨_,rfl⟩|⟨q,m,rfl,_⟩:=f<;>rfl
def a5P(f:J7 Y 300 11 x bA):bM bsW alz [(0,iv o),(6,x)]=V (.a [iv o,iv 0,st ⟨#[]⟩,st ⟨#[]⟩, .l (([]:List aNK).map aNK.c) U U,iv (aNK.mk 0 0 ⟨#[]⟩ []).op,iv (aNK.mk 0 0 ⟨#[]⟩ []).n,st (aNK.mk 0 0 ⟨#[]⟩ []).name, .l ((aNK.mk 0 0 ⟨#[]⟩ []).l.map aNK.c) U U,x, .l [] U U]):=by obtain⟨_,rfl⟩|⟨q,m,rfl,_⟩:=f<;>rfl
def bam{E:aNK}(f:J7 Y 300 11 x bA):bM bsW alz [(0,iv o),(5, .a E.c),(6,x)]=V (.a [iv o,iv 0,st ⟨#[]⟩,st ⟨#[]⟩, .l (([]:List aNK).map aNK.c) U U,iv E.op,iv E.n,st E.name, .l (E.l.map aNK.c) I I,x, .l [] U U]):=by rw[aoH];exact a5O f
def a5Q:bM bsW alz [(0,iv o),(2,st nm),(6, .l (body.map amt.c) t o')]=V (.a [iv o,iv 0,st nm,st ⟨#[]⟩, .l (([]:List aNK).map aNK.c) U U,iv (aNK.mk 0 0 ⟨#[]⟩ []).op,iv (aNK.mk 0 0 ⟨#[]⟩ []).n,st (aNK.mk 0 0 ⟨#[]⟩ []).name, .l ((aNK.mk 0 0 ⟨#[]⟩ []).l.map aNK.c) U U, .l (body.map amt.c) t o', .l (([]:List amt).map amt.c) U U]):=rfl
end
def aRm{f op nm a index e t o j o' k i t3 o3 body els}:Lv f Y [iv op,iv 0,st nm,st a, .l (index.map aNK.c) j o',iv e.op,iv e.n,st e.name, .l (e.l.map aNK.c) t o, .l (body.map amt.c) k i, .l (els.map amt.c) t3 o3] (amt.mk op 0 nm a index e body els).c:=by refine⟨?_,λq g=>?_⟩;rw[apT];simp only[ji,mU,aQ5,aXQ];rfl;simp[aNN,iR] at g
theorem aOJ{n:Nat}{op:Int}{nm f index e body els}(h1:(op=1\/op=2\/op=3\/op=14)->shE 2 e)(h2:index=[]\/∃y,index=[y]/\shE 2 y/\nm=qN)(i:L e.l<=2)(j:L body<=4)(a:∀x∈body,shS n x)(k:L els<=4)(c:∀x∈els,shS n x)(p:1<=op/\op<=15):shS (n+1) (amt.mk op 0 nm f index e body els):=by refine⟨h1,?_,?_,?_,i,j,a,k,c,p⟩;show L index<=1;grind;show∀x∈index,shE 2 x;grind;intro h;obtain rfl|⟨y,rfl,_,g⟩:=h2;exact aYx A h;exact g
theorem aOI{n:Nat}{op:Int}{nm a index e}(h1:(op=1\/op=2\/op=3\/op=14)->shE 2 e)(h2:index=[]\/∃y,index=[y]/\shE 2 y/\nm=qN)(c:L e.l<=2)(f:1<=op/\op<=15):shS (n+1) (amt.mk op 0 nm a index e [] []):=(by grind [aOJ])
theorem aS4{D:Nat}(u:aQH m b D)(M:Mak Y m b hs h)(n:L hs+D+1<=500){s}{i:Int}(k:i=D)(B:∀(a) (l:List amt) (g) Y1,J7 Y1 300 11 a (l.map amt.c)->(L l:Int)<=2->(∀x∈l,shS (D+1) x)->(∀q∈aA a,bK Y q/\q.1=30)->Mak Y1 m b hs g->RH m b Y h Y1 g->K a Y1):cB 307 [.p m 0 0,st s,iv i] Y d K:=jH A (bdd u M n k)<|by rintro r Y1 ⟨l,g,g1,v,w,y,z,j⟩;exact⟨j.f.len,X⟩
theorem aEa{q T}{z:Nat}{o u r}(c:box Y q=V ⟨T,z,o,u,[r]⟩)(f:L r=z):sA (V z) Y (.p q 0 0)=V (.a r):=by grind [sA,iE,aN]
theorem aP2{D}(h:D+1<1000):dq.wrap (((D+1:Nat):Int)-1)=(D:Int):=brE
def baQ:aX bs4 2 Y [(0, .a [iv 9,iv 0,sv [99],sv [], .l [] U U,iv 0,iv 0,sv [], .l [] U U, .l [] U U, .l [] U U]),(1, .a (amt.mk 1 0 ⟨#[97]⟩ ⟨#[]⟩ [] (aNK.mk 2 0 ⟨#[120]⟩ []) [] []).c)]=V (.l ([amt.mk 9 0 ⟨#[99]⟩ ⟨#[]⟩ [] (aNK.mk 0 0 ⟨#[]⟩ []) [] [],amt.mk 1 0 ⟨#[97]⟩ ⟨#[]⟩ [] (aNK.mk 2 0 ⟨#[120]⟩ []) [] []].map amt.c) U U,Y):=a7c
def baL{o:Int}:aX bs4 1 Y [(0, .a [iv o,iv 0,sv [99],sv [], .l [] U U,iv 0,iv 0,sv [], .l [] U U, .l [] U U, .l [] U U])]=V (.l ([amt.mk o 0 ⟨#[99]⟩ ⟨#[]⟩ [] (aNK.mk 0 0 ⟨#[]⟩ []) [] []].map amt.c) U U,Y):=a7c
def bu9{p:Prop}(h:p:=by simp[Go.Ab.aNN,Go.Ab.iR]):p:=h
theorem bt3{p:Prop}(h:p:=by grind [Go.Ab.brR]):p:=h
theorem bwa{p:Prop}(h:p:=by grind [Go.Ab.bK.no,Go.Ab.bK.old]):p:=h
theorem bdy{D:Nat}(ih:∀j,j<D->aQH m b j)(M:Mak Y m b hs h)(hl:L hs+D<=500):∃r Y1,SmR Y m b hs h D r Y1/\cZ aS GG 275 [.p m 0 0,iv D] Y r Y1:=by
 obtain⟨m1,m2⟩:=m
 obtain rfl:m1=16:=M.sm
 obtain⟨b1,b2⟩:=b
 obtain rfl:b1=14:=M.sb
 refine bgp M.le ?_
 refine zm M.le λv s1 F1 N1 q1=>?_
 have M1:=M.fx0 F1
 obtain⟨th,lf,s,tx,a1,lp,ak⟩:=M1.mx
 simp only[qz 2,nlP ak,eS,ak,iF,bkl,bc5]
 refine aPJ M1 O λs2 M2 F2=>?_
 have q2:=F2.kq q1
 obtain⟨th,lf,s,tx,a1,lp,bj⟩:=M2.mx
 simp only[qz 4,nlP bj,eS,bj,iF,bc5]
 refine aO4 M2 λx s3 h1 h2 N F3=>?_
 have h2:=h2 H
 have q3:=F3.kq q2
 have T:RH (16,m2) (14,b2) Y h s3 h:=((RH.of0 F1).trans<|.ofm F2).trans<|.ofb F3
 have S:∀{C:ae} {cs r:dM} {x:amt} {h4:AV},Mak C (16,m2) (14,b2) hs h4->RH (16,m2) (14,b2) Y h C h4->box C (4,v)=V ⟨300,11,U,U,[r]⟩->L r=11->Lv Y C cs x.c->(∀q∈aNN (.a cs),q.1=30\/q.1=126)->shS (D+1) x->
   sV (aK 11 C (.p (4,v) 0 0)<|.a cs) λs=>rV (sA (V 11) s<|.p (4,v) 0 0) λt=>aRf (SmR Y (16,m2) (14,b2) hs h D) s [t]:=λ{C cs r x h4} B R4 q4 hr L4 hi a7=>
  aTx q4 hr (by have:=bss L L4.eq;grind [brR]) λs5 F5=>⟨cs,x,h4,A,L4.fx F5 X bbd,hi,a7,B.fx F5 O O<|λq w e=>buL,R4.new F5 N1⟩
 have out:∀{C s5:ae} {h4 h5:AV} {q:Id} {x:bY},Mak C (16,m2) (14,b2) hs h4->RH (16,m2) (14,b2) C h4 s5 h5->(q.1≠14/\q.1≠15/\q.1≠16)->box C q=V x->box s5 q=V x:=λB R g w=>R.f.keep _ _ (B.out _ g.1 g.2.1 g.2.2) w
 have a6:∀{C s6:ae} {x:amt} {h4:AV},Mak C (16,m2) (14,b2) hs h4->RH (16,m2) (14,b2) Y h C h4->Fx C s6 [(4,v)]->box s6 (4,v)=V ⟨300,11,U,U,[x.c]⟩->shS (D+1) x->aw 11 s6 (.p (4,v) 0 0) λt=>aRf (SmR Y (16,m2) (14,b2) hs h D) s6 [t]:=λ{C s6 x h4} B R4 F b6 a7=>by
  rw[art,aEa b6 brR]
  exact⟨_,x,h4,A,aYy,by rw[aTj];simp,a7,B.fx F O O<|λq w e=>buL,R4.new F N1⟩
 simp only[qz 6,qy 22,qy 126]
 generalize hE:@qp _ 128 ⟨_⟩=E
 have bi:∀{C:ae} {d:Nat},Mak C (16,m2) (14,b2) hs h->RH (16,m2) (14,b2) Y h C h->box C (4,v)=V ⟨300,11,U,U,[bsW]⟩->cB 303 [.p (16,m2) 0 0,iv 1] C d E:=λ{C d} B R4 q4=>by
  refine aQO B λr s5 hr P F5=>?_
  obtain⟨e,t,o,he,rfl⟩:=hr
  have q5:=F5.kq q4
  simp only[<-hE,qz 128,qy 130,jM,kU,jt,tW,aSY,aD6]
  refine⟨by simp[lo,nA,aNN,iR],S P (R4.trans<|.ofb F5) q5 A aYy (by rw[aTj];simp) ?_⟩
  exact⟨λ_=>he,by simp[amt.index],by simp[amt.index],by simp[amt.index],he.len,by simp[amt.body],by simp[amt.body],by simp[amt.els],by simp[amt.els],by simp[amt.op],by simp[amt.op]⟩
 obtain⟨th,lf,s,tx,a1,lp,k⟩:=N.mx
 have hx:(x<4/\0<=x)\/x=4\/x=5\/x=6\/x=7\/x=8\/x=9\/x=10\/x=11\/x=12\/x=13\/x=14\/x=15\/x=16\/x=17:=Z
 have bz:∀K:J3,(∀nb:Bool,(nb=U->0<D)->K (bv nb))->aO .gtr (iv D) (iv 0) λaN=>Qct aN (.p (16,m2) 0 0) λcd=>Qot aN (rV<|cO s3 cd) λcf=>aT aN 2 s3 cf λcg=>Qot aN (aO .gtr cg<|iv 0) λch=>aD aN ch (bv I) λaP=>Qct aP (.p (16,m2) 0 0) λci=>Qot aP (rV<|cO s3 ci) λcj=>aT aP 4 s3 cj λck=>Qot aP (Qun ck) λcl=>aD aP cl (bv I) λcm=>K cm:=by
  intro K hK
  obtain h0|h0:=oD D
  ·have e:Q ((0:Int)<(D:Int))=I:=by simp[h0]
   simp only[e,eQ,↓jN,a7i,↓uL]
   grind
  ·have e:Q ((0:Int)<(D:Int))=U:=by simp[h0]
   rcases bm:Q (0<lf) with _|_
   ·simp only[e,nlP k,eS,k,iF,bkl,bc5,bm,↓jN,↓jA,a7i,a5C,↓uL]
    grind
   ·simp only[e,nlP k,eS,k,iF,bkl,bc5,bm,↓jA,a5C,↓uL]
    grind
 refine bz _ λnb cF=>?_
 have W:∀{d:Nat},cB 303 [.p (16,m2) 0 0,iv 1] s3 d E:=bi N T q3
 obtain hx|rfl|rfl|rfl|rfl|rfl|rfl|rfl|rfl|rfl|rfl|rfl|rfl|rfl|rfl:=hx
 all_goals
  simp only[nlP k,eS,k,iF,bkl,bc5,bqQ,bqF,Int.reduceEq,Int.reduceLT,↓iC,↓iB,↓jA,↓jN,↓aOq,a5C,a7i,Bool.false_or]
 ·refine⟨λ_=>?_,λg=>aYx hx.1<|by simpa using g⟩
  simp only[baJ,bQ,qz 8,amZ,u0,rk,J9]
  refine⟨⟨hx.2,hx.1⟩,aQO N λr s5 hr P F5=>?_⟩
  obtain⟨e,t,o,he,rfl⟩:=hr
  have q5:=F5.kq q3
  simp only[qz 10,jM,kU,jt,tW,aSY,aD6]
  refine⟨by simp[lo,nA,aNN,iR],stW q5 A brR λs6 F6 b6=>?_⟩
  refine dT (by simp[eL,lb,cq,Qh,aNG,dC,dK]) ?_
  exact a6 P (T.trans<|.ofb F5) F6 b6 (aOI (λ_=>he) (.inl A) he.len H)
 ·simp only[aV4,bQ,qz 14,nlP k,eS,k,iF,bc5]
  refine aO4 N λy C y1 y2 B G=>?_
  have y2:=y2 H
  have q4:=G.kq q3
  simp only[qz 16,amZ,u0,rk,J9]
  refine⟨⟨y1,y2⟩,aQO B λr s5 hr P F5=>?_⟩
  obtain⟨e,t,o,he,rfl⟩:=hr
  have q5:=F5.kq q4
  simp only[qz 18,jM,kU,jt,tW,aSY,aD6]
  refine⟨by simp[lo,nA,aNN,iR],stW q5 A brR λs6 F6 b6=>?_⟩
  refine dT (by simp[eL,lb,cq,Qh,aNG,dC,dK]) ?_
  exact a6 P ((T.trans<|.ofb G).trans<|.ofb F5) F6 b6 (by grind [aOI,shE.len])
 ·refine baU N λr C hr B G=>?_
  obtain⟨e,t,o,he,rfl⟩:=hr
  have q4:=G.kq q3
  simp only[baH,bQ,qz 24]
  refine aQO B λr s5 hr P F5=>?_
  obtain⟨e',t',o',cD,rfl⟩:=hr
  have q5:=F5.kq q4
  have bU:bM bsW alz [(0,iv 1),(2,sv [113]),(4, .l ([e].map aNK.c) U U),(5, .a [iv e'.op,iv e'.n,st e'.name, .l (e'.l.map aNK.c) t' o'])]=V (.a [iv 1,iv 0,st qN,st ⟨#[]⟩, .l ([e].map aNK.c) U U,iv e'.op,iv e'.n,st e'.name, .l (e'.l.map aNK.c) t' o', .l (([]:List amt).map amt.c) U U, .l (([]:List amt).map amt.c) U U]):=A
  simp only[qz 26,qy 28,bU,aY]
  exact S P ((T.trans<|.ofb G).trans<|.ofb F5) q5 A aRm bu9 (by grind [aOI,shE.len])
 ·refine⟨λhD=>?_,λ_=>W⟩
  obtain⟨j,rfl⟩:∃j,D=j+1:=⟨D-1,X⟩
  refine aQO N λr C hr B G=>?_
  obtain⟨e,t,o,he,rfl⟩:=hr
  have q4:=G.kq q3
  simp only[qz 30,eQ,aP2 (D:=j) Z]
  refine aQQ (ih j Z) B Z A Z Z λa l h' s5 g1 g2 g3 g4 P R5=>?_
  have q5:=out B R5 O q4
  simp only[qz 32,qy 34,a5O g1,aY]
  refine anu P.le λv7 s7 F7 N7 b7=>?_
  have M7:=P.fx0 F7
  have q7:=F7.kq q5
  have G7:=g1.fx F7 O
  have R7:=((T.trans<|.ofb G).trans R5).trans<|.of0 F7
  have na:∀q∈aA a,bK Y q:=bse
  obtain⟨co,b0,s',cp,bs,b3,bl⟩:=M7.mx
  simp only[qz 36,di,qz 83,nlP bl,eS,bl,iF,bc5]
  refine aO4 M7 λy s8 y1 y2 M8 F8=>?_
  have q8:=F8.kq q7
  have b8:=F8.kq b7
  have G8:=G7.fx F8 (λq w e=>by have:=(g4 q w).2;simp at e;subst e;simp at this)
  have R8:=R7.trans<|.ofb F8
  simp only[qz 38,eQ,aP2 (D:=j) Z]
  refine⟨λ_=>?_,λ_=>?_⟩
  ·refine aQQ (ih j Z) M8 Z A Z Z λa' l' h9 s9 k1 k2 k3 k4 M9 R9=>?_
   have q9:=out M8 R9 O q8
   have b9:=out M8 R9 O b8
   have G9:=G8.fx R9.f (by grind [Mak.out])
   simp only[qz 40,qy 42,eS,b9]
   refine A0 b9 k1.ce O λcG aE bS=>?_
   have b4:=λq w=>(k4 q w).1.old R8.f
   have ca:=aE.kq q9
   simp only[qz 81,qy 44,aI,aEa bS A,aY]
   have p9:∀{q:Id},q.1=30->q∉[((7,v7):Id)]:=λh e=>by simp at e;grind
   refine S (M9.fx aE O O (λq w e=>by have:=M9.sh q w;simp at e;grind)) ((R8.trans R9).new aE<|((N7.old R5.f).old G).old T.f) ca A
    (aPq (index:=[]) (e:=e) (G9.fx aE λq w=>p9 (g4 q w).2) (k1.fx aE λq w=>p9 (k4 q w).2) na b4) (aPB (index:=[]) X X) ?_
   exact aOJ (λ_=>he) (.inl A) he.len Z g3 Z k3 H
  ·simp only[qz 81,qy 44,aI,aEa b8 A,aY]
   exact S M8 R8 q8 A (aPq (index:=[]) (e:=e) (els:=[]) G8 (.inl ⟨A,A⟩) na aBY) (aPB (index:=[]) X aBY) (aOJ (λ_=>he) (.inl A) he.len Z g3 O O H)
 ·refine⟨λhD=>?_,λ_=>W⟩
  obtain⟨j,rfl⟩:∃j,D=j+1:=⟨D-1,X⟩
  refine aPJ N O λC B G=>?_
  have q4:=G.kq q3
  simp only[qz 46,jM,kU,jt,tW,aD6,Fa,eQ,aP2 (D:=j) Z]
  refine⟨by simp[lo,nA,aNN,iR],by simp[lo,nA,aNN,iR],by rw[aXO A rfl];trivial,?_⟩
  refine aQQ (ih j Z) B Z A Z Z λa l h' s5 g1 g2 g3 g4 P R5=>?_
  have q5:=out B R5 O q4
  simp only[qz 48,qy 50,jM,kU,jt,tW,aD6,Fa,a50,u0]
  refine⟨by simp[lo,nA,aNN,iR],by simp[lo,nA,aNN,iR],by rw[aXO A rfl];trivial,by rw[aXP A];trivial,?_⟩
  have na:=λq w=>(g4 q w).2
  refine apQ g1 P.le bt3 bt3 O NA λa' s6 g6 F6 N6=>?_
  rw[<-dg] at g6
  have q6:=F6.keep _ _ (λw=>by have:=na _ w;simp at this) q5
  have M6:=P.fx F6 X X (λq w e=>buL)
  have a3:=T.trans<|.ofm G
  have R6:RH (16,m2) (14,b2) Y h s6 h':=⟨((a3.trans R5).f.trans F6).mono bwa,(a3.trans R5).i⟩
  simp only[qz 52,qy 54,bam g6.p,aY]
  refine anu M6.le λv7 s7 F7 N7 b7=>?_
  have M7:=M6.fx0 F7
  have q7:=F7.kq q6
  have G7:=g6.p.fx F7 O
  obtain⟨bp,bn,s8,bq,bg,bo,ar⟩:=M7.mx
  simp only[qz 56,nlP ar,eS,ar]
  refine aPJ M7 O λs9 M9 F9=>?_
  have q9:=F9.kq q7
  have b9:=F9.kq b7
  have G9:=G7.fx F9 (λq w e=>by have:=(N6 q w).2;simp at e;subst e;simp at this)
  simp only[qz 58,qy 60,aEa b9 A,aY]
  refine S M9 ((R6.trans<|.of0 F7).trans<|.ofm F9) q9 A (aPq (index:=[]) (els:=[]) G9 (.inl ⟨A,A⟩) (λq w=>(N6 q w).1.old (a3.trans R5).f) aBY) (aPB (index:=[]) X aBY) ?_
  have e1:∀{z:Int} {s:ByteArray},shE 1 (aNK.mk 2 z s []):=λ{z s}=>⟨.inl ⟨.inr A,A⟩,buM⟩
  have e2:∀{z:Int} {s:ByteArray},shE 1 (aNK.mk 1 z s []):=λ{z s}=>⟨.inl ⟨.inl A,A⟩,buM⟩
  refine aOJ (λ_=>⟨.inr<|.inr ⟨H,A⟩,?_⟩) (.inl A) H NA ?_ O O H
  ·grind [aNK.l]
  ·intro y hy
   obtain hy|hy:=dF.1 hy
   ·exact g3 y hy
   ·simp only[cE] at hy
    subst hy
    refine aOI (λ_=>⟨.inr<|.inr ⟨H,A⟩,?_⟩) (.inl A) H H
    grind [aNK.l]
 ·cases nb
  ·simp only[u0,aOq,↓jN,a7i,↓iB]
   exact W
  obtain⟨j,rfl⟩:∃j,D=j+1:=⟨D-1,X⟩
  simp only[a5Z,amZ,rk,J9,eQ,aPh,↓jA,a5C]
  refine⟨⟨H,H⟩,aQP N Z λu=>?_⟩
  cases u
  ·simp only[eQ,↓iC]
   simp only[qz 66,amZ,rk,J9,aP2 (D:=j) Z,eQ]
   refine⟨⟨H,H⟩,aS4 (ih j Z) N Z A λa l h' s5 g1 g2 g3 g4 P R5=>?_⟩
   simp only[qz 68,qy 70,aSZ g1,aY]
   exact S P (T.trans R5) (out N R5 O q3) A (aPq (index:=[]) (els:=[]) g1 (.inl ⟨A,A⟩) (λq w=>(g4 q w).1.old T.f) aBY) (aPB (index:=[]) X aBY)<|aOJ Z (.inl A) H Z g3 O O H
  ·simp only[eQ,↓iB]
   exact W
 ·cases nb
  ·simp only[u0,aOq,↓jN,a7i,↓iB]
   exact W
  obtain⟨j,rfl⟩:∃j,D=j+1:=⟨D-1,X⟩
  simp only[a5Z,amZ,rk,J9,eQ,aPh,↓jA,a5C]
  refine⟨⟨H,H⟩,aQP N Z λu=>?_⟩
  cases u
  ·simp only[eQ,↓iC]
   simp only[qz 66,amZ,rk,J9,aP2 (D:=j) Z,eQ]
   refine⟨⟨H,H⟩,aS4 (ih j Z) N Z A λa l h' s5 g1 g2 g3 g4 P R5=>?_⟩
   simp only[qz 68,qy 70,aSZ g1,aY]
   exact S P (T.trans R5) (out N R5 O q3) A (aPq (index:=[]) (els:=[]) g1 (.inl ⟨A,A⟩) (λq w=>(g4 q w).1.old T.f) aBY) (aPB (index:=[]) X aBY)<|aOJ Z (.inl A) H Z g3 O O H
  ·simp only[eQ,↓iB]
   exact W
 ·cases nb
  ·simp only[u0,aOq,↓jN,a7i,↓iB]
   exact W
  obtain⟨j,rfl⟩:∃j,D=j+1:=⟨D-1,X⟩
  simp only[u0,aPh,↓jA,a5C]
  refine aQP N Z λu=>?_
  cases u
  ·simp only[aP2 (D:=j) Z,eQ,↓iC]
   refine aS4 (ih j Z) N Z A λa l h' s5 g1 g2 g3 g4 P R5=>?_
   simp only[qz 74,qy 76,aSZ g1,aY]
   exact S P (T.trans R5) (out N R5 O q3) A (aPq (index:=[]) (els:=[]) g1 (.inl ⟨A,A⟩) (λq w=>(g4 q w).1.old T.f) aBY) (aPB (index:=[]) X aBY) (aOJ (λh=>aYx h H) (.inl A) H Z g3 O O H)
  ·simp only[eQ,↓iB]
   exact W
 ·cases nb
  ·simp only[u0,aOq,↓jN,a7i,↓iB]
   exact W
  obtain⟨j,rfl⟩:∃j,D=j+1:=⟨D-1,X⟩
  simp only[u0,aPh,↓jA,a5C]
  refine aQP N Z λu=>?_
  cases u
  ·simp only[aP2 (D:=j) Z,eQ,↓iC]
   refine aS4 (ih j Z) N Z A λa l h' s5 g1 g2 g3 g4 P R5=>?_
   simp only[qz 74,qy 76,aSZ g1,aY]
   exact S P (T.trans R5) (out N R5 O q3) A (aPq (index:=[]) (els:=[]) g1 (.inl ⟨A,A⟩) (λq w=>(g4 q w).1.old T.f) aBY) (aPB (index:=[]) X aBY) (aOJ (λh=>aYx h H) (.inl A) H Z g3 O O H)
  ·simp only[eQ,↓iB]
   exact W
 ·refine⟨λhn=>?_,λ_=>W⟩
  obtain⟨j,rfl⟩:∃j,D=j+1:=⟨D-1,X⟩
  refine aPJ N O λC B G=>?_
  have q4:=G.kq q3
  obtain⟨co,b0,s',cp,bs,b3,bk⟩:=B.mx
  simp only[qz 78,nlP bk,eS,bk,iF,bc5]
  refine aO4 B λy s5 y1 y2 P F5=>?_
  have y2:=y2 H
  have q5:=F5.kq q4
  simp only[qz 80,eQ,eM (x:=1+y) Z Z]
  refine aQQ (ih 0 Z) P Z A Z Z λa l h' s6 g1 g2 g3 g4 M6 R6=>?_
  have q6:=out P R6 O q5
  simp only[qz 82,qy 84,a5P g1,aY]
  refine anu M6.le λv7 s7 F7 N7 b7=>?_
  have M7:=M6.fx0 F7
  have q7:=F7.kq q6
  have G7:=g1.fx F7 O
  have a4:=(T.trans<|.ofm G).trans<|.ofb F5
  obtain⟨bp,bn,s8,bq,bg,bo,ar⟩:=M7.mx
  simp only[qz 86,nlP ar,eS,ar]
  refine aPJ M7 O λs9 M9 F9=>?_
  have q9:=F9.kq q7
  have b9:=F9.kq b7
  have G9:=G7.fx F9 (λq w e=>by have:=(g4 q w).2;simp at e;subst e;simp at this)
  simp only[qz 88,qy 90,aEa b9 A,aY]
  exact S M9 (((a4.trans R6).trans<|.of0 F7).trans<|.ofm F9) q9 A (aPq (index:=[]) (els:=[]) G9 (.inl ⟨A,A⟩) bse aBY) (aPB (index:=[]) X aBY) (aOJ Z (.inl A) H Z (by grind [shS.mono]) O O H)
 ·cases nb
  ·simp only[u0,↓jN,a7i,↓iB]
   exact W
  cases a1
  ·obtain⟨j,rfl⟩:∃j,D=j+1:=⟨D-1,X⟩
   simp only[nlP k,eS,k,iF,bkl,bc5,↓jA,a5C,↓iC]
   refine aPJ N O λC B G=>?_
   have q4:=G.kq q3
   simp only[qz 92,eQ,aP2 (D:=j) Z]
   refine aQQ (ih j Z) B Z A Z Z λa l h' s6 g1 g2 g3 g4 M6 R6=>?_
   have q6:=out B R6 O q4
   simp only[qz 94,qy 96,a5P g1,aY]
   refine anu M6.le λv7 s7 F7 N7 b7=>?_
   have M7:=M6.fx0 F7
   have q7:=F7.kq q6
   have G7:=g1.fx F7 O
   have a4:=T.trans<|.ofm G
   obtain⟨bp,bn,s8,bq,bg,bo,ar⟩:=M7.mx
   simp only[qz 98,nlP ar,eS,ar]
   refine aPJ M7 O λs9 M9 F9=>?_
   have q9:=F9.kq q7
   have b9:=F9.kq b7
   have G9:=G7.fx F9 (λq w e=>by have:=(g4 q w).2;simp at e;subst e;simp at this)
   simp only[qz 100,qy 102,aEa b9 A,aY]
   exact S M9 (((a4.trans R6).trans<|.of0 F7).trans<|.ofm F9) q9 A (aPq (index:=[]) (els:=[]) G9 (.inl ⟨A,A⟩) bse aBY) (aPB (index:=[]) X aBY)<|aOJ Z (.inl A) H Z g3 O O H
  ·simp only[nlP k,eS,k,iF,bkl,bc5,↓jA,a5C,↓iB]
   exact W
 ·cases nb
  ·simp only[u0,aOq,↓jN,a7i,↓iB]
   exact W
  cases a1
  ·simp only[nlP k,eS,k,iF,bkl,bc5,aPh,↓jA,a5C]
   refine aQP N Z λu=>?_
   cases u
   ·have ak:bM bsW alz [(0,iv 9),(2,sv [99])]=V (.a [iv 9,iv 0,sv [99],sv [], .l [] U U,iv 0,iv 0,sv [], .l [] U U, .l [] U U, .l [] U U]):=A
    simp only[ak,jM,kU,jt,tW,aD6,Fa,eQ,↓iC]
    simp only[baQ,bQ,qz 106,qy 108,a5Q,aY]
    refine⟨by simp[lo,nA,aNN,iR],by rw[aXP A];trivial,S N T q3 A aRm bu9<|aOJ Z (.inl A) H H ?_ O O H⟩
    obtain⟨j,rfl⟩:∃j,D=j+1:=⟨D-1,X⟩
    intro y hy
    simp only[eW,ql,brT] at hy
    obtain rfl|rfl:=hy
    ·exact aOI Z (.inl A) H H
    ·exact aOI (λ_=>⟨.inl ⟨.inr A,A⟩,buM⟩) (.inl A) H H
   ·simp only[eQ,↓iB]
    exact W
  ·simp only[nlP k,eS,k,iF,bkl,bc5,aOq,↓jA,↓jN,a5C,a7i,↓iB]
   exact W
 ·cases nb
  ·simp only[nlP k,eS,k,iF,bc5,aOq,↓jN,a7i,↓iB]
   exact W
  simp only[u0,aPh,↓jA,a5C]
  refine aQP N Z λu=>?_
  cases u
  ·simp only[nlP k,eS,k,iF,bc5,↓iC]
   refine aO4 N λy C y1 y2 B G=>?_
   have y2:=y2 H
   have q4:=G.kq q3
   have ak:∀o:Int,bM bsW alz [(0,iv o),(2,sv [99])]=V (.a [iv o,iv 0,sv [99],sv [], .l [] U U,iv 0,iv 0,sv [], .l [] U U, .l [] U U, .l [] U U]):=λ_=>A
   simp only[qz 112,ak,baL,bQ,qz 114,qy 116,a5Q,eM (x:=10+y) Z Z,eQ]
   refine S B (T.trans<|.ofb G) q4 A aRm bu9<|aOJ Z (.inl A) H O ?_ O O H
   obtain⟨j,rfl⟩:∃j,D=j+1:=⟨D-1,X⟩
   intro z hz
   simp only[eW,ql,brT] at hz
   subst hz
   exact aOI (λh=>Z) (.inl A) H Z
  ·simp only[eQ,↓iB]
   exact W
 ·cases tx
  ·cases lp
   ·cases s
    ·simp only[nlP k,eS,k,iF,bkl,bc5,↓jA,a5C,Bool.and_self,↓iC]
     refine aPJ N O λC B G=>?_
     have q4:=G.kq q3
     simp only[qz 118]
     refine aQO B λr s5 hr P F5=>?_
     obtain⟨e,t,o,he,rfl⟩:=hr
     have q5:=F5.kq q4
     have ak:bM bsW alz [(0,iv 14),(2,sv [102]),(5, .a [iv e.op,iv e.n,st e.name, .l (e.l.map aNK.c) t o])]=V (.a [iv 14,iv 0,st ⟨#[102]⟩,st ⟨#[]⟩, .l (([]:List aNK).map aNK.c) U U,iv e.op,iv e.n,st e.name, .l (e.l.map aNK.c) t o, .l (([]:List amt).map amt.c) U U, .l (([]:List amt).map amt.c) U U]):=A
     simp only[qz 120,qy 122,ak,aY]
     exact S P ((T.trans<|.ofm G).trans<|.ofb F5) q5 A aRm bu9 (by grind [aOI,shE.len])
    ·simp only[nlP k,eS,k,iF,bkl,bc5,↓jA,a5C,Bool.and_self,↓iB]
     exact W
   ·simp only[nlP k,eS,k,iF,bkl,bc5,↓jN,a7i,qc,↓iB]
    exact W
  ·simp only[u0,↓jN,a7i,↓iB]
   exact W
 ·cases tx
  ·simp only[nlP k,eS,k,iF,bc5,aPh,↓jA,a5C]
   refine aO4 N λy C y1 y2 B G=>?_
   have q4:=G.kq q3
   have ak:bM bsW alz [(0,iv 15),(2,sv [97]),(3,sv [102])]=V (.a [iv 15,iv 0,st ⟨#[97]⟩,st ⟨#[102]⟩, .l (([]:List aNK).map aNK.c) U U,iv (aNK.mk 0 0 ⟨#[]⟩ []).op,iv (aNK.mk 0 0 ⟨#[]⟩ []).n,st (aNK.mk 0 0 ⟨#[]⟩ []).name, .l ((aNK.mk 0 0 ⟨#[]⟩ []).l.map aNK.c) U U, .l (([]:List amt).map amt.c) U U, .l (([]:List amt).map amt.c) U U]):=A
   simp only[ak,eQ]
   exact⟨λ_=>S B (T.trans<|.ofb G) q4 A aRm bu9<|aOI Z (.inl A) H H,λ_=>bi B (T.trans<|.ofb G) q4⟩
  ·simp only[u0,aOq,↓jN,a7i,↓iB]
   exact W
theorem ba1{D:Nat}(l:∀i,i<D->aQH m b i)(M:Mak Y m b hs h)(k:L hs+D<=500)(w:∀cs x g Y1,Lv Y Y1 cs (amt.c x)->(∀q∈aNN (.a cs),q.1=30\/q.1=126)->shS (D+1) x->Mak Y1 m b hs g->RH m b Y h Y1 g->K (.a cs) Y1):cB 275 [.p m 0 0,iv D] Y d K:=jH A (bdy l M k)<|by rintro r Y1 ⟨cs,x,g,rfl,n,s,u,v,j⟩;exact⟨j.f.len,X⟩
theorem J7.bx{e z a bA}(g:J7 Y e z a bA):∀q∈aA a,∃x,box Y q=V x:=by obtain⟨_,rfl⟩|⟨b,m,rfl,c⟩:=g;simp[aA];grind [aA]
theorem bdw:∀D,aQH m b D:=by
 intro D
 induction D using Nat.strongRecOn with
 |ind D ih=>
 intro Y hs h n M hl P h3
 have:=M.sm
 have:=M.sb
 refine bgq M.le ?_
 simp only[aUP]
 refine jD (α:=AV×List amt×AV) (λx i=>[x.1,iv i]) 1 n.toNat (λk x Y'=>J7 Y' 300 11 x.1 (x.2.1.map amt.c)/\L x.2.1<=k/\(∀y∈x.2.1,shS (D+1) y)/\(∀q∈aA x.1,bK Y q/\q.1=30)/\Mak Y' m b hs x.2.2/\RH m b Y h Y' x.2.2)
  (s0:=(.l [] U U,[],h)) ⟨.inl ⟨A,A⟩,O,O,aBY,M,RH.refl⟩ ?_
 rintro k ⟨a1,l1,h1⟩ Y1 hk ⟨g1,g2,g3,g4,C,v⟩
 simp only at g1 g2 g3 g4 C v
 obtain⟨th,lf,s,tx,aw,lp,r⟩:=C.mx
 have G:aRf (SsR Y m b hs h D n) Y1 [a1]:=⟨l1,h1,g1,Z,g3,g4,C,v⟩
 have F:k<n.toNat->∀d I1 m1 vs,vs=[a1,iv k]->(I1=yI (λ(x:AV×List amt×AV) i=>[x.1,iv i]) n.toNat λk x Y'=>J7 Y' 300 11 x.1 (x.2.1.map amt.c)/\L x.2.1<=k/\(∀y∈x.2.1,shS (D+1) y)/\(∀q∈aA x.1,bK Y q/\q.1=30)/\Mak Y' m b hs x.2.2/\RH m b Y h Y' x.2.2)->m1=gM 1 n.toNat->cB 275 [.p m 0 0,iv D] Y1 d (aUQ vs I1 m1 Y1):=by
  rintro j d I1 m1 vs rfl rfl rfl
  refine ba1 ih C hl λcs x h' S Lw k1 k2 M2 E=>?_
  have:L cs=11:=by have:=bss L Lw.eq;grind [brR]
  have ae:aX bs4 1 S [(0, .a cs)]=V (.l ([x].map amt.c) U U,kills S<|aNN<|.a cs):=aQm Lw.eq brR H bbd H
  simp only[aUQ,ae,bQ,au]
  have B:=aOp (aNN<|.a cs) S
  have ka:∀q∈aA a1,q∉aNN (.a cs):=λq z R=>by
   obtain⟨x,hx⟩:=g1.bx q z
   exact(Lw.nw q R).ne hx A
  have G3:=(g1.fx E.f<|by grind [Mak.out]).fx B ka
  have W:=M2.fx B X X (λq z R=>buL)
  refine apQ G3 W.le bt3 bt3 O NA λa' s6 g6 T N6=>?_
  rw[<-dg] at g6
  have M6:=W.fx T X X (λq z R=>buL)
  have:=(v.f.trans E.f).trans B
  have R6:RH m b Y h s6 h':=⟨((v.trans E).f.trans<|B.trans T).mono λq z=>by
   obtain g|g:=dF.1 z
   ·exact .inl g
   obtain g|g:=dF.1 g
   ·exact .inr ((Lw.nw q g).old v.f).no
   grind [bK.no],(v.trans E).i⟩
  simp only[aZ9,au,eQ,↓uL]
  refine dR (mk:=λ(x:AV×List amt×AV) i=>[x.1,iv i]) (p:=1) (s:=(a1,l1,h1)) (s':=(a',l1++[x],h')) (λ_ _=>A) j Z ⟨g6.p,NA,?_,bse,M6,R6⟩
  grind
 obtain j|j:=Decidable.em<|(k:Int)<n
 ·have w:=bsi j
  have F:=F Z
  obtain P|P:=oD k
  ·have u:Q ((k:Int)=0)=U:=by simp[P]
   simp only[aRp,au,w,u,eQ,↓jA,↓jN,a5C,↓iC,↓uL]
   exact F _ _ _ _ A rfl rfl
  ·have u:Q ((k:Int)=0)=I:=NA
   rcases N:Q (0<lf) with _|_
   ·simp only[aRp,au,w,u,N,nlP r,eS,r,iF,bkl,bc5,↓jA,a5C,a7i,↓iB,↓uL]
    exact G
   ·simp only[aRp,au,w,u,N,nlP r,eS,r,iF,bkl,bc5,↓jA,a5C,a7i,↓iC,↓uL]
    exact F _ _ _ _ A rfl rfl
 ·have w:=bqN j
  simp only[aRp,au,w,eQ,↓jN,a7i,↓iB,↓uL]
  exact G
end
section
attribute[local irreducible] aX
def bg4{c b}:=yB1 290 6 3 aNH func209 at1 b [c, .a b]
def bg6{c b d}:=yB1 298 4 4 aNH func302 atB b [c, .a b,d]
def a9t:=I9 11 []
def bg1{c b}:=yB1 300 11 3 aNH func298 a9t b [c, .a b]
def a9u:=I9 19 []
def bg2{c b}:=yB1 300 11 3 aNH func299 a9u b [c, .a b]
def bg0{c b d e f}:=yB1 300 11 6 aNH func300 auF b [c, .a b,d,e,f]
def a9x:=I9 21 [(6,([31],[0,3,4,25]))]
def bg5{c b}:=yB1 300 11 3 aNH func274 a9x b [c, .a b]
def a9y:=I9 5 [(1,([4],[0,1]))]
def a7T{a a1}:=yB aNH func208 a9y [a,a1]
end
structure Gn(κ:Int)(Y:ae)(b:Id)(w:aOw)(loc:List ByteArray)(a:AV)(n:Nat):Prop where
 bx0:∃s nx:Int,(0<=nx/\nx<=n+κ)/\box Y b=V ⟨286,10,U,U,[[sl cA.c w.cells,sl dS.c w.ak,sl yp.c w.bC,sl cs w.bU,sl cs w.ay,sl dL.c w.dU,sl cs loc,a,iv s,iv nx]]⟩
 ga:∃out:List aRV,J7 Y 290 6 a (out.map aRV.c)/\L out=n
 le:L Y=4096
 sb:b.1=45
 sa:∀q∈aA a,q.1=16
 wb:WBd w
 lb:L loc<1000
 hq:∃c∈w.cells,c.name=qN
theorem Gn.bx{κ Y b w loc a n}(G:Gn κ Y b w loc a n):∃s nx:Int,box Y b=V ⟨286,10,U,U,[[sl cA.c w.cells,sl dS.c w.ak,sl yp.c w.bC,sl cs w.bU,sl cs w.ay,sl dL.c w.dU,sl cs loc,a,iv s,iv nx]]⟩:=by grind [Gn.bx0]
def aRZ{w:aOw}{l}:aN (V 6) (sl cA.c w.cells::sl dS.c w.ak::sl yp.c w.bC::sl cs w.bU::sl cs w.ay::sl dL.c w.dU::l)=V (.a w.c):=rfl
structure R4(b:Id)(Y:ae)(a:AV)(Y1:ae)(a1:AV):Prop where
 f:Fx Y Y1 (b::aA a)
 i:∀q∈aA a1,q∈aA a\/bK Y q
section
variable{κ:Int}{Y Y0 Y1 Y2:ae}{b:Id}{w:aOw}{loc:List ByteArray}{a a0 a1 a2:AV}{n N:Nat}{d:Nat}{K:be}{ol:List aRV}
theorem R4.refl:R4 b Y a Y a:=⟨Fx.refl _ _,λ_ h=> .inl h⟩
theorem R4.trans(h:R4 b Y a Y1 a1)(c:R4 b Y1 a1 Y2 a2):R4 b Y a Y2 a2:=by refine⟨(h.f.trans c.f).mono λq e=>?_,λq e=>(c.i q e).elim (h.i q) λg=> .inr<|g.old h.f⟩;grind [R4.i,bK.no]
def R4.of0(F:Fx Y Y1 []):R4 b Y a Y1 a:=⟨F.mono O,λ_ h=> .inl h⟩
theorem R4.ofb(F:Fx Y Y1 [b]):R4 b Y a Y1 a:=⟨(by grind [Fx.mono]),λ_ h=> .inl h⟩
theorem Gn.fx(G:Gn κ Y b w loc a n){ks}(F:Fx Y Y1 ks)(f:b∉ks)(c:∀q∈aA a,q∉ks):Gn κ Y1 b w loc a n:=by obtain⟨s,nx,i,h⟩:=G.bx0;obtain⟨out,g,e⟩:=G.ga;exact⟨bsq,⟨out,g.fx F c,e⟩,F.len.trans G.le,G.sb,G.sa,G.wb,G.lb,G.hq⟩
theorem Gn.mono(G:Gn κ Y b w loc a n){κ'}(h:κ<=κ'):Gn κ' Y b w loc a n:=by obtain⟨s,nx,e,c⟩:=G.bx0;exact⟨X,G.ga,G.le,G.sb,G.sa,G.wb,G.lb,G.hq⟩
theorem Gn.fx0(G:Gn κ Y b w loc a n)(F:Fx Y Y1 []):Gn κ Y1 b w loc a n:=G.fx F O O
theorem Gn.out(G:Gn κ Y b w loc a n):∀q,q.1≠45->q.1≠16->q∉b::aA a:=λq c e f=>by
 grind [Gn.sb,Gn.sa]
def GR(κ:Int)(N:Nat)(Y:ae)(b:Id)(w:aOw)(loc:List ByteArray)(a:AV)(n:Nat)(r:AV)(Y1:ae):Prop:=∃e c,r= .t []/\Gn κ Y1 b w loc e c/\n<=c/\c<=n+N/\R4 b Y a Y1 e
theorem aPv{fn xs}(i:uQ.elem fn=I)(h:∃r Y1,GR κ N Y b w loc a n r Y1/\cZ aS GG fn xs Y r Y1)(m:∀e c Y1,Gn κ Y1 b w loc e c->n<=c->c<=n+N->R4 b Y a Y1 e->K (.t []) Y1):cB fn xs Y d K:=jH i h<|by rintro r Y1 ⟨e,c,rfl,j,k,l,g⟩;exact⟨g.f.len,X⟩
theorem bdp(G:Gn κ Y b w loc a n)(hn:n<100000)(x:aRV):∃r Y1,(∃h,r= .t []/\Gn (κ-1) Y1 b w loc h (n+1)/\R4 b Y a Y1 h)/\cZ aS GG 209 [.p b 0 0, .a x.c] Y r Y1:=by obtain⟨W,b2⟩:=b;obtain rfl:W=45:=G.sb;refine bg4 G.le A λs2 v3 S ag nf2 P=>?_;have B:=S.fx [];have G2:=G.fx0 B;obtain⟨s,nx,E⟩:=G2.bx;simp only[nlP E,eS,E,P,iF,bkl,bc5];refine A0 P A (by show 5<6;decide) λy C q3=>?_;have R:box y (3,v3)=V ⟨290,6,U,U,[aRV.c {x with site:=s}]⟩:=q3;have j:=G2.fx C O (λq i e=>by grind [Gn.sa]);obtain⟨s',ah,M,k⟩:=j.bx0;have F:∀{x:aRV},aX byn 1 y [(0, .a<|aRV.c x)]=V (.l ([x].map aRV.c) U U,y):=λ{x}=>ua A rfl rfl H A H;simp only[qz 4,qy 6,nlP k,gp,k,R,F];obtain⟨out,g,hl⟩:=j.ga;refine apQ g j.le (qW (f:=aRV.c) (z:=6) λ_=>A) (by grind [aRV.c]) O NA λh s4 v o T=>?_;rw[<-dg] at v;have m:=o.keep _ _ (λi=>by have:=j.sa _ i;simp at this) k;simp only[qz 8,nlP m,eS,m];refine A0 m v.p.ce O λs5 u b5=>?_;refine dT (by first|rfl|(simp[eL,okT,tok,lb,cq,Qh,aNG,dC,pP,dK,aRV.c];done)) ?_;have D:∀q∈aA h,q∉[((45,b2):Id)]:=X;have ad:∀q∈aA h,bK Y q:=bse;refine⟨h,A,⟨⟨_,_,⟨M.1,Z⟩,b5⟩,⟨out++[_],v.p.fx u D,by simp[hl]⟩,u.len.trans<|o.len.trans j.le,A,λq i=>(T q i).2,G.wb,G.lb,G.hq⟩,⟨(((B.trans C).trans o).trans u).mono λq i=>?_,vB⟩⟩;grind
theorem aPw(G:Gn κ Y b w loc a n)(i:n<100000){x:aRV}(k:∀e Y1 g,Gn (κ-1) Y1 b w loc e g->n+1<=g->g<=n+1->R4 b Y a Y1 e->K (.t []) Y1):cB 209 [.p b 0 0, .a x.c] Y d K:=jH A (bdp G i x)<|by rintro r Y1 ⟨e,rfl,j,h⟩;exact⟨h.f.len,X⟩
theorem a58(h:∃c∈w.cells,c.name=qN):aF (L w.cells) (uo (λi=>Q<|(gd w.cells i).name=qN)<|L w.cells):=by obtain⟨c,f,k⟩:=h;obtain⟨j,g,rfl⟩:=ou f;have e:=aTb (p:=λi=>Q<|(gd w.cells i).name=qN) (n:=L w.cells);refine⟨?_,e.2⟩;unfold uo;split;omega;simp_all [aNV]
def bV:Nat->Nat|0=>0|m+1=>1+2*bV m
def ban{o x y:Int}:bM byn anY [(0,iv o),(1,iv x),(4,iv y)]=V (.a<|aRV.c ⟨o,x,0,0,y,0⟩):=rfl
def bao{o x y:Int}:bM byn anY [(0,iv o),(1,iv x),(2,iv y)]=V (.a<|aRV.c ⟨o,x,y,0,0,0⟩):=rfl
def bap{o x y z u:Int}:bM byn anY [(0,iv o),(1,iv x),(2,iv y),(3,iv z),(4,iv u)]=V (.a<|aRV.c ⟨o,x,y,z,u,0⟩):=rfl
def baq{o x:Int}:bM byn anY [(0,iv o),(1,iv x)]=V (.a<|aRV.c ⟨o,x,0,0,0,0⟩):=rfl
def bar{o:Int}:bM byn anY [(0,iv o)]=V (.a<|aRV.c ⟨o,0,0,0,0,0⟩):=rfl
def bdI:=ai @ban<|ai @bao<|ai @bap<|ai @baq<|@bar
theorem GR.mono{N M r}(h:GR κ N Y b w loc a n r Y1)(l:N<=M):GR κ M Y b w loc a n r Y1:=by obtain⟨c,j,e,f,g,k,i⟩:=h;exact⟨c,j,e,f,g,Z,i⟩
theorem btn{p:Prop}(h:p:=by grind [Go.Ab.Gn.out]):p:=h
theorem bdC:∀(m) {Y a n e dd},Gn κ Y b w loc a n->n+bV m<100000->shE m e->∃r Y1,GR (κ-1) (bV m) Y b w loc a n r Y1/\cZ aS GG 302 [.p b 0 0, .a e.c,iv dd] Y r Y1:=by
 intro m
 induction m with
 |zero=>intro Y a n e dd G hn E;exact E.elim
 |succ m ih=>
  intro Y a n e dd G hn E
  obtain⟨b1,g⟩:=b
  obtain rfl:b1=45:=G.sb
  have:bV (m+1)=1+2*bV m:=A
  refine bg6 G.le aN9 λs2 v4 K2 az nf2 y=>?_
  have P:=K2.fx []
  have G2:=G.fx0 P
  have z:R4 (45,g) Y a s2 a:=R4.of0 P
  obtain⟨s,nx,hb⟩:=G2.bx
  have hW:=G.wb
  have:=G.lb
  have q4:∀q:Id,q.1=4->q∉((45,g):Id)::aA a:=btn
  have j:∀{u:ae} {v:AV} {h:Nat} {x:aRV} {d:Nat},Gn κ u (45,g) w loc v h->n<=h->h<=n+2*bV m->R4 (45,g) Y a u v->cB 209 [.p (45,g) 0 0, .a x.c] u d λaC al=>aRf (GR (κ-1) (bV<|m+1) Y (45,g) w loc a n) al []:=λi k h2 o=>
   aPw i Z λD Y1 C G' g1 W R'=>⟨D,C,A,G',Z,Z,o.trans R'⟩
  have val:∀{u:ae} {v:AV} {h:Nat} {T:aNK} {S:Int} {d:Nat} {K:be},Gn κ u (45,g) w loc v h->h<=n+bV m->shE m T->(∀D C Y1,Gn κ Y1 (45,g) w loc D C->h<=C->C<=h+bV m->R4 (45,g) u v Y1 D->K (.t []) Y1)->cB 302 [.p (45,g) 0 0, .a T.c,iv S] u d K:=λi k ac hK=>aPv A (ih i Z ac) (by grind [Gn.mono])
  have:=E.2
  obtain⟨k|k,ax⟩|⟨k,af,ay⟩|⟨k,ad⟩:=E.1
  ·simp only[qy 4,gp,y,k,bqQ,↓iC,bdI]
   exact j G2 Z Z z
  ·have B:dG s2 (.a w.c)= .a w.c:=A
   simp only[qy 6,qy 8,nlP hb,gp,hb,y,aRZ,k,bqQ,bqF,Int.reduceEq,↓iC,↓iB,jM,kU,jt,B,tW,alg,oi,AL,bdI]
   exact⟨Z,λ_=>j G2 Z Z z,λ_=>⟨by have:=hW.1;omega,j G2 Z Z z⟩⟩
  ·simp only[jB,y,k,bqQ,bqF,Int.reduceEq,↓iC,↓iB,ixv]
   refine⟨⟨Z,Z⟩,val G2 Z bv8 λv h s3 i g1 W o=>?_⟩
   have F:=o.f.keep _ _ (q4 _ A) y
   obtain⟨s',aB,M⟩:=i.bx
   have B:dG s3 (.a w.c)= .a w.c:=A
   simp only[qz 10,qy 12,nlP M,fD,M,F,J9,aRZ,af,jM,kU,jt,B,tW,oi,AL,bdI]
   exact⟨by have:=hW.1;omega,a58 G.hq,j i Z Z<|z.trans o⟩
  ·have o1:e.op≠1:=Z
   have o2:e.op≠2:=Z
   have o3:e.op≠3:=Z
   have ol:Q ((L e.l:Int)=1)=I:=by simp[ad]
   simp only[jB,y,o1,o2,o3,ol,bqF,↓iB,ixv]
   refine⟨⟨Z,Z⟩,val G2 Z bv8 λv h s3 i g1 W o=>?_⟩
   have F:=o.f.keep _ _ (q4 _ A) y
   simp only[qz 18,jB,F,ixv]
   refine⟨⟨Z,Z⟩,val i Z bv8 λa5 n5 s5 G5 g3 g4 R=>?_⟩
   have q5:=R.f.keep _ _ btn F
   simp only[qz 20,qy 22,gp,q5,bdI]
   exact j G5 Z Z<|(z.trans o).trans R
theorem aRF(G:Gn κ Y b w loc a n)(j:n<90000){e}(i:shE 2 e){dd}(h:∀g f Y1,Gn (κ-1) Y1 b w loc g f->n<=f->f<=n+3->R4 b Y a Y1 g->K (.t []) Y1):cB 302 [.p b 0 0, .a e.c,iv dd] Y d K:=aPv A (bdC 2 G (by grind [bV]) i) h
theorem bda(G:Gn κ Y b w loc a n)(hn:n<80000){x:amt}(P:shE 2 x.expr)(hI:∀y∈x.index,shE 2 y)(S:x.index≠[]->x.name=qN)(an:L x.index<=1):∃r Y1,GR (κ-1) 7 Y b w loc a n r Y1/\cZ aS GG 298 [.p b 0 0, .a x.c] Y r Y1:=by
 obtain⟨b1,i⟩:=b
 obtain rfl:b1=45:=G.sb
 refine bg1 G.le brR λs2 v3 K2 ao nf2 z=>?_
 have B:=K2.fx []
 have G2:=G.fx0 B
 have u:R4 (45,i) Y a s2 a:=R4.of0 B
 obtain⟨s,nx,M⟩:=G2.bx
 have F:=G.wb
 have:=G.lb
 have j:∀{v:ae} {m:AV} {l:Nat} {x:aRV} {d:Nat},Gn κ v (45,i) w loc m l->n<=l->l<=n+6->R4 (45,i) Y a v m->cB 209 [.p (45,i) 0 0, .a x.c] v d λap aa=>aRf (GR (κ-1) 7 Y (45,i) w loc a n) aa []:=λg h1 h2 e=>
  aPw g Z λa' Y1 n' G' g1 E R'=>⟨a',n',A,G',Z,Z,e.trans R'⟩
 simp only[nlP M,jB,M,z,ixv]
 refine⟨λh=>?_,λh=>?_⟩
 ·have:0<L x.index:=by simpa using h
  have R:x.index≠[]:=X
  refine⟨⟨Z,Z⟩,aRF G2 Z bv8 λm l W g g1 E e=>?_⟩
  have o:=e.f.keep _ _ btn z
  simp only[qz 4,eS,o,J9]
  refine aRF g Z P λa5 n5 s5 C g3 g4 D=>?_
  have q5:=D.f.keep _ _ btn o
  obtain⟨s',T,t⟩:=C.bx
  have k:dG s5 (.a w.c)= .a w.c:=A
  simp only[qz 6,qy 8,nlP t,fD,t,q5,J9,aRZ,S R,jM,kU,jt,k,tW,oi,AL,bdI]
  exact⟨by have:=F.1;omega,a58 G.hq,j (C.mono Z) Z Z<|(u.trans e).trans D⟩
 ·refine aRF G2 Z P λm l W g g1 E e=>?_
  have o:=e.f.keep _ _ btn z
  obtain⟨s',T,q⟩:=g.bx
  have k:dG W (.a w.c)= .a w.c:=A
  simp only[qz 10,qy 12,qy 14,nlP q,eS,q,o,J9,aRZ,jM,kU,jt,k,tW,alg,oi,AL,bdI]
  exact⟨Z,λ_=>j (g.mono Z) Z Z<|u.trans e,λ_=>⟨by have:=F.1;omega,j (g.mono Z) Z Z<|u.trans e⟩⟩
theorem bcN(g:J7 Y 290 6 a<|ol.map aRV.c){i:Nat}(u:i<L ol){j:Nat}(z:j=1\/j=2){v:Int}{K}(t:∀(Y') (e:List aRV),L e=L ol->J7 Y' 290 6 a (e.map aRV.c)->Fx Y Y' (aA a)->K Y'):rV (cz 6 Y a<|iv i) λk=>rV (iQ j Y k) λl=>sV (aK 1 Y l<|iv v) K:=by obtain⟨h,rfl⟩|⟨q,m,rfl,f⟩:=g;simp_all;have r:cz 6 Y (.m q<|L<|ol.map aRV.c) (iv i)=V (.p q i 0):=(by simp[cz,f,u]);have s:iQ j Y (.p q i 0)=V (.p q i j):=(by simp[iQ,f]);simp only[r,s,aY];have B:(ol.map aRV.c++m)[i]?=V (aRV.c<|gd ol i):=brU;refine aQz (x:=iv v) f B (by show j<6;omega) A rfl rfl λY' F o=>?_;obtain⟨y,C⟩:∃y:aRV,(aRV.c<|gd ol i).set j (iv v)=y.c:=(by obtain rfl|rfl:=z;exact⟨{gd ol i with a:=v},A⟩;exact⟨{gd ol i with b:=v},A⟩);have hs:(ol.map aRV.c++m).set i ((aRV.c<|gd ol i).set j<|iv v)=(ol.set i y).map aRV.c++m:=vB;refine t Y' (ol.set i y) O (.inr ⟨q,m,O,?_⟩) bno;rw[o,<-hs];rfl
theorem Gn.patch(G:Gn κ Y b w loc a n){i}(p:i<n){j}(k:j=1\/j=2){v K}(f:∀Y',Gn κ Y' b w loc a n->R4 b Y a Y' a->K Y'):rV (cz 6 Y a<|iv i) λc=>rV (iQ j Y c) λe=>sV (aK 1 Y e<|iv v) K:=by obtain⟨s,nx,r,o⟩:=G.bx0;obtain⟨out,g,q⟩:=G.ga;refine bcN g Z k λY' out' l m F=>f Y' ⟨(by grind [Fx.keep,Gn.sa,Gn.sb]),X,F.len.trans G.le,G.sb,G.sa,G.wb,G.lb,G.hq⟩ ⟨(by grind [Fx.mono]),λ_ h=> .inl h⟩
theorem Gn.set(G:Gn κ Y b w loc a n){v K}(e:∀Y',Gn κ Y' b w loc a n->Fx Y Y' [b]->K Y'):sV (aK 1 Y (.p b 0 8)<|iv v) K:=by obtain⟨s,nx,h,f⟩:=G.bx0;obtain⟨out,g,i⟩:=G.ga;exact A0 f A O λY' F c=>e Y' ⟨⟨v,nx,h,c⟩,(by grind [J7.fx,Gn.sa,Gn.sb]),F.len.trans G.le,G.sb,G.sa,G.wb,G.lb,G.hq⟩ F
theorem Gn.nxt(G:Gn κ Y b w loc a n){v}(h:0<=v)(i:v<=n+κ){K}(c:∀Y',Gn κ Y' b w loc a n->Fx Y Y' [b]->K Y'):sV (aK 1 Y (.p b 0 9)<|iv v) K:=by obtain⟨s,nx,k,e⟩:=G.bx0;obtain⟨out,g,j⟩:=G.ga;exact A0 e A O λY' F f=>c Y' ⟨vB,(by grind [J7.fx,Gn.sa,Gn.sb]),F.len.trans G.le,G.sb,G.sa,G.wb,G.lb,G.hq⟩ F
def bG:Nat->Nat|0=>0|m+1=>10+8*bG m
def aRo(b:Id)(w:aOw)(loc:List ByteArray)(m:Nat):Prop:=∀{κ:Int} {Y:ae} {a:AV} {n:Nat} {l:List amt},Gn κ Y b w loc a n->κ<=1000000->shL m 8 l->n+L l*bG m<60000->∃r Y1,GR κ (L l*bG m) Y b w loc a n r Y1/\cZ aS GG 208 [.p b 0 0,sl amt.c l] Y r Y1
theorem aV7{m}(i:aRo b w loc m)(G:Gn κ Y b w loc a n)(h:κ<=1000000){l}(e:shL m 4 l)(k:n+4*bG m<60000)(j:∀g f Y1,Gn κ Y1 b w loc g f->n<=f->f<=n+4*bG m->R4 b Y a Y1 g->K (.t []) Y1):cB 208 [.p b 0 0,sl amt.c l] Y d K:=by have:L l*bG m<=4*bG m:=qo _ e.1;exact aPv A (i G h ⟨by have:=e.1;omega,e.2⟩ Z) X
theorem bc9{m}(F:aRo b w loc m)(G:Gn κ Y b w loc a n){x}(E:shS (m+1) x)(hn:n+bG (m+1)<60000)(aa:κ<=1000001)(o1 P y):∃r Y1,GR (κ-1) (bG<|m+1) Y b w loc a n r Y1/\cZ aS GG 300 [.p b 0 0, .a x.c,iv o1,iv P,iv y] Y r Y1:=by obtain⟨m',W,g1,g2⟩:=E.body;obtain rfl:m=m':=Z;have:bG (m+1)=10+8*bG m:=A;obtain⟨C,D⟩:=b;obtain rfl:C=45:=G.sb;refine bg0 G.le brR λT v3 u ab nf2 R=>?_;have g:=u.fx [];have G2:=G.fx0 g;have v:R4 (45,D) Y a T a:=R4.of0 g;obtain⟨s,nx,k⟩:=G2.bx;simp only[nlP k,eS,k,iF,bkl,bc5,bdI];refine aPw G2 Z λa3 s3 n3 o h1 h2 i=>?_;have S:=i.f.keep _ _ btn R;simp only[qz 4,gp,S];refine aV7 F o Z g1 Z λa4 n4 s4 h h3 h4 j=>?_;obtain⟨s',ac,e⟩:=h.bx;simp only[qz 6,nlP e,eS,e];refine h.set λs5 q l=>?_;simp only[qz 8,qy 10,bdI,aY];refine aPw q Z λB s6 M t h5 h6 z=>⟨B,M,A,t.mono Z,Z,Z,(((v.trans i).trans j).trans<|R4.ofb l).trans z⟩
theorem a6I{m}(ih:aRo b w loc m)(G:Gn κ Y b w loc a n){x}(hx:shS (m+1) x)(he:shE 2 x.expr)(hn:n+bG (m+1)<60000)(aY:κ<=1000001):∃r Y1,GR (κ-1) (bG<|m+1) Y b w loc a n r Y1/\cZ aS GG 299 [.p b 0 0, .a x.c] Y r Y1:=by obtain⟨m',aV,g1,g2⟩:=hx.body;obtain rfl:m=m':=Z;have:bG (m+1)=10+8*bG m:=A;obtain⟨b1,S⟩:=b;obtain rfl:b1=45:=G.sb;refine bg2 G.le brR λs2 v3 K2 aZ nf2 q2=>?_;have C:=K2.fx [];have G2:=G.fx0 C;have:R4 (45,S) Y a s2 a:=R4.of0 C;obtain⟨s,nx,hb⟩:=G2.bx;obtain⟨o2,T,aW⟩:=G2.ga;simp only[nlP hb,gp,hb,q2,T.ln];refine aRF G2 Z he λa3 n3 s3 u h1 h2 R3=>?_;have q3:=R3.f.keep _ _ btn q2;obtain⟨s',a6,l⟩:=u.bx;obtain⟨o3,W,ad⟩:=u.ga;simp only[qz 4,nlP l,eS,l,iF,bkl,bc5,W.ln,bdI];refine aPw u Z λa4 s4 n4 G4 h3 h4 F=>?_;have q4:=F.f.keep _ _ btn q3;simp only[qz 6,gp,q4];refine aV7 ih G4 Z g1 Z λP n5 s5 E h5 h6 R5=>?_;have q5:=R5.f.keep _ _ btn q4;obtain⟨bb,aI,o⟩:=E.bx;simp only[qz 8,nlP o,eS,o];refine E.set λs6 h F6=>?_;have q6:=F6.kq q5;have M:R4 (45,S) Y a s6 P:=(by grind [R4.trans,R4.ofb]);obtain⟨bd,a8,q⟩:=h.bx;obtain⟨o6,aa,ae⟩:=h.ga;have z:L (o3.map aRV.c)=n3:=(by simp[ad]);simp only[qz 10,qy 16,nlP q,gp,q,q6,aa.ln,bdI,z];refine⟨λ_=>?_,λ_=>⟨λ_=>?_,λ_=>?_⟩⟩;refine aPw h Z λR s7 n7 g h7 h8 y=>?_;obtain⟨ap,al,e⟩:=g.bx;obtain⟨o7,k,af⟩:=g.ga;simp only[qz 12,qy 14,nlP e,eS,e,iF,bkl,bc5,k.ln];refine g.patch Z (.inr A) λs8 i j=>?_;exact⟨R,n7,A,i.mono Z,Z,Z,(M.trans y).trans j⟩;refine h.patch Z (.inr A) λs8 i j=>?_;exact⟨P,n5,A,i.mono Z,Z,Z,M.trans j⟩;refine aPw h Z λR s7 n7 g h7 h8 y=>?_;have q7:=y.f.keep _ _ btn q6;obtain⟨ap,al,e⟩:=g.bx;obtain⟨o7,k,af⟩:=g.ga;simp only[qz 18,nlP e,eS,e,iF,bkl,bc5,k.ln];refine g.patch Z (.inr A) λs8 i j=>?_;have q8:=j.f.keep _ _ btn q7;simp only[qz 20,gp,q8];refine aV7 ih i Z g2 Z λa9 n9 s9 v h9 aU R9=>?_;obtain⟨be,ba,t⟩:=v.bx;obtain⟨o9,ab,aX⟩:=v.ga;have B:L (o6.map aRV.c)=n5:=(by simp[ae]);simp only[qz 22,qy 24,nlP t,eS,t,iF,bkl,bc5,ab.ln,B];refine v.patch Z (.inl A) λbc D aT=>?_;exact⟨a9,n9,A,D.mono Z,Z,Z,by grind [R4.trans]⟩
theorem bde(G:Gn κ Y b w loc a n)(h):∃r Y1,((∃v,r= .s v/\∃u:Int,AV.s v=iv u)/\Fx Y Y1 [])/\cZ aS GG 301 [.p b 0 0,st h] Y r Y1:=bg3 G.le<|by obtain⟨s,nx,e⟩:=G.bx;have:=G.wb.2.2.1;refine bid (L w.bC) (λk=>True) trivial λk j i=>?_;have g:∀u:Int,aRf (λr Y1=>(∃v,r= .s v/\∃u:Int,AV.s v=iv u)/\Fx Y Y1 []) Y [iv u]:=λu=>⟨⟨_,A,u,A⟩,Fx.refl _ _⟩;simp+contextual only[qz 19,au,nlP e,eT,e,iF,bkl,bc5,aBz (f:=yp.c) (z:=2)<|λ_=>A,bh,g];grind [dJ,bkg]
theorem baW(G:Gn κ Y b w loc a n){c}(e:∀u,K (iv u) Y):cB 301 [.p b 0 0,st c] Y d K:=aV6 A (bde G c) vB
theorem bdx{m}(ih:aRo b w loc m)(G:Gn κ Y b w loc a n){x}(P:shS (m+1) x)(hn:n+bG (m+1)<60000)(aL:κ<=1000000):∃r Y1,GR κ (bG<|m+1) Y b w loc a n r Y1/\cZ aS GG 274 [.p b 0 0, .a x.c] Y r Y1:=by
 have C:=P.at
 have:=P.ops
 have:bG (m+1)=10+8*bG m:=A
 obtain⟨b1,i⟩:=b
 obtain rfl:b1=45:=G.sb
 refine bg5 G.le brR λs2 v3 K2 aM nf2 q2=>?_
 have F2:=K2.fx []
 have G2:=G.fx0 F2
 obtain⟨s,nx,hb⟩:=G2.bx
 simp only[nlP hb,eS,hb,iF,bkl,bc5]
 refine G2.set λs3 R F3=>?_
 have q3:=F3.kq q2
 obtain⟨s',ar,aK,T⟩:=R.bx0
 simp only[qz 4,nlP T,eS,T,iF,bkl,bc5,eM (x:=ar+1) Z Z]
 refine(R.mono (κ':=κ+1) Z).nxt Z Z λF g F4=>?_
 have q4:=F4.kq q3
 have j:R4 (45,i) Y a F a:=((R4.of0 F2).trans<|R4.ofb F3).trans<|R4.ofb F4
 obtain⟨aO,aD,D⟩:=g.bx
 have B:=g.wb
 have:=g.lb
 have S:∀{Y3:ae} {a3:AV} {n3:Nat} {x:aRV} {d:Nat},Gn (κ+1) Y3 (45,i) w loc a3 n3->n<=n3->n3<=n+3->R4 (45,i) Y a Y3 a3->cB 209 [.p (45,i) 0 0, .a x.c] Y3 d λaa v=>aRf (GR κ (bG<|m+1) Y (45,i) w loc a n) v []:=λR l o R3=>
  aPw R Z λk Y1 q G' g1 g2 R'=>⟨k,q,A,G'.mono Z,Z,Z,R3.trans R'⟩
 have t:∀{o1 o2 y:Int} {d:Nat},cB 300 [.p (45,i) 0 0, .a x.c,iv o1,iv o2,iv y] F d λaa v=>aRf (GR κ (bG<|m+1) Y (45,i) w loc a n) v []:=λ{o1 o2 y d}=>
  aPv A (bc9 ih g P hn Z o1 o2 y) λk q Y1 l o E z=>⟨k,q,A,l.mono Z,o,E,j.trans z⟩
 have M:∀{nm:ByteArray} {d:Nat} {K:be},(∀u:Int,K (iv u) F)->cB 301 [.p (45,i) 0 0,st nm] F d K:=λhK=>baW g hK
 have e:∀{x:aRV} {d:Nat},cB 209 [.p (45,i) 0 0, .a x.c] F d λaa v=>aRf (GR κ (bG<|m+1) Y (45,i) w loc a n) v []:=λ{x d}=>S g Z Z j
 have:dG F (.a w.c)= .a w.c:=A
 simp only[qz 6,qy 8,nlP D,gp,D,q4]
 have hc:x.op=1\/x.op=2\/x.op=3\/x.op=4\/x.op=5\/x.op=6\/x.op=7\/x.op=8\/x.op=9\/x.op=10\/x.op=11\/x.op=12\/x.op=13\/x.op=14\/x.op=15:=Z
 obtain h|h|h|h|h|h|h|h|h|h|h|h|h|h|h:=hc
 all_goals
  simp only[h,au,qz 41,qz 39,qy 10,qy 12,qy 14,qy 16,qy 18,qy 20,qy 34,qy 36,qy 42,nlP D,jB,D,q4,bqQ,bqF,Int.reduceEq,↓iC,↓iB,jM,kU,jt,tW,alg,aD6,bdI,im,sr,eE,aRI]
 ·exact aPv A (bda g Z (C.1<|.inl h) C.2.2.1 C.2.2.2.1 C.2.1) λk q Y1 l o E z=>⟨k,q,A,l.mono Z,o,Z,j.trans z⟩
 ·exact aPv A (a6I ih g P (C.1 Z) hn Z) λk q Y1 l o E z=>⟨k,q,A,l.mono Z,o,E,j.trans z⟩
 ·exact aPv A (a6I ih g P (C.1 Z) hn Z) λk q Y1 l o E z=>⟨k,q,A,l.mono Z,o,E,j.trans z⟩
 ·exact⟨by have:=B.2.1;omega,λ_=>t⟩
 ·exact⟨by have:=B.2.1;omega,λ_=>t⟩
 ·exact⟨by have:=B.2.1;omega,λ_=>t⟩
 ·exact t
 ·exact t
 ·exact M λu=>by simp only[qz 22,qy 24,bdI,aY];exact e
 ·exact M λu=>by simp only[qz 26,qy 28,bdI,aY];exact e
 ·exact M λu=>by simp only[qz 30,qy 32,bdI,aY];exact e
 ·exact⟨by have:=B.2.2.2.2.1;omega,e⟩
 ·exact⟨by have:=B.2.2.2.2.1;omega,e⟩
 ·refine aRF g Z (C.1 Z) λa5 n5 s5 G5 l o R5=>?_
  have q5:=R5.f.keep _ _ btn q4
  obtain⟨aP,aN,W⟩:=G5.bx
  have:dG s5 (.a w.c)= .a w.c:=A
  simp only[qz 38,qy 40,nlP W,gp,W,q5,jM,kU,jt,tW,alg,oi,AL,bdI]
  exact⟨by have:=B.2.2.2.1;omega,S (G5.mono Z) Z Z<|j.trans R5⟩
 ·exact⟨Z,by have:=B.2.2.2.1;omega,e⟩
theorem bdz(m):m<=4->aRo b w loc m:=by induction m with|zero=>intro _ κ Y a n l G j e t;obtain rfl:l=[]:=(by cases l with|nil=>rfl|cons x l=>exact(e.2 x O).elim);refine a7T G.le ?_;refine yV 0 (λ_ _ Y'=>Y'=Y) A ?_;rintro k _ Y1 g rfl;obtain rfl:k=0:=Z;simp only[qz 7,au,eQ,bhZ];exact⟨λh=>by simp at h,λ_=>⟨a,n,A,G,Z,Z,R4.refl⟩⟩|succ m u=>intro F κ Y a n l G j e t;have E:=G.le;have y:bG (m+1)<=46810:=(by have:m=0\/m=1\/m=2\/m=3:=Z;obtain rfl|rfl|rfl|rfl:=this<;>decide);refine a7T G.le ?_;refine jD (α:=AV×Nat) (λ_ i=>[iv i]) 0 (L l) (λi x Y'=>Gn κ Y' b w loc x.1 x.2/\n<=x.2/\x.2<=n+i*bG (m+1)/\R4 b Y a Y' x.1) (s0:=(a,n)) (by grind [R4.refl]) ?_;rintro k ⟨a1,o⟩ Y1 g ⟨f,q,D,p⟩;have z:k*bG (m+1)<=L l*bG (m+1):=qo _ g;simp only[qz 7,au,eQ,mV,bh];refine⟨λh=>⟨vp h,?_⟩,λ_=>⟨a1,o,A,f,q,Z,p⟩⟩;have c:=aL h;have hs:(k+1)*bG (m+1)=k*bG (m+1)+bG (m+1):=tN _ _;have r:(k+1)*bG (m+1)<=L l*bG (m+1):=qo _ c;refine aPv A (bdx (u Z) f (e.2 _<|dB c) Z Z) λa2 v Y2 G2 g1 C B=>?_;simp only[qz 2,au,eQ];exact dR (mk:=λ(_:AV×Nat) i=>[iv i]) (s:=(a1,o)) (s':=(a2,v)) (λ_ _=>A) c (aYF e.1) (by grind [R4.trans])
theorem ba2(G:Gn κ Y b w loc a 0){l}(f:shL 4 8 l)(g:κ<=1000000)(i:∀e h Y1,Gn κ Y1 b w loc e h->h<=50000->R4 b Y a Y1 e->K (.t []) Y1):cB 208 [.p b 0 0,sl amt.c l] Y d K:=by have:L l*bG 4<=8*bG 4:=qo _ f.1;have:bG 4=5850:=A;exact aPv A (bdz 4 Z G g f Z) X
end
def aQN{fn:FuncId}{xs Y}{d:Nat}{K}{R:be}{ks}(k:uQ.elem fn=I)(i:fps.lookup fn=V ks)(l)(a:∀x∈xs,okX ks l x)(b:okB ks l<|bnq ks l Y)(h:∃r Y1,R r Y1/\cZ aS GG fn xs (bnq ks l Y) r Y1)(g:∀r Y1,R r Y1->L Y1=L Y/\∃l':List Id,okB ks l' Y1/\okX ks l' r/\K r (avs ks l' Y Y1)):cV fn xs Y d K:=by obtain⟨r,Y1,c,f⟩:=h;obtain⟨j,l',m,n,o⟩:=g r Y1 c;have e:aPf GGV fn=V ks:=(by have:GGV.fp fn=V ks:=i;have:GGV.rd fn=I:=k;grind [aPf]);unfold cV tR;rw[e];exact⟨l,l',r,Y1,f,j,a,b,m,n,o⟩
section
variable{ks:eP}{l:List Id}{Y Y1:ae}
def aQw{e z a bA}(g:J7 Y1 e z a bA)(h:∀q∈aA a,okI ks l q):okC ks l a:=by obtain⟨_,rfl⟩|⟨q,m,rfl,_⟩:=g;exact .inr A;exact h q aBY
theorem a6y{e z a bA}(g:J7 Y e z a bA)(h:∀q∈aA a,okI ks l q):J7 (bnq ks l Y) e z a bA:=by obtain g|⟨q,r,rfl,g⟩:=g;exact .inl g;have b:=h q aBY;exact .inr ⟨q,r,A,by rwa [aOV b.1,zg b.2]⟩
theorem aRR(c:L Y1=L Y){e}{z:Nat}{a bA}(g:J7 Y1 e z a bA)(h:∀q∈aA a,okI ks l q):J7 (avs ks l Y Y1) e z a bA:=by obtain g|⟨q,r,rfl,g⟩:=g;exact .inl g;have b:=h q aBY;exact .inr ⟨q,r,A,by rwa [aPT c b.1,zg b.2]⟩
theorem aNO{e z a bA}(g:J7 Y e z a bA):∀p∈aA a,∀x,box Y p=V x->x.var=U->False:=by obtain⟨_,rfl⟩|⟨b,r,rfl,g⟩:=g;simp[aA];grind [aA,cE]
end
structure Kx(ks:eP)(Y Y':ae):Prop where
 len:L Y'=L Y
 keep:∀b x,b.1∉ks->box Y b=V x->box Y' b=V x
theorem Kx.mix{ks l Y Y1}:Kx ks Y (avs ks l Y Y1):=⟨aPl,by grind [aPt]⟩
def Kx.kq{ks:eP}{Y Y':ae}(k:Kx ks Y Y'){b:Id}{x:bY}(c:box Y b=V x)(a:b.1∉ks:=by simp):box Y' b=V x:=k.keep b x a c
section
variable{ks:eP}{Y Y' Y1:ae}{m b:Id}{hs:List ByteArray}{h:AV}{d:Nat}{K:be}{l:List Id}
theorem Kx.gr(k:Kx ks Y Y'){e z a bA}(g:J7 Y e z a bA)(c:∀q∈aA a,q.1∉ks):J7 Y' e z a bA:=by obtain g|⟨b,m,rfl,g⟩:=g;exact .inl g;exact .inr ⟨b,m,A,k.keep _ _ (c b aBY) g⟩
theorem Fx.kx{Lw}(F:Fx Y Y' Lw)(c:∀q∈Lw,q.1∈ks):Kx ks Y Y':=⟨F.len,bsq⟩
theorem Mak.mix(M:Mak Y1 m b hs h)(c:L Y1=L Y)(g:okI ks l m)(f:okI ks l b)(i:∀q∈aA h,okI ks l q):Mak (avs ks l Y Y1) m b hs h:=by obtain⟨n,j,s,tx,e,k,o⟩:=M.mx;obtain⟨Lw,a,T⟩:=M.tp;refine⟨⟨n,j,s,tx,e,k,?_⟩,⟨Lw,a,⟨?_,T.le,T.ok,T.ll⟩⟩,aRR c M.gh i,by grind [aPl,Mak.le],M.sm,M.sb,M.sh⟩;rwa [aPT c g.1,zg g.2];rw[aPT c f.1,zg f.2];exact T.bx
def Mak.cut(M:Mak Y m b hs h)(f:okI ks l m)(e:okI ks l b)(g:∀q∈aA h,okI ks l q):Mak (bnq ks l Y) m b hs h:=by obtain⟨k,i,s,tx,c,j,n⟩:=M.mx;obtain⟨Lw,a,T⟩:=M.tp;refine⟨⟨k,i,s,tx,c,j,?_⟩,⟨Lw,a,⟨?_,T.le,T.ok,T.ll⟩⟩,a6y M.gh g,by rw[aOr];exact M.le,M.sm,M.sb,M.sh⟩;rwa [aOV f.1,zg f.2];rw[aOV e.1,zg e.2];exact T.bx
theorem Mak.bA(M:Mak Y1 m b hs h)(g:okI ks l b)(i:∀q∈aA h,okI ks l q):∀p,p=m\/p=b\/p∈aA h->∀x,box Y1 p=V x->x.var=U->∀q∈x.bA,∀y∈q,okC ks l y:=by obtain⟨u,r,s,tx,o,t,n⟩:=M.mx;obtain⟨Lw,a,T⟩:=M.tp;rintro p (rfl|rfl|j) x c k q e y f;rw[n] at c;cases c;simp only[cE] at e;subst e;simp only[eW,ql,brT] at f;obtain rfl|rfl|rfl|rfl|rfl|rfl|rfl|rfl:=f;exact g;trivial;trivial;trivial;trivial;trivial;trivial;exact aQw M.gh i;rw[T.bx] at c;cases c;simp only[cE] at e;subst e;simp only[eW,ql,brT] at f;obtain rfl|rfl:=f;exact .inl A;trivial;exact(aNO M.gh p j x c k).elim
theorem aXR(M:Mak Y m b hs h){n}(G:∀(x) Y1,0<=x->(1<=n->x<n)->Mak Y1 m b hs h->Kx [14,15,16] Y Y1->K (iv x) Y1):cV 119 [.p b 0 0,iv n] Y d K:=by have o:=M.sm;have k:=M.sb;have z:okI [14,15,16] (m::b::aA h) m:=⟨by simp[o],O⟩;have e:okI [14,15,16] (m::b::aA h) b:=⟨by simp[k],O⟩;have g:∀q∈aA h,okI [14,15,16] (m::b::aA h) q:=λq j=>⟨by simp[M.sh q j],by simp[j]⟩;have c:=M.cut z e g;obtain⟨Lw,a,T⟩:=c.tp;refine aQN A rfl (m::b::aA h) (λx t=>?_) (λp f=>c.bA e g p<|by simpa using f) (aWF c.le T n) ?_;simp only[eW,ql,brT] at t;obtain rfl|rfl:=t;exact e;trivial;rintro r Y1 ⟨x,u,rfl,C,D,w,E,_,F⟩;have i:Mak Y1 m b hs h:=(by obtain⟨S,P,s,tx,B,R,N⟩:=c.mx;exact⟨bsq,⟨Lw,u,w⟩,c.gh.fx F M.nb,F.len.trans c.le,M.sm,M.sb,M.sh⟩);have y:=i.le.trans M.le.symm;exact⟨y,m::b::aA h,λp f=>i.bA e g p (by simpa using f),trivial,by grind [Mak.mix,Kx.mix]⟩
theorem baZ{D:Nat}(M:Mak Y m b hs h)(hl:L hs+D<=500){t n:Int}(hd:t=D)(S:0<=n)(T:n<=3)(W:∀(a) (l:List amt) (h') Y1,J7 Y1 300 11 a (l.map amt.c)->(L l:Int)<=n->(∀x∈l,shS (D+1) x)->(∀q∈aA a,q.1=30)->Mak Y1 m b hs h'->Kx [14,15,16,30] Y Y1->K a Y1):cV 212 [.p m 0 0,iv t,iv n] Y d K:=by subst hd;have j:=M.sm;have i:=M.sb;have C:okI [14,15,16,30] (m::b::aA h) m:=⟨by simp[j],O⟩;have u:okI [14,15,16,30] (m::b::aA h) b:=⟨by simp[i],O⟩;have z:∀q∈aA h,okI [14,15,16,30] (m::b::aA h) q:=λq e=>⟨by simp[M.sh q e],by simp[e]⟩;have s:=M.cut C u z;refine aQN A rfl (m::b::aA h) (λx o=>?_) (λp f=>s.bA u z p<|by simpa using f) (bdw D s hl S T) ?_;simp only[eW,ql,brT] at o;obtain rfl|rfl|rfl:=o;exact C;trivial;trivial;rintro r Y1 ⟨l,h',g1,G,N,P,k,R⟩;have g:=k.le.trans M.le.symm;have E:okI [14,15,16,30] (m::b::(aA h'++aA r)) m:=⟨by simp[j],O⟩;have w:okI [14,15,16,30] (m::b::(aA h'++aA r)) b:=⟨by simp[i],O⟩;have B:∀q∈aA h',okI [14,15,16,30] (m::b::(aA h'++aA r)) q:=λq e=>⟨by simp[k.sh q e],by simp[e]⟩;have F:∀q∈aA r,okI [14,15,16,30] (m::b::(aA h'++aA r)) q:=λq e=>⟨by simp[(P q e).2],by simp[e]⟩;refine⟨g,m::b::(aA h'++aA r),?_,?_,W r l h' _ (aRR g g1 F) G N X (k.mix g E w B) Kx.mix⟩;intro p f x o hv q e y hy;simp only[eW,dF] at f;obtain f|f|f|f:=f;grind [Mak.bA];grind [Mak.bA];grind [Mak.bA];grind [aNO];have:=aQw (ks:=[14,15,16,30]) (l:=m::b::(aA h'++aA r)) g1 F;obtain⟨_,rfl⟩|⟨q,r',rfl,_⟩:=g1<;>exact this
end
def apX{Y e}{z d by':Nat}{zs a x bA new K}(g:J7 Y e z a bA)(t:J7 Y e z x new)(C:L zs=z)(u:0<z)(w:d<L Y)(B:∀r∈bA,L r=z)(y:∀r∈new,L r=z)(i:(L bA+L new)*(by'+1)<=1099511627776)(s:∀c Y',J7 Y' e z c (bA++new)->Fx Y Y' (aA a)->(∀b∈aA c,b∈aA a\/b.1=d)->K c Y'):eV (apA e zs by' Y d a x) K:=by have n:gL Y x=V new:=(by obtain⟨rfl,rfl⟩|⟨q,m,rfl,f⟩:=t;rfl;simp[gL,f]);have o:apA e zs by' Y d a x=apA e zs by' Y d a (.l new U U):=(by have j:gL Y (.l new U U)=V new:=A;unfold apA;rw[n,j]);rw[o];by_cases k:new=[];subst k;have:apA e zs by' Y d a (.l [] U U)=V (a,Y):=(by unfold apA;simp only[gL];rw[zg O];obtain⟨_,rfl⟩|⟨q,m,rfl,f⟩:=g;rfl;simp[f]);rw[this];exact s a Y (by simpa using g) (Fx.refl _ _) λb i=> .inl i;grind [qs,lI.p]
structure MPs(Y:ae)(m b:Id)(v1 v4:Nat)(h:AV)(ts:List bj9)(a:AV):Prop where
 M:Mak Y m b [] h
 p:box Y (4,v4)=V ⟨217,2,U,U,[[sl bmK.c aNF,a]]⟩
 ga:J7 Y 284 4 a (ts.map bj9.c)
 pa:∀q∈aA a,q.1=93
 r:box Y (2,v1)=V ⟨217,2,U,U,[aOP]⟩
 ht:∀t∈ts,shT t
structure TB(Y:ae)(v:Nat)(nm:ByteArray)(a:AV)(l:List amt):Prop where
 p:box Y (8,v)=V ⟨284,4,U,U,[[st nm,iv 0, .l ([⟨#[97]⟩,⟨#[98]⟩].map cs) U U,a]]⟩
 ga:J7 Y 300 11 a (l.map amt.c)
 pa:∀q∈aA a,q.1=56\/q.1=68\/q.1=87
 hs:∀s∈l,shS 4 s
section
variable{ks:eP}{Y Y':ae}{m b:Id}{v1 v4 v:Nat}{h h' a:AV}{ts:List bj9}{nm:ByteArray}{l:List amt}{Lw:List Id}
theorem MPs.kx(S:MPs Y m b v1 v4 h ts a)(k:Kx ks Y Y')(M:Mak Y' m b [] h')(c:4∉ks)(e:2∉ks)(f:93∉ks):MPs Y' m b v1 v4 h' ts a:=⟨M,k.keep _ _ c S.p,k.gr S.ga λq g=>by grind [MPs.pa],S.pa,k.keep _ _ e S.r,S.ht⟩
theorem MPs.fx(S:MPs Y m b v1 v4 h ts a)(F:Fx Y Y' Lw)(e:∀q∈Lw,q.1=8\/q.1=56\/q.1=68\/q.1=87):MPs Y' m b v1 v4 h ts a:=by have:=S.M.sm;have:=S.M.sb;refine⟨S.M.fx F X X (λq c g=>by have:=e _ g;have:=S.M.sh q c;omega),(by grind [Fx.keep,MPs.p]),S.ga.fx F (λq c g=>by grind [MPs.pa]),S.pa,(by grind [Fx.keep,MPs.r]),S.ht⟩
theorem TB.kx(S:TB Y v nm a l)(k:Kx ks Y Y')(c:8∉ks)(e:56∉ks)(f:68∉ks)(g:87∉ks):TB Y' v nm a l:=⟨k.keep _ _ c S.p,k.gr S.ga (λq i=>by grind [TB.pa]),S.pa,S.hs⟩
theorem TB.fx0(S:TB Y v nm a l)(F:Fx Y Y' Lw)(c:∀q∈Lw,q.1≠8/\q.1≠56/\q.1≠68/\q.1≠87):TB Y' v nm a l:=⟨(by grind [Fx.keep,TB.p]),S.ga.fx F (λq e g=>by grind [TB.pa]),S.pa,S.hs⟩
theorem TB.set{i}(n:box Y (8,v)=V ⟨284,4,U,U,[[st nm,iv 0, .l ([⟨#[97]⟩,⟨#[98]⟩].map cs) U U,i]]⟩){e l'}(g:J7 Y 300 11 e<|l'.map amt.c)(o:∀q∈aA e,q.1=56\/q.1=68\/q.1=87)(f:∀s∈l',shS 4 s){K}(k:∀Y1,TB Y1 v nm e l'->Fx Y Y1 [(8,v)]->K Y1):sV (aK 1 Y (.p (8,v) 0 3) e) K:=A0 n g.ce O λY1 F j=>k Y1 ⟨j,(by grind [J7.fx]),o,f⟩ F
end
def baI{Y}:aX zd9 4 Y [(0,sv [109,97,105,110]),(1,sv [116,49]),(2,sv [116,50]),(3,sv [116,51])]=V (.l ([⟨#[109,97,105,110]⟩,⟨#[116,49]⟩,⟨#[116,50]⟩,⟨#[116,51]⟩].map cs) U U,Y):=a7c
def bas{nm:ByteArray}:bM bwS bst [(0,st nm),(2, .l ([⟨#[97]⟩,⟨#[98]⟩].map cs) U U)]=V (.a [st nm,iv 0, .l ([⟨#[97]⟩,⟨#[98]⟩].map cs) U U, .l [] U U]):=rfl
def a5R{o:Int}{nm:ByteArray}:bM bsW alz [(0,iv o),(2,st nm)]=V (.a [iv o,iv 0,st nm,sv [], .l [] U U,iv 0,iv 0,sv [], .l [] U U, .l [] U U, .l [] U U]):=rfl
def a51{Y o nm}:aX bs4 1 Y [(0, .a [iv o,iv 0,st nm,sv [], .l [] U U,iv 0,iv 0,sv [], .l [] U U, .l [] U U, .l [] U U])]=V (.l ([amt.mk o 0 nm ⟨#[]⟩ [] (aNK.mk 0 0 ⟨#[]⟩ []) [] []].map amt.c) U U,Y):=aQm (tgt:=(amt.mk o 0 nm ⟨#[]⟩ [] (aNK.mk 0 0 ⟨#[]⟩ []) [] []).c) bqK brR H (bbd (x:=amt.mk o 0 nm ⟨#[]⟩ [] (aNK.mk 0 0 ⟨#[]⟩ []) [] [])) H
def aWJ(l)(hp:(∀x∈l,0<=x/\x<256)/\L l<4611686018427387904):Ct 126 [sl cu l] (λr=>∃p:bqH,r= .a p.c/\shP p/\p.brP=aNF):=by refine aDq (bgf λs0 hl h0=>?_);simp only[aUA];refine zm hl λv1 s1 F1 N1 q1=>?_;have bz:=F1.len.trans hl;have ah:bM bwR bqW [(0,sl cu l)]=V (.a [sl cu l,iv 0]):=A;simp only[qz 2,qy 8,ah,aY];refine bxL A H Z λP s2 F2 N2 q2=>?_;have bA:=F2.len.trans bz;have bs:bM bD4 [(0,1),(1,1),(2,1),(3,1),(4,1),(5,1),(6,1),(7,1)] [(0, .p (14,P) 0 0),(2,iv 20)]=V (.a [.p (14,P) 0 0,iv 0,iv 20,bv I,bv I,bv I,bv I, .l [] U U]):=A;simp only[bs,aY];refine bxL A H Z λv3 s3 F3 N3 q3=>?_;have aP:=F3.len.trans bA;have T3:Tp s3 (14,P) l 0:=⟨F3.kq q2,Z,hp.1,hp.2⟩;have M3:Mak s3 (16,v3) (14,P) [] (.l [] U U):=⟨vB,⟨l,0,T3⟩, .inl ⟨A,A⟩,aP,A,A,aBY⟩;have bt:bM aOP bqW [(0,sl bmK.c aNF)]=V (.a [sl bmK.c aNF, .l [] U U]):=A;simp only[jM,jt,aQV,bt,u0];refine⟨by simp[lo,nA,uN,btE,wD],?_⟩;refine anu aP λv4 s4 F4 N4 q4=>?_;have S4:MPs s4 (16,v3) (14,P) v1 v4 (.l [] U U) [] (.l [] U U):=⟨M3.fx0 F4,q4, .inl ⟨A,A⟩,aBY,F4.kq<|F3.kq<|F2.kq q1,O⟩;obtain⟨th,lf,s,tx,ag,lp,aO⟩:=S4.M.mx;simp only[qz 10,nlP aO,eS,aO,iF,bc5];refine aXR S4.M λy s5 y0 y1 M5 K5=>?_;have y1:=y1 H;have S5:=S4.kx K5 M5 H H H;simp only[qz 12,qy 14,eQ,baI,eM (x:=2+y) Z Z];obtain⟨n,hn⟩:∃n:Nat,2+y=n:=X;rw[hn];have cm:n<=4:=Z;refine yV n (λk _ Y=>∃h ts a,MPs Y (16,v3) (14,P) v1 v4 h ts a/\L ts=k) ⟨_,_,_,S5,A⟩ ?_;rintro k _ Y hk ⟨h,ts,a,S,bE⟩;have aQ:=S.M.le;obtain⟨th,lf,s,tx,ag,lp,hb⟩:=S.M.mx;simp only[qz 43,qy 60,au,nlP hb,eS,hb,bc5];constructor<;>intro aD;have ba:k<n:=X;refine aPJ S.M O λs6 M6 F6=>?_;have S6:=S.kx (ks:=[16]) (F6.kx O) M6 H H H;simp only[qz 16,au,amZ,u0,rk,J9,aV4];refine⟨⟨Z,NA⟩,?_⟩;generalize gd ([⟨#[109,97,105,110]⟩,⟨#[116,49]⟩,⟨#[116,50]⟩,⟨#[116,51]⟩]:List ByteArray) (k:Int).toNat=nm;simp only[qz 18,qy 20,bas,aY];refine anu S6.M.le λv8 s7 F7 N7 q7=>?_;have S7:=S6.fx F7 O;have B7:TB s7 v8 nm (.l [] U U) []:=⟨q7, .inl ⟨A,A⟩,aBY,O⟩;simp only[qz 22];refine bpF (λo=>∀(Y1:ae) (h1 a8:AV) (w:List amt),MPs Y1 (16,v3) (14,P) v1 v4 h1 ts a->TB Y1 v8 nm a8 w->L w<=3->o [] Y1) ?_ λo aC=>?_;intro Y1 h1 a8 w C B aA;obtain⟨th,lf,s,tx,ag,lp,ah⟩:=C.M.mx;simp only[qz 81,nlP ah,eS,ah,B.p,iF,bkl,bc5];refine aXR C.M λy s8 y0 y1 M8 K8=>?_;have y1:=y1 H;have A8:=C.kx K8 M8 H H H;have B8:=B.kx K8 H H H H;simp only[qz 30,eQ,eM (x:=1+y) Z Z];refine baZ (D:=2) A8.M O A Z Z λa9 l9 h9 s9 g9 cl cn p9 M9 K9=>?_;have A9:=A8.kx K9 M9 H H H;have B9:=B8.kx K9 H H H H;simp only[qz 32];refine apX B9.ga g9 A H (by rw[A9.M.le];decide) (qW (f:=amt.c) (z:=11) λ_=>brR) bt3 NA λcj cq ay aL cp=>?_;rw[<-dg] at ay;have G:=B9.pa;have bc:=A9.fx aL (λq u=>by have:=G q u;omega);have aE:=aL.keep _ _ (λu=>by have:=G _ u;simp at this) B9.p;simp only[qz 34,eS,aE];refine TB.set aE ay X (λs ak=>?_) λbH aq bg=>?_;grind [TB.hs,shS.mono];have af:=bc.fx bg O;refine dT (by simp[eL,lb,lbV,aNG,dC,dK]) ?_;have a7:L (w++l9)<=6:=NA;generalize w++l9=bS at aq a7;clear ay aE;refine bpF (λo=>∀(Y2:ae) (h2 a2:AV) (bd:List amt),MPs Y2 (16,v3) (14,P) v1 v4 h2 ts a->TB Y2 v8 nm a2 bd->L bd<=8->o [] Y2) ?_ λo ad=>?_;intro Y2 h2 a2 bd C B aA;have aB:aX bwM 1 Y2 [(0, .a [st nm,iv 0, .l ([⟨#[97]⟩,⟨#[98]⟩].map cs) U U,a2])]=V (.l ([(⟨nm,0,[⟨#[97]⟩,⟨#[98]⟩],bd⟩:bj9)].map bj9.c) U U,kills Y2<|aNN<|.a [st nm,iv 0, .l ([⟨#[97]⟩,⟨#[98]⟩].map cs) U U,a2]):=aQm (tgt:=(⟨nm,0,[⟨#[97]⟩,⟨#[98]⟩],bd⟩:bj9).c) (by simp only[ji,mU,aQ5,aXQ,aOb B.ga];rfl) A H A H;have a6:∀q∈aNN (.a [st nm,iv 0, .l ([⟨#[97]⟩,⟨#[98]⟩].map cs) U U,a2]),q.1=56\/q.1=68\/q.1=87:=λq u=>(by simp only[aNN,Cz,RN,iR,dW,cL] at u;exact B.pa q<|by cases a2<;>first|exact u|simp[iR] at u);have FK:=aOp (aNN<|.a [st nm,iv 0, .l ([⟨#[97]⟩,⟨#[98]⟩].map cs) U U,a2]) Y2;simp only[qz 129,qy 46,eS,C.p,aEa B.p A,iF,bkl,bc5,aB];have E:=C.fx FK (λq u=>by have:=a6 q u;omega);refine apQ E.ga E.M.le (qW (f:=bj9.c) (z:=4) λ_=>A) (by grind [bj9.c]) O NA λa4 s4 g4 F4 N4=>?_;rw[<-dg] at g4;have bD:=E.pa;have p4:=F4.keep _ _ X E.p;simp only[qz 48,eS,p4];refine A0 p4 g4.p.ce O λs5 F5 b5=>?_;have hm:=E.M.sm;have hb:=E.M.sb;have M5:=(E.M.fx F4 X X (λq u g=>by have:=bD _ g;have:=E.M.sh q u;omega)).fx F5 O O (λq u g=>by simp at g;subst g;have:=E.M.sh _ u;simp at this);simp only[qz 50,au,eQ];refine yU ba ⟨h2,ts++[⟨nm,0,[⟨#[97]⟩,⟨#[98]⟩],bd⟩],a4,⟨M5,b5,g4.p.fx F5 X,λq u=>(N4 q u).2,?_,?_⟩,by simp[bE]⟩;exact F5.kq<|F4.keep _ _ X E.r;intro t N;obtain g|g:=dF.1 N;exact C.ht t g;simp only[cE] at g;subst g;exact⟨O,aA,B.hs⟩;obtain⟨th,lf,s,tx,ag,lp,az⟩:=af.M.mx;rcases W:Q ((k:Int)=0) with _|_;simp only[qz 131,qy 40,au,W,eS,aOq,↓jN,a7i,↓iB];exact ad bH _ _ _ af aq Z;simp only[qz 131,qy 40,au,W,nlP az,az,eS,iF,bc5,aPh,↓jA,a5C];refine aXR af.M λy bI y0 y1 bl aM=>?_;have ao:=af.kx aM bl H H H;have F:=aq.kx aM H H H H;simp only[F.p,amZ,gg,J9,a5R,a51];refine⟨λ_=>⟨⟨H,H⟩,?_⟩,λ_=>ad bI _ _ _ ao F Z⟩;refine apQ F.ga ao.M.le bt3 bt3 O NA λbq bK T R bm=>?_;rw[<-dg] at T;have G:=F.pa;have ap:=ao.fx R (λq u=>by have:=G q u;omega);have aa:=R.keep _ _ X F.p;simp only[qz 42,aa,eS];refine TB.set aa T.p X (λs ak=>?_) λaU ar av=>?_;obtain g|g:=dF.1 ak;exact F.hs s g;simp only[cE] at g;subst g;exact aOI Z (.inl A) H H;refine dT (by simp[eL,lb,lbV,aNG,dC,dK]) ?_;exact ad aU _ _ _ (ap.fx av O) ar NA;obtain⟨th,lf,s,tx,ag,lp,ck⟩:=S7.M.mx;rcases W:Q ((k:Int)=0) with _|_;simp only[qz 83,au,W,eQ,↓iB];exact aC s7 _ _ _ S7 B7 O;simp only[qz 83,au,W,eQ,↓iC];refine AI (α:=Unit) (λ_ i=>[iv i]) 0 n 1 Z (λj _ Y=>∃a8 w,MPs Y (16,v3) (14,P) v1 v4 h ts a/\TB Y v8 nm a8 w/\L w+1=j) (s0:=()) X ?_;rintro j _ Y1 hj ⟨a8,w,C,B,aA⟩;simp only[qz 97,qy 24,au,B.p,amZ,J9,a5R,a51,bh,eT];refine⟨λaD=>⟨⟨Z,by have:j<n:=(by simpa using aD);simp;omega⟩,?_⟩,λaD=>aC Y1 _ _ _ C B Z⟩;have bB:j<n:=X;refine apQ B.ga C.M.le bt3 bt3 O NA λbq bK T R bm=>?_;rw[<-dg] at T;have G:=B.pa;have ap:=C.fx R (λq u=>by have:=G q u;omega);have aa:=R.keep _ _ X B.p;simp only[qz 26,aa,eS];refine TB.set aa T.p X (λs ak=>?_) λaU ar av=>?_;obtain g|g:=dF.1 ak;exact B.hs s g;simp only[cE] at g;subst g;exact aOI Z (.inl A) H H;refine dT (by simp[eL,lb,lbV,aNG,dC,dK]) ?_;simp only[au,eQ];exact yU bB ⟨_,_,ap.fx av O,ar,NA⟩;have ha:dG Y (.a [sl bmK.c aNF,a])= .a (⟨aNF,ts⟩:bqH).c:=(by simp only[dG,eR,nrm,ji,mU];have e1:gK (aTH Y a)=sl bj9.c ts:=aOb S.ga;rw[e1];rfl);have aT:∀x y:AV,aN (V 2) [x,y]=V (.a [x,y]):=λ_ _=>A;have aQ:L ts<=4:=Z;have aR:shP ⟨aNF,ts⟩:=⟨⟨by show L aNF<1000;decide,X,λt N=>by have:=(S.ht t N).1;omega⟩,aQ,S.ht⟩;simp only[S.p,a6X,qh,df,aT,jM,kU,jt,ha,u0,aQV];refine⟨aR,by simp[lo,uN,btE,wD],?_⟩;simp only[oJ,pG,eQ];constructor<;>intro hc;refine⟨by simp[lo,nA,uN,btE,wD],?_⟩;simp only[aV4,bQ,qz 52,jM,kU,jt,tW,Fa,aQV];refine⟨by simp[lo,nA,aNN,iR],by rw[aXP A];trivial,?_⟩;have co:shS 4 (amt.mk 1 0 ⟨#[120]⟩ ⟨#[]⟩ [] (aNK.mk 1 1 ⟨#[]⟩ []) [] []):=aOI (λ_=>⟨.inl ⟨.inl A,A⟩,buM⟩) (.inl A) H H;have bu:∀x:amt,bM bwS bst [(0,sv [109,97,105,110]),(2, .l ([⟨#[97]⟩,⟨#[98]⟩].map cs) U U),(3, .l ([x].map amt.c) U U)]=V (.a [sv [109,97,105,110],iv 0, .l ([⟨#[97]⟩,⟨#[98]⟩].map cs) U U, .l ([x].map amt.c) U U]):=λ_=>A;have aB:∀(s:ae) (x:amt),aX bwM 1 s [(0, .a [sv [109,97,105,110],iv 0, .l ([⟨#[97]⟩,⟨#[98]⟩].map cs) U U, .l ([x].map amt.c) U U])]=V (.l ([(⟨⟨#[109,97,105,110]⟩,0,[⟨#[97]⟩,⟨#[98]⟩],[x]⟩:bj9)].map bj9.c) U U,s):=λs x=>aQm (tgt:=(⟨⟨#[109,97,105,110]⟩,0,[⟨#[97]⟩,⟨#[98]⟩],[x]⟩:bj9).c) A rfl H A H;have bw:∀t:bj9,bM aOP bqW [(0,sl bmK.c aNF),(1, .l ([t].map bj9.c) U U)]=V (.a [sl bmK.c aNF, .l ([t].map bj9.c) U U]):=λ_=>A;simp only[a50,bQ,qz 54,bu,aB,aY,qz 56,qy 58,bw];refine stW S.r A rfl λs5 F5 b5=>?_;rw[aEa b5 A];refine aOv (v':= .a (⟨aNF,[⟨⟨#[109,97,105,110]⟩,0,[⟨#[97]⟩,⟨#[98]⟩],[amt.mk 1 0 ⟨#[120]⟩ ⟨#[]⟩ [] (aNK.mk 1 1 ⟨#[]⟩ []) [] []]⟩]⟩:bqH).c) (Q:=λr=>∃p:bqH,r= .a p.c/\shP p/\p.brP=aNF) A rfl ⟨_,A,⟨⟨H,H,O⟩,H,?_⟩,A⟩;intro t N;simp only[cE] at N;subst N;exact⟨H,H,vB⟩;refine stW S.r A rfl λs5 F5 b5=>?_;have g5:=S.ga.fx F5 (λq u e=>by grind [MPs.pa]);simp only[b5,a6X,qh,df,aT,aY];refine aOv (v':= .a (⟨aNF,ts⟩:bqH).c) (Q:=λr=>∃p:bqH,r= .a p.c/\shP p/\p.brP=aNF) ?_ (by simp[iX,bqH.c,eN,sl]) ⟨_,A,aR,A⟩;simp only[fzT,ji,mU,aBr g5];rfl
def aTV:FT:=om aWJ
def bxi{p:Prop}(h:p:=by simp+contextual only[Go.Ab.ij,Go.Ab.aQZ]):p:=h
def bbr:=aUy aTV aWJ (j:=bxi)
theorem a64(i):L (bie i)<=3:=by grind [bie]
structure RP(Y:ae)(v1 v7:Nat)(p:bqH)(w:aOw)(ts:List bqI)(a:AV):Prop where
 p:box Y (1,1)=V ⟨217,2,U,U,[p.c]⟩
 c:box Y (7,v7)=V ⟨150,7,U,U,[[sl cA.c w.cells,sl dS.c w.ak,sl yp.c w.bC,sl cs w.bU,sl cs w.ay,sl dL.c w.dU,a]]⟩
 ga:J7 Y 273 2 a (ts.map bqI.c)
 pa:∀q∈aA a,q.1=110
 r:box Y (2,v1)=V ⟨150,7,U,U,[buB]⟩
 ht:∀t∈ts,L t.boU<1000000
 le:L Y=4096
theorem RP.fx{Y Y' v1 e p w ts a Lw}(S:RP Y v1 e p w ts a)(F:Fx Y Y' Lw)(f:∀q∈Lw,q.1≠1/\q.1≠2/\q.1≠7/\q.1≠110):RP Y' v1 e p w ts a:=⟨(by grind [Fx.keep,RP.p]),(by grind [Fx.keep,RP.c]),S.ga.fx F<|λq i g=>(f q g).2.2.2<|S.pa q i,S.pa,(by grind [Fx.keep,RP.r]),S.ht,F.len.trans S.le⟩
def aXe(p)(N:shP p/\p.brP=aNF):Ct 125 [.a p.c] (λr=>∃(c:bit) (e l:Int),r= .t [.a c.c,iv e,iv l]/\aOc c):=by obtain⟨N,hd⟩:=N;refine aDq (bgU A λs2 hl b1 h0=>?_);refine zm hl λv1 s3 F3 N3 q3=>?_;have al:=F3.len.trans hl;have b3:=F3.kq b1;have aQ:bM buB [(0,6),(6,1)] []=V (.a buB):=A;simp only[qz 4,qy 6,qy 8,qy 10,eQ,b3,oy,jM,kU,jt,aQV,rr,aQ];refine⟨N,trivial,λ_=>?_,λhc=>⟨⟨N,hd⟩,?_⟩⟩;refine stW q3 A rfl λs5 F5 b5=>?_;have:aN (V 7) buB=V (.a buB):=A;simp only[b5,a6X,qh,df,this,aY];exact aOH (vs':=[.a (⟨⟨[],[],[],[],[],[]⟩,[]⟩:bit).c,iv (chk p).1,iv (chk p).2]) (Q:=λr=>∃(c:bit) (e l:Int),r= .t [.a c.c,iv e,iv l]/\aOc c) A rfl ⟨_,_,_,A,by simp[aOc]⟩;rintro r ⟨w,rfl,hw,W⟩;have W:=W X;have aP:bM buB [(0,6),(6,1)] [(0, .a w.c)]=V (.a [sl cA.c w.cells,sl dS.c w.ak,sl yp.c w.bC,sl cs w.bU,sl cs w.ay,sl dL.c w.dU, .l [] U U]):=A;simp only[aP,aY];refine⟨by simp[lo,nA,aNN,iR,bqH.c,sl],?_⟩;refine anu al λv7 s4 F4 N4 q4=>?_;have S4:RP s4 v1 v7 p w [] (.l [] U U):=⟨F4.kq b3,q4, .inl ⟨A,A⟩,aBY,F4.kq q3,O,F4.len.trans al⟩;have a0:=N.2.2;have bL:=N.2.1;refine jD (α:=Int) (λnx i=>[iv nx,iv i]) 1 (L p.ay) (λk nx Y=>0<=nx/\nx<=k*60000/\∃ts a,RP Y v1 v7 p w ts a/\L ts=k) (s0:=0) X ?_;rintro k nx Y hk ⟨bO,bR,ts,a,S,a1⟩;simp only[qz 55,au,ox,S.p,S.c,aRZ,bh];refine⟨λB=>⟨vp B,?_⟩,λB=>?_⟩;rotate_left;refine stW S.r A rfl λs5 F5 b5=>?_;have g5:=S.ga.fx F5 (λq W e=>by grind [RP.pa]);simp only[qz 32,aEa b5 A,aY];refine aOH (vs':=[.a (⟨w,ts⟩:bit).c,iv 0,iv 0]) (Q:=λr=>∃(c:bit) (e l:Int),r= .t [.a c.c,iv e,iv l]/\aOc c) ?_ (by simp[iX,bit.c,aOw.c,eN,sl]) ⟨_,_,_,A,?_,S.ht⟩;have e1:fz s5 a=sl bqI.c ts:=aBr g5;simp only[ji,mU,fzT,List.take_succ_cons,CE,e1];rfl;grind;have D:=aL B;have ht:=a0 _<|dB D;have aK:bM byv [(0,6),(6,1),(7,1),(8,1),(9,1)] [(0, .a w.c),(1,sl cs (gd p.ay k).locs),(4,iv nx)]=V (.a [sl cA.c w.cells,sl dS.c w.ak,sl yp.c w.bC,sl cs w.bU,sl cs w.ay,sl dL.c w.dU,sl cs (gd p.ay k).locs, .l [] U U,iv 0,iv nx]):=A;simp only[aK,aY];refine bxL A H (by rw[S.le];decide) λv s5 F5 N5 q5=>?_;have S5:=S.fx F5 O;have bF:k<4:=Z;have G5:Gn nx s5 (45,v) w (gd p.ay k).locs (.l [] U U) 0:=⟨vB,⟨[], .inl ⟨A,A⟩,A⟩,S5.le,A,aBY,hw,by have:=ht.1;omega,W⟩;simp only[S5.p,gg,gS,bh];refine⟨dJ D,?_⟩;refine ba2 G5 ht.2 Z λa6 n6 s6 G6 bG R6=>?_;have a4:∀q∈((45,v):Id)::aA (AV.l [] U U),q.1≠1/\q.1≠2/\q.1≠7/\q.1≠110:=aBY;have S6:=S5.fx R6.f a4;obtain⟨bY,a3,a2,ah⟩:=G6.bx0;simp only[qz 14,nlP ah,eS,ah,iF,bkl,bc5];refine G6.set λs7 G7 F7=>?_;have S7:=S6.fx F7 O;simp only[qz 16,bdI,aY];refine aPw G7 Z λa8 s8 n8 G8 bH bv R8=>?_;have a5:∀q∈((45,v):Id)::aA a6,q.1≠1/\q.1≠2/\q.1≠7/\q.1≠110:=λq W=>(by grind [Gn.sa]);have S8:=S7.fx R8.f a5;obtain⟨b0,bT,bS,T⟩:=G8.bx0;obtain⟨out,go,bI⟩:=G8.ga;obtain⟨a9,am,rfl,aw⟩:∃q m,a8= .m q (L out)/\box s8 q=V ⟨290,6,U,I,out.map aRV.c++m⟩:=(by obtain⟨g,_⟩|⟨q,m,g1,g2⟩:=go;have:out=[]:=(by simpa using g);grind;simp_all);obtain⟨q1,u⟩:=a9;obtain rfl:q1=16:=G8.sa (q1,u) aBY;have aO:∀a:AV,(∃q n,a= .m q n)->bM bu0 bqW [(0,iv<|L (gd p.ay k).locs),(1,a)]=V (.a [iv<|L (gd p.ay k).locs,a]):=(by rintro a ⟨q,n,rfl⟩;rfl);simp only[qz 18,qy 20,nlP T,eS,T,iF,bkl,bc5,aO _ ⟨_,_,A⟩];refine anu S8.le λM s9 F9 N9 q9=>?_;have S9:=S8.fx F9 O;refine dT (by simp[eL,lb,aNG,dC,dK,sl]) ?_;have aJ:=F9.kq T;have aZ:=F9.kq aw;refine yV (L out) (λ_ _ Y'=>Fx s9 Y' [(11,M)]/\∃rg:Int,box Y' (11,M)=V ⟨273,2,U,U,[[iv rg, .m (16,u)<|L out]]⟩) ⟨Fx.refl _ _,_,q9⟩ ?_;rintro j _ Y1 hj ⟨F,rg,an⟩;have R:=F.kq aJ;have E:=F.kq aZ;have aW:fS Y1 (.m (16,u)<|L out)=V (iv<|L out):=(by simp[fS,E]);have af:=S9.fx F O;have bb:∀x y:AV,aN (V 2) [x,y]=V (.a [x,y]):=λ_ _=>A;simp only[qz 127,qy 26,au,nlP R,eS,R,af.c,an,bb,iF,bkl,bc5,aW];constructor<;>intro B;have hj:=aL B;have aR:cz 6 Y1 (.m (16,u)<|L out) (iv j)=V (.p (16,u) j 0):=(by grind [cz]);have aV:sA (V 6) Y1 (.p (16,u) j 0)=V (.a (gd out j).c):=(by have hr:(out.map aRV.c++am)[j]?=V (aRV.c<|gd out j):=brU;simp only[sA,iE,E,a6X,hr];rfl);simp only[aR,aV,aY,jM,kU,jt,Fa,aQV];rintro r ⟨t',o',rfl⟩;refine⟨by simp[lo,nA,aNN,iR,aRV.c],?_⟩;refine yV (L<|bie<|gd out j) (λ_ _ Y'=>Fx s9 Y' [(11,M)]/\∃rg:Int,box Y' (11,M)=V ⟨273,2,U,U,[[iv rg, .m (16,u)<|L out]]⟩) ⟨F,rg,an⟩ ?_;rintro i _ Y2 hi ⟨ae,bV,aa⟩;simp only[qz 163,au,eT,aa,iF,bc5,gT,tf,bh,aRW];refine⟨λC=>⟨dJ<|aL C,?_⟩,λC=>?_⟩;refine A0 aa A O λY3 z aD=>?_;simp only[qz 24,au,eQ];exact dR (mk:=λ_ i=>[iv i]) (s:=()) (s':=()) (λ_ _=>A) (aL C) (by grind [a64]) ⟨(ae.trans z).mono O,_,aD⟩;exact yU hj ⟨ae,_,aa⟩;have aG:J7 Y1 290 6 (.m (16,u)<|L out) (out.map aRV.c):= .inr ⟨_,am,O,E⟩;have aM:aX bwL 1 Y1 [(0, .a [iv rg, .m (16,u)<|L out])]=V (.l ([(⟨rg,out⟩:bqI)].map bqI.c) U U,kills Y1<|aNN<|.a [iv rg, .m (16,u)<|L out]):=aQm (tgt:=(⟨rg,out⟩:bqI).c) (by simp only[ji,mU,aQ5,aOb aG];rfl) A H A H;have FK:=aOp (aNN<|.a [iv rg, .m (16,u)<|L out]) Y1;have o:=af.fx FK bu9;simp only[aM,bQ];have bK:=o.pa;refine apQ o.ga o.le (by grind [bqI.c]) (by grind [bqI.c]) O NA λaC bW P z bE=>?_;rw[<-dg] at P;have ag:=z.keep _ _ X o.c;simp only[qz 28,eS,ag];refine A0 ag P.p.ce O λbX G aF=>?_;simp only[qz 30,au,eQ];refine dR (mk:=λ(nx:Int) i=>[iv nx,iv i]) (s:=nx) (s':=a3) (λ_ _=>A) D Z ⟨a2.1,Z,ts++[⟨rg,out⟩],aC,⟨?_,aF,P.p.fx G X,X,?_,?_,G.len.trans<|z.len.trans o.le⟩,by simp[a1]⟩;exact G.kq<|z.keep _ _ X o.p;exact G.kq<|z.keep _ _ X o.r;grind [RP.ht]
def aUc:FT:=om aXe
def bbW:=aUy aUc aXe (j:=bsg)
def a7C:dO:=(126,aTV)::(125,aUc)::aYc
def a7l:eJ a7C:=asq (rj aWJ)<|asq (rj aXe)<|aX5
def aWk:=ai @bbr<|ai @bbW<|@aQV
section
attribute[local irreducible] aX
def bge{a}:=y0 a7l func61 aur [a]
end
def aWI(l)(o:(∀x∈l,0<=x/\x<256)/\L l<4611686018427387904):Ct 61 [sl cu l] (λr=>∃c:bit,r= .a c.c/\aOc c):=by refine aDq (bge λs0 d y=>?_);refine zm d λD z f v q=>?_;simp only[qz 2,qy 4,jM,kU,jt,alg,aWk];refine⟨o,?_⟩;rintro r ⟨p,rfl,k,m⟩;refine⟨by simp[lo,nA,aNN,iR,sl],?_⟩;simp only[Fa,aWk];refine⟨⟨k,m⟩,?_⟩;rintro r ⟨c,e,l',rfl,n⟩;refine⟨by simp[lo,nA,aNN,iR,bqH.c,sl],?_⟩;have e0:eO 0 (.t [.a c.c,iv e,iv l'])=V (.a c.c):=A;have i:eO 1 (.t [.a c.c,iv e,iv l'])=V (iv e):=A;have j:eO 2 (.t [.a c.c,iv e,iv l'])=V (iv l'):=A;simp only[e0,i,j,aY];have:=f.len.trans d;have b:L c.c=7:=A;refine aRA A b H Z λE B g w s=>?_;simp only[qz 6,qy 8,aEa s b,aY];refine stW (g.kq q) A b λC u h=>?_;rw[aEa h b];exact aOv (v':= .a c.c) (Q:=λr=>∃c:bit,r= .a c.c/\aOc c) A (by simp[iX,bit.c,aOw.c,eN,sl]) ⟨c,A,n⟩
def aTU:FT:=om aWI
def bbq:=aUy aTU aWI (j:=bxi)
def a7D:dO:=(61,aTU)::a7C
def aR2:eJ a7D:=asq (rj aWI)<|a7l
def bcw:=ai @bbq<|@aWk
section
attribute[local irreducible] aX
def atZ:=I9 24 [(4,([4],[1,2,3])),(10,([5],[1,2,3])),(16,([6],[1,2,3])),(21,([],[1,2,3,6,7]))]
def aLs{c0}:=yB1 34 6 1 aR2 func47 atZ c0 [.a c0]
def aLy{c0}:=yB1 34 6 1 aR2 func15 atW c0 [.a c0]
def au4:=I9 15 [(4,([22],[0,1,21])),(10,([3],[0,1,2,21,22]))]
def aMx:=y0 aR2 func14 au4 []
def bhc{c0}:=yB1 277 4 1 aR2 func291 atW c0 [.a c0]
end
def mG{B}{b:(aG)->Prop}(Q:aG)(c:∀a,(∀vs Y',Q vs Y'->a vs Y')->b a)(d:∀vs Y',Q vs Y'->B vs Y'):b B:=c B d
theorem a7a{α:Type}{f:Nat->List α}{k}:(aH<|k+1).flatMap f=(aH k).flatMap f++f k:=by rw[qn,List.flatMap_append];simp
def eU{α:Type}{f:Nat->List α}{c:Nat}(h:∀k,L (f k)<=c):∀n,L ((aH n).flatMap f)<=n*c
 |0=>O
 |n+1=>by
  have:=eU h n
  grind [a7a]
def Dv{Y b T e}{z ze j d by':Nat}{cs zs a bA new t o K}(w:box Y b=V ⟨T,z,U,U,[cs]⟩)(R:j<L cs)(u:lI Y e ze a bA)(i:b∉aA a)(M:L zs=ze)(k:0<ze)(C:d<L Y)(G:∀r∈bA,L r=ze)(E:∀r∈new,L r=ze)(h:(L bA+L new)*(by'+1)<=1099511627776)(B:b.1≠d)(v:∀c Y',box Y' b=V ⟨T,z,U,U,[cs.set j c]⟩->lI Y' e ze c (bA++new)->Fx Y Y' (b::aA a)->(∀q∈aA c,(q∈aA a\/bK Y q)/\(q∈aA a\/q.1=d))->K Y'):eV (apA e zs by' Y d a<|.l new t o) λx s=>rV (iQ j s<|.p b 0 0) λy=>sV (aK 1 s y x) K:=gD u M k C G E h λc Y' g F P S=>by have f:=F.keep _ _ i w;have D:iQ j Y' (.p b 0 0)=V (.p b 0 j):=(by simp[iQ,f]);simp only[D,aY];refine stI (y:=1) (cs:=[c]) f (ms g) A Z λn m N=>?_;have:b∉aA c:=X;refine v c n ?_ (by grind [lI.fx]) ((F.trans m).mono λq W=>?_) vB;grind [GP];grind
def qZ(n:Nat):List aoC:=(aH n).map λi=>⟨if i=0 then 1 else 0,0,I⟩
def aog{α:Type}{n x}{β:Type}{f:α->β}:(er (n+1) x).map f=(er n x).map f++[f x]:=by rw[List.replicate_succ',dg];rfl
section
variable{Y:ae}
theorem aDP{x0 x2 x5 ls fs ts t1 o1 t3 o3 t4 o4}(hl:L Y=4096)(h1:L ls<=100)(h3:L fs<=100)(h4:L ts<=100):∃r m,(∃a1 a2 a3,r= .a [a1,iv<|-1,a2,a3]/\lI m 191 2 a1 ((er (L ls) (⟨-1,[]⟩:cg)).map cg.c)/\lI m 4 1 a2 ((er (L fs) I).map cb)/\lI m 69 3 a3 ((qZ<|L ts).map aoC.c)/\Fx Y m []/\(∀q∈aA a1,bK Y q/\q.1=20)/\(∀q∈aA a2,bK Y q/\q.1=32)/\(∀q∈aA a3,bK Y q/\q.1=49))/\cZ aS GG 47 [.a [x0, .l ls t1 o1,x2, .l fs t3 o3, .l ts t4 o4,x5]] Y r m:=by refine aLs hl A λs2 v1 K2 bx nf b1=>?_;have B:=K2.fx [];have K:=B.len.trans hl;refine zm K λv2 s3 F3 N3 b2=>?_;have aR:=F3.len.trans K;have aJ:bM btW bst [(1,iv<|-1)]=V (.a [.l [] U U,iv<|-1, .l [] U U, .l [] U U]):=A;simp only[qz 4,qy 6,qy 8,aJ,aY];refine zm aR λo s4 F4 N4 b6=>?_;refine stI (y:=4) (cs:=[.l [] U U,iv<|-1, .l [] U U, .l [] U U]) b6 A rfl H λv F5 b6=>?_;have aB:box v (3,o)=V ⟨39,4,U,U,[[.l [] U U,iv<|-1, .l [] U U, .l [] U U]]⟩:=b6;have p:Fx s2 v []:=((F3.trans F4).trans F5).mono bwa;have aT:=p.len.trans K;have c1:=p.kq b1;have c2:=F5.kq<|F4.kq b2;have N6:=(N4.old F3).old B;have aZ:∀{Y':ae} {ks:List Id},Fx v Y' ks->((1,v1):Id)∉ks->box Y' (1,v1)=V ⟨34,6,U,U,[[x0, .l ls t1 o1,x2, .l fs t3 o3, .l ts t4 o4,x5]]⟩:=λF h=>F.keep _ _ h c1;have P:∀{x:dM} {y:AV},aN J (y::x)=V y:=λ{x y}=>(by cases y<;>rfl);have u:∀{l:List cg},∀r∈l.map cg.c,L r=2:=qW (by intro _;rfl);have t:∀{l:List Bool},∀r∈l.map cb,L r=1:=X;have alx:∀{l:List aoC},∀r∈l.map aoC.c,L r=3:=qW (by intro _;rfl);refine yV (L ls) (λk _ Y'=>∃a1,box Y' (3,o)=V ⟨39,4,U,U,[[a1,iv<|-1, .l [] U U, .l [] U U]]⟩/\lI Y' 191 2 a1 ((er k (⟨-1,[]⟩:cg)).map cg.c)/\Fx v Y' [(3,o)]/\∀q∈aA a1,bK v q/\q.1=20) ⟨_,aB,lI.nil,Fx.refl _ _,aBY⟩ ?_;rintro k _ m N ⟨a1,m1,g1,w,P1⟩;have d1:=aZ w O;have aQ:=w.len.trans aT;have aK:bM bu0 bqW [(0,iv<|-1)]=V (.a [iv<|-1, .l [] U U]):=A;have aM:∀{Y:ae},aX bwL 1 Y [(0, .a [iv<|-1, .l [] U U])]=V (.l ([(⟨-1,[]⟩:cg)].map cg.c) U U,Y):=λ{Y}=>(by simp[aX,aly,eY,nrm,gK,eR,aTH,aNN,iR,kills,bsm,eN,er];rfl);simp only[qz 25,qy 10,au,eS,d1,P,nM,ip,fS,m1,aK,aM];constructor<;>intro h;have n:=aL h;refine Dv m1 O g1 X A H Z u u X O λE Y2 M g2 g P2=>?_;simp only[qz 14,au,eQ];refine yU n ⟨E,M,by rwa [aog],(w.trans g).mono λq e=>?_,λq e=>⟨?_,?_⟩⟩;grind [bK.no];grind [bK.old];grind;have G:k=L ls:=X;subst G;clear N h;refine yV (L fs) (λk _ Y'=>∃a2,box Y' (3,o)=V ⟨39,4,U,U,[[a1,iv<|-1,a2, .l [] U U]]⟩/\lI Y' 4 1 a2 ((er k I).map cb)/\Fx m Y' [(3,o)]/\∀q∈aA a2,bK m q/\q.1=32) ⟨_,m1,lI.nil,Fx.refl _ _,aBY⟩ ?_;rintro k _ Y2 N ⟨a2,M,g2,g,P2⟩;have d2:=g.kq d1;have an:=g.len.trans aQ;have al:∀{Y:ae},aX BD 1 Y [(0,bv I)]=V (.l ([I].map cb) U U,Y):=λ{Y}=>iz;simp only[qz 61,qy 16,au,eS,d2,P,nM,ip,fS,M,al];constructor<;>intro h;have n:=aL h;refine Dv M O g2 X A H Z t t X O λE Y3 R g3 f P3=>?_;simp only[qz 20,au,eQ];refine yU n ⟨E,R,by rwa [aog],(g.trans f).mono λq e=>?_,λq e=>⟨?_,?_⟩⟩;grind [bK.no];grind [bK.old];grind;have G:k=L fs:=X;subst G;clear N h;refine yV (L ts) (λk _ Y'=>∃a3,box Y' (3,o)=V ⟨39,4,U,U,[[a1,iv<|-1,a2,a3]]⟩/\lI Y' 69 3 a3 ((qZ k).map aoC.c)/\Fx Y2 Y' [(3,o)]/\∀q∈aA a3,bK Y2 q/\q.1=49) ⟨_,M,lI.nil,Fx.refl _ _,aBY⟩ ?_;rintro k _ Y3 N ⟨a3,R,g3,f,P3⟩;have d3:=f.kq d2;have ao:=f.len.trans an;have aO:bM bwO aM7 [(0,iv 0)]=V (.a<|aoC.c ⟨0,0,I⟩):=A;have am:∀{Y:ae} {x:aoC},aX bwO 1 Y [(0, .a<|aoC.c x)]=V (.l ([x].map aoC.c) U U,Y):=λ{Y x}=>ua A rfl rfl H A H;have aW:∀{x:aoC},aN (V 3) (aoC.c x)=V (.a<|aoC.c x):=λ{x}=>A;have W:∀{x y x2 x3:AV},aN (V 4) [x,y,x2,x3]=V (.a [x,y,x2,x3]):=A;have bw:qZ (k+1)=qZ k++[⟨if k=0 then 1 else 0,0,I⟩]:=(by simp[qZ,qn]);have bu:L (qZ k)=k:=(by simp[qZ]);simp only[qz 97,qy 22,qy 34,au,eS,d3,P,nM,ip,fS,aO];constructor<;>intro h;have n:=aL h;refine zm ao λv7 Y4 av N7 b7=>?_;refine stI (y:=3) (cs:=aoC.c ⟨0,0,I⟩) b7 A rfl H λD i b7=>?_;have T:box D (7,v7)=V ⟨69,3,U,U,[aoC.c ⟨0,0,I⟩]⟩:=b7;have S:Fx Y3 D []:=(av.trans i).mono aUw;simp only[qz 24,di];refine mG (λvs Y'=>vs=[]/\box Y' (7,v7)=V ⟨69,3,U,U,[aoC.c ⟨if k=0 then 1 else 0,0,I⟩]⟩/\Fx Y3 Y' []) (λb hJ=>?_) ?_;simp only[qz 131,qy 26,au,eS,T];refine⟨λhi=>?_,λhi=>hJ [] D ⟨A,?_,S⟩⟩;refine stI (y:=1) (cs:=[iv 1]) T A rfl H λY6 F6 b8=>hJ [] Y6 ⟨A,?_,(S.trans F6).mono<|by simp only[dW,cE];grind [bK.no]⟩;have h0:k=0:=X;rwa [zg h0];have h0:¬k=0:=X;grind;rintro vs Y6 ⟨rfl,b8,C⟩;have m6:=C.kq R;have g6:=g3.fx C O;simp only[qz 129,qy 28,eS,m6,b8,P,aW,nM,ip,am];refine Dv m6 O g6 X A H bvh alx alx (by grind [bhZ]) O λE Y7 m7 g7 F7 P7=>?_;simp only[qz 32,au,eQ];refine yU n ⟨E,m7,X,((f.trans C).trans F7).mono λq e=>?_,λq e=>⟨?_,?_⟩⟩;simp only[dF,eW,ql,brT] at e⊢;grind [bK.no];grind [bK.old];grind;obtain rfl:k=L ts:=X;have aD:=f.kq<|g.kq<|w.kq c2;simp only[R,eQ,W];refine stI (y:=4) (cs:=[a1,iv<|-1,a2,a3]) aD A rfl H λD i b5=>?_;have az:box D (2,v2)=V ⟨39,4,U,U,[[a1,iv<|-1,a2,a3]]⟩:=b5;simp only[az,eQ,W,aRf,aoz];have j:∀{a:AV} {d:Nat},(∀q∈aA a,q.1=d)->d≠2->d≠3->∀q∈aA a,q∉[((2,v2):Id)]/\q∉[((3,o):Id)]:=λh h1 h2 q e=>⟨X,X⟩;have n1:=j (λq e=>(P1 q e).2) H H;have n2:=j (λq e=>(P2 q e).2) H H;have n3:=j (λq e=>(P3 q e).2) H H;have aq:∀{q:Id},bK v q->bK Y q:=λh=>(h.old p).old B;refine⟨a1,a2,a3,A,((g1.fx g λq e=>(n1 q e).2).fx f λq e=>(n1 q e).2).fx i λq e=>(n1 q e).1,(g2.fx f λq e=>(n2 q e).2).fx i λq e=>(n2 q e).1,g3.fx i λq e=>(n3 q e).1,(((((B.trans p).trans w).trans g).trans f).trans i).mono λq e=>?_,X,bse,λq e=>⟨aq bse,(P3 q e).2⟩⟩;simp only[dW,dF,cE,or_self] at e;obtain rfl|rfl:=e;exact .inr N6.no;exact .inr (N3.old B).no
end
def buw(n:Nat):List dL:=(aH n).flatMap λ(t:Nat)=>(aH 6).map λ(k:Nat)=>⟨(t:Int),(k:Int),10*(t:Int)+k+1⟩
def aNE:aOw:=⟨[⟨⟨#[120]⟩,0,0,I,0⟩,⟨⟨#[121]⟩,0,0,I,1⟩,⟨⟨#[118]⟩,0,0,U,0⟩,⟨⟨#[113]⟩,0,2,I,0⟩,⟨⟨#[113]⟩,1,2,I,0⟩],[⟨⟨#[109]⟩,I⟩,⟨⟨#[110]⟩,I⟩,⟨⟨#[114]⟩,U⟩],[⟨⟨#[99]⟩,0⟩],[⟨#[102]⟩],[⟨#[109,97,105,110]⟩,⟨#[116,49]⟩,⟨#[116,50]⟩,⟨#[116,51]⟩],buw 4⟩
def gu(t o:Bool):dM:=[.l (aNE.cells.map cA.c) U U, .l (aNE.ak.map dS.c) U U, .l (aNE.bC.map yp.c) U U, .l (aNE.bU.map cs) U U, .l (aNE.ay.map cs) U U, .l (aNE.dU.map dL.c) t o]
def bdB:Ct 14 [] λr=>∃t o,r= .a (gu t o):=by
 refine aMx λs0 hl h0=>?_
 refine zm hl λv0 s1 F1 N1 b1=>?_
 have w:=F1.len.trans hl
 have hc:∀{Y:ae},aX bwH 5 Y [(0, .a<|cA.c ⟨⟨#[120]⟩,0,0,I,0⟩),(1, .a<|cA.c ⟨⟨#[121]⟩,0,0,I,1⟩),(2, .a<|cA.c ⟨⟨#[118]⟩,0,0,U,0⟩),(3, .a<|cA.c ⟨⟨#[113]⟩,0,2,I,0⟩),(4, .a<|cA.c ⟨⟨#[113]⟩,1,2,I,0⟩)]=V (.l (aNE.cells.map cA.c) U U,Y):=λ{Y}=>A
 have R:bM bwH aOG [(0,sv [120])]=V (.a<|cA.c ⟨⟨#[120]⟩,0,0,I,0⟩):=A
 have S:bM bwH aOG [(0,sv [121]),(4,iv 1)]=V (.a<|cA.c ⟨⟨#[121]⟩,0,0,I,1⟩):=A
 have T:bM bwH aOG [(0,sv [118]),(3,bv U)]=V (.a<|cA.c ⟨⟨#[118]⟩,0,0,U,0⟩):=A
 have W:bM bwH aOG [(0,sv [113]),(2,iv 2)]=V (.a<|cA.c ⟨⟨#[113]⟩,0,2,I,0⟩):=A
 have aa:bM bwH aOG [(0,sv [113]),(1,iv 1),(2,iv 2)]=V (.a<|cA.c ⟨⟨#[113]⟩,1,2,I,0⟩):=A
 simp only[qz 2,R,S,T,W,aa,aY,hc,bQ]
 have ag:bM bwI bqW [(0,sv [109])]=V (.a<|dS.c ⟨⟨#[109]⟩,I⟩):=A
 have ah:bM bwI bqW [(0,sv [110])]=V (.a<|dS.c ⟨⟨#[110]⟩,I⟩):=A
 have al:bM bwI bqW [(0,sv [114]),(1,bv U)]=V (.a<|dS.c ⟨⟨#[114]⟩,U⟩):=A
 have hk:∀{Y:ae},aX bwI 3 Y [(0, .a<|dS.c ⟨⟨#[109]⟩,I⟩),(1, .a<|dS.c ⟨⟨#[110]⟩,I⟩),(2, .a<|dS.c ⟨⟨#[114]⟩,U⟩)]=V (.l (aNE.ak.map dS.c) U U,Y):=λ{Y}=>A
 simp only[qz 4,ag,ah,al,aY,hk,bQ]
 have aq:bM bwJ bqW [(0,sv [99])]=V (.a<|yp.c ⟨⟨#[99]⟩,0⟩):=A
 have n:∀{Y:ae},aX bwJ 1 Y [(0, .a<|yp.c ⟨⟨#[99]⟩,0⟩)]=V (.l (aNE.bC.map yp.c) U U,Y):=λ{Y}=>A
 have hf:∀{Y:ae},aX zd9 1 Y [(0,sv [102])]=V (.l (aNE.bU.map cs) U U,Y):=λ{Y}=>A
 have ht:∀{Y:ae},aX zd9 4 Y [(0,sv [109,97,105,110]),(1,sv [116,49]),(2,sv [116,50]),(3,sv [116,51])]=V (.l (aNE.ay.map cs) U U,Y):=λ{Y}=>A
 simp only[qz 6,aq,aY,n,bQ,qz 8,hf,qz 10,ht]
 have hw:bM byx anY [(0, .l (aNE.cells.map cA.c) U U),(1, .l (aNE.ak.map dS.c) U U),(2, .l (aNE.bC.map yp.c) U U),(3, .l (aNE.bU.map cs) U U),(4, .l (aNE.ay.map cs) U U)]=V (.a [.l (aNE.cells.map cA.c) U U, .l (aNE.ak.map dS.c) U U, .l (aNE.bC.map yp.c) U U, .l (aNE.bU.map cs) U U, .l (aNE.ay.map cs) U U, .l [] U U]):=A
 simp only[qz 12,qy 14,hw,aY]
 have bk:L aNE.ay=4:=A
 have bi:∀a,a=aNE.dU->buw 4=a:=λa h=>h.symm
 generalize hA:AV.l (aNE.cells.map cA.c) U U=b
 generalize hB:AV.l (aNE.ak.map dS.c) U U=B
 generalize hC:AV.l (aNE.bC.map yp.c) U U=C
 generalize hD:AV.l (aNE.bU.map cs) U U=D
 refine zm w λm s2 F2 N2 b2=>?_
 refine stI (y:=6) (cs:=[b,B,C,D, .l (aNE.ay.map cs) U U, .l [] U U]) b2 A rfl H λe F3 b3=>?_
 have v:box e (1,m)=V ⟨34,6,U,U,[[b,B,C,D, .l (aNE.ay.map cs) U U, .l [] U U]]⟩:=b3
 have p:Fx s1 e []:=(F2.trans F3).mono aUw
 have c1:=p.kq b1
 have an:=p.len.trans w
 have k1:∀{x:dM} {y:AV},aN J (y::x)=V y:=λ{x y}=>by cases y<;>rfl
 have E:∀{x y x2 x3 x4 x5:AV},aN (V 6) [x,y,x2,x3,x4,x5]=V (.a [x,y,x2,x3,x4,x5]):=A
 have ao:∀{Y:ae},fS Y (.l (aNE.ay.map cs) U U)=V (iv (4:Nat)):=λ{Y}=>A
 simp only[qz 16,eS,v,k1,nM,ip,ao]
 have alx:∀{l:List dL},∀r∈l.map dL.c,L r=3:=qW (λ_=>by rfl)
 have bj:∀k,buw (k+1)=buw k++(aH 6).map λ(j:Nat)=>⟨(k:Int),(j:Int),10*(k:Int)+j+1⟩:=λk=>a7a
 have ar:∀k,L (buw k)<=k*6:=λk=>eU (f:=λ(t:Nat)=>(aH 6).map λ(k:Nat)=>(⟨(t:Int),(k:Int),10*(t:Int)+k+1⟩:dL)) (c:=6) (λt=>O) k
 refine yV 4 (λk _ Y'=>∃a,box Y' (1,m)=V ⟨34,6,U,U,[[b,B,C,D, .l (aNE.ay.map cs) U U,a]]⟩/\lI Y' 125 3 a ((buw k).map dL.c)/\Fx e Y' [(1,m)]/\∀q∈aA a,bK e q/\q.1=40) ⟨_,v,lI.nil,Fx.refl _ _,aBY⟩ ?_
 rintro k _ Y1 hk ⟨a1,m1,g1,g,P1⟩
 have a7:=g.len.trans an
 have a9:=ar k
 simp only[qz 25,qy 24,au,eQ]
 refine⟨λh=>?_,λh=>?_⟩
 ·have ap:=aL h
  refine yV 6 (λj _ Y'=>∃a,box Y' (1,m)=V ⟨34,6,U,U,[[b,B,C,D, .l (aNE.ay.map cs) U U,a]]⟩/\lI Y' 125 3 a ((buw k++(aH j).map λ(j:Nat)=>(⟨(k:Int),(j:Int),10*(k:Int)+j+1⟩:dL)).map dL.c)/\Fx e Y' [(1,m)]/\∀q∈aA a,bK e q/\q.1=40) ⟨a1,m1,X,g,P1⟩ ?_
  rintro j _ Y2 hj ⟨a2,F,g2,u,P2⟩
  have ac:∀{Y:ae} {x:dL},aX bwK 1 Y [(0, .a<|dL.c x)]=V (.l ([x].map dL.c) U U,Y):=λ{Y x}=>ua A rfl rfl H A H
  have ab:∀{x y z:Int},bM bwK aM7 [(0,iv x),(1,iv y),(2,iv z)]=V (.a<|dL.c ⟨x,y,z⟩):=λ{x y z}=>A
  simp only[qz 61,qy 18,au,eS,F,k1,nM,ip,ab,ac]
  refine⟨λP=>?_,λP=>?_⟩
  ·have i:j<6:=X
   rw[show dq.wrap (dq.wrap (dq.wrap (10*(k:Int))+j)+1)=10*(k:Int)+j+1 by
    rw[eM (x:=10*(k:Int)) Z Z,eM (x:=10*(k:Int)+j) Z Z,eM Z Z]]
   refine Dv F O g2 X A H bvh alx alx (by simp only[bJ,a6G,List.length_range,bZ,bhZ];omega) O λa' Y3 m3 N G P3=>?_
   simp only[qz 22,au,eQ]
   refine yU i ⟨a',m3,by simp only[qn,dg,<-bje] at N⊢;exact N,(u.trans G).mono λq n=>?_,λq n=>⟨?_,?_⟩⟩
   ·simp only[dF,eW,ql,brT] at n⊢
    grind [bK.no]
   ·grind [bK.old]
   grind
  ·have bg:=bsX P
   have i:j=6:=Z
   subst i
   refine yU ap ⟨a2,F,X,u,P2⟩
 ·have af:k=4:=X
  subst af
  have M:=g.kq c1
  simp only[m1,E,eQ]
  refine stI (y:=6) (cs:=[b,B,C,D, .l (aNE.ay.map cs) U U,a1]) M A rfl H λd F5 b5=>?_
  have K:box d (0,v0)=V ⟨34,6,U,U,[[b,B,C,D, .l (aNE.ay.map cs) U U,a1]]⟩:=b5
  simp only[K,E,eQ]
  obtain⟨t,o,q1⟩:=(g1.fx F5 X).frD
  have hr:jS d [.a [b,B,C,D, .l (aNE.ay.map cs) U U,a1]]= .a (gu t o):=by
   show AV.a [dQ d b,dQ d B,dQ d C,dQ d D,dQ d<|.l (aNE.ay.map cs) U U,dQ d a1]=_
   rw[q1,<-hA,<-hB,<-hC,<-hD];rfl
  unfold aE
  rw[hr]
  exact⟨A,t,o,A⟩
def PM:Ct 14 [] (·= .a aNE.c):=aDq<|by obtain⟨r,b,d⟩:=bdB;refine⟨r,?_,d⟩;obtain⟨t,o,rfl⟩:=b;rfl
def Gf:FT:=BJ PM
def azy:=al2 Gf PM
def aTk{c cs}:wn (c::cs)=aA c++wn cs:=by cases c<;>rfl
def aYg{c Y}{d:Nat}{cs a e}{z:Nat}{bA}(g:lI c e z a bA)(n:bA.all (λr=>r.all DU)=U)(i:d<L Y):∃h f,gU c d Y (a::cs)=(gU c d f cs).map (λp=>(h::p.1,p.2))/\lI f e z h bA/\Fx Y f []/\∀q∈aA h,bK Y q/\q.1=d:=by obtain⟨rfl,rfl⟩|⟨b,rfl,k⟩:=g;exact⟨.l [] U U,Y,A, .inl ⟨A,A⟩,Fx.refl _ _,aBY⟩;refine⟨.m (lA Y d)<|L bA,put Y d ⟨e,z,U,I,bA⟩,?_, .inr ⟨_,A,iy i⟩,kH i,λq j=>?_⟩;grind [vY,gU];simp only[aA,cE] at j;subst j;exact⟨qQ Y d,A⟩
def a57{Y}{d:Nat}{K}{w:aOw}(v:d<L Y)(h1:L w.ak<=100)(h3:L w.bU<=100)(h4:L w.ay<=100)(G:∀a1 a2 a3 Y',lI Y' 191 2 a1 ((er (L w.ak) (⟨-1,[]⟩:cg)).map cg.c)->lI Y' 4 1 a2 ((er (L w.bU) I).map cb)->lI Y' 69 3 a3 ((qZ<|L w.ay).map aoC.c)->Fx Y Y' []->(∀q∈aA a1++(aA a2++aA a3),bK Y q/\q.1=d)->K (.a [a1,iv<|-1,a2,a3]) Y'):cN 47 [.a w.c] Y d K:=by obtain⟨r,k,⟨a1,a2,a3,rfl,g1,t,u,F,W,P2,P3⟩,hF⟩:=aDP (Y:=eK) (x0:=sl cA.c w.cells) (x2:=sl yp.c w.bC) (x5:=sl dL.c w.dU) (ls:=w.ak.map dS.c) (fs:=w.bU.map cs) (ts:=w.ay.map cs) (t1:=I) (o1:=I) (t3:=I) (o3:=I) (t4:=I) (o4:=I) (List.length_replicate ..) X X X;simp only[bJ] at g1 t u;obtain⟨m,l,C,N,g,S⟩:=aYg (Y:=Y) (d:=d) (cs:=[iv (-1),a2,a3]) g1 (by simp[cg.c,DU,sl]) v;obtain⟨n,T,D,P,i,n2⟩:=aYg (Y:=l) (d:=d) (cs:=[a3]) t (by simp[DU,cb]) (by rwa [g.len]);obtain⟨o,B,E,R,j,n3⟩:=aYg (Y:=T) (d:=d) (cs:=[]) u (by simp[dV,DU,aoC.c]) (by rwa [i.len,g.len]);have b:[AV.a w.c].map (dG Y)=[.a w.c]:=A;refine .inr (.inr ⟨by rw[b];simp[iX,aOw.c,eN,sl],by simp[vg,v],[a1,iv<|-1,a2,a3],k,[m,iv<|-1,n,o],B,by rwa [b],?_,?_,?_⟩);have m1:∀{a:AV},(aA a).Nodup:=λ{a}=>(by cases a<;>simp[aA]);have e0:wn [a1,iv<|-1,a2,a3]=aA a1++(aA a2++aA a3):=(by rw[aTk,aTk,aTk,aTk];show aA a1++([]++(aA a2++(aA a3++[])))=_;simp);rw[e0,xl,xl];refine⟨m1,⟨m1,m1,λx b y f e=>?_⟩,λx b y f e=>?_⟩;grind;subst e;obtain f|f:=dF.1 f;grind;grind;rw[C];have:gU k d l [iv<|-1,a2,a3]=(gU k d l [a2,a3]).map λp=>(iv (-1)::p.1,p.2):=A;rw[this,D,E];rfl;refine G m n o B ((N.fx i O).fx j O) (P.fx j O) R ((g.trans i).trans j) λq M=>?_;obtain h|h:=dF.1 M;exact S q h;obtain h|h:=dF.1 h;grind [bK.old];grind [bK.old]
def aH6(w:aOw):aTo:=⟨⟨er (L w.ak) ⟨-1,[]⟩,-1,er (L w.bU) I,qZ<|L w.ay⟩,w.cells.map (·.init),er (L w.bU) 0,er (L w.ay) 0⟩
def aWw{Y e z a bA d}(g:lI Y e z a bA)(h:∀q∈aA a,q.1=d):dK a=[]\/dK a=[d]:=by obtain⟨_,rfl⟩|⟨b,rfl,_⟩:=g;exact .inl A;grind [aA,dK]
theorem k1m{b n}:dK (.m b n)=[b.1]:=rfl
def k1p{b i j}:dK (.p b i j)=[b.1]:=rfl
def k1s{v}:dK (.s v)=[]:=rfl
theorem k1l{r t o}:dK (.l r t o)=[]:=rfl
structure SnL(Y0 Y:ae)(s:aTo)(a1 a2 a3 a4 a5 a6:AV):Prop where
 g1:J7 Y 191 2 a1 (s.eB.ak.map cg.c)
 g2:J7 Y 4 1 a2 (s.eB.done.map cb)
 g3:J7 Y 69 3 a3 (s.eB.ay.map aoC.c)
 g4:J7 Y 2 1 a4 (s.cells.map ci)
 g5:J7 Y 2 1 a5 (s.bU.map ci)
 g6:J7 Y 3 1 a6 (s.count.map ci)
 p1:∀q∈aA a1,bK Y0 q/\q.1=6
 p2:∀q∈aA a2,bK Y0 q/\q.1=6
 p3:∀q∈aA a3,bK Y0 q/\q.1=6
 p4:∀q∈aA a4,bK Y0 q/\q.1=32
 p5:∀q∈aA a5,bK Y0 q/\q.1=10
 p6:∀q∈aA a6,bK Y0 q/\q.1=14
section
variable{Y0 Y:ae}{s:aTo}{a1 a2 a3 a4 a5 a6:AV}
theorem SnL.ids(h:SnL Y0 Y s a1 a2 a3 a4 a5 a6){x}:∀q∈aNN (.a [a1,iv x,a2,a3,a4,a5,a6]),bK Y0 q/\(q.1=6\/q.1=10\/q.1=14\/q.1=32):=λq b=>by have c:∀{a:AV},iR a=aA a:=λ{a}=>(by cases a<;>rfl);simp only[aNN,Cz,RN,c,cL,dF] at b;obtain g|g|g|g|g|g|g:=b;grind [SnL.p1];simp[aA] at g;grind [SnL.p2];grind [SnL.p3];grind [SnL.p4];grind [SnL.p5];grind [SnL.p6]
theorem SnL.lz(h:SnL Y0 Y s a1 a2 a3 a4 a5 a6):[a1,iv s.eB.tx,a2,a3,a4,a5,a6].map (lz Y)=s.c:=by simp only[ji,mU,aOb h.g1,aOb h.g2,aOb h.g3,aOb h.g4,aOb h.g5,aOb h.g6,aQ5];rfl
end
def aXI{Y w}(hl:L Y=4096)(h0:L w.cells<=1000)(h1:L w.ak<=100)(h3:L w.bU<=100)(h4:L w.ay<=100):∃r K,(∃a1 a2 a3 a4 a5 a6,r= .a [a1,iv<|-1,a2,a3,a4,a5,a6]/\SnL Y K (aH6 w) a1 a2 a3 a4 a5 a6/\Fx Y K [])/\cZ aS GG 15 [.a w.c] Y r K:=aLy hl A λs2 v1 K2 bu nf b1=>by have E:=K2.fx [];have W:=E.len.trans hl;refine zm W λv2 s3 F N3 b2=>?_;have c1:=F.kq b1;have aG:=F.len.trans W;have r6:aN (V 6) w.c=V (.a w.c):=A;have aR:aN J (w.c.drop 3)=V (sl cs w.bU):=A;have aT:aN J (w.c.drop 4)=V (sl cs w.ay):=A;have af:aN J w.c=V (sl cA.c w.cells):=A;simp only[qz 4,eQ,c1,r6];refine a57 Z h1 h3 h4 λa1 a2 a3 s5 g1 g2 g3 n P=>?_;have P1:∀q∈aA a1,q.1=6:=λq b=>(P q<|by simp[b]).2;have P2:∀q∈aA a2,q.1=6:=λq b=>(P q<|by simp[b]).2;have P3:∀q∈aA a3,q.1=6:=λq b=>(P q<|by simp[b]).2;have C:=n.kq c1;have av:=n.kq b2;have aJ:=n.len.trans aG;simp only[qz 6,eS,C,aR];refine AP H H Z Z λy s6 p5 N6 G d5=>?_;have aK:=G.len.trans aJ;have aq:=G.kq C;simp only[qz 8,eS,aq,aT];refine AP H H Z Z λB s7 p6 N7 F7 d6=>?_;have aa:=F7.len.trans aK;have T:=G.trans F7;have aC:bM bsF aon [(0, .a [a1,iv<|-1,a2,a3]),(2, .m y<|L w.bU),(3, .m B<|L w.ay)]=V (.a [a1,iv<|-1,a2,a3, .l [] U U, .m y<|L w.bU, .m B<|L w.ay]):=A;simp only[qz 10,qy 12,aC,aY];refine anu aa λS D o N8 d9=>?_;have f:=T.trans o;have aM:=o.len.trans aa;have ar:=f.kq C;have aw:=f.kq av;have q1:=g1.fx f O;have q2:=g2.fx f O;have q3:=g3.fx f O;have q5:=o.kq<|F7.kq d5;have q6:=o.kq d6;obtain⟨bs,i⟩:=y;obtain⟨bt,j⟩:=B;simp only at p5 p6;subst p5;subst p6;simp only[qz 14];refine dT ?_ ?_;obtain N|N:=aWw g1 P1<;>obtain R|R:=aWw g2 P2<;>obtain e3|e3:=aWw g3 P3<;>simp[eL,lb,aNG,dC,k1m,k1p,k1s,k1l,aOw.c,sl,N,R,e3];refine yV (L w.cells) (λk _ Y'=>∃a,box Y' (3,S)=V ⟨42,7,U,U,[[a1,iv<|-1,a2,a3,a, .m (10,i)<|L w.bU, .m (14,j)<|L w.ay]]⟩/\lI Y' 2 1 a (((w.cells.take k).map (·.init)).map ci)/\Fx D Y' [(3,S)]/\∀q∈aA a,bK D q/\q.1=32) (by grind [lI,Fx.refl,aA]) ?_;rintro k _ K hk ⟨a4,m1,g4,v,P4⟩;have N:=v.kq ar;have aF:=v.len.trans aM;have aD:∀{Y:ae} {x:Int},aX zd2 1 Y [(0,iv x)]=V (.l ([x].map ci) U U,Y):=λ{Y x}=>iz;simp only[qz 25,qy 16,qy 22,au,fD,N,af,m1,iF,bkl,bc5,bh,aD];constructor<;>intro h;have t:=aL h;refine⟨dJ t,?_⟩;refine apQ g4.p aF fF fF O NA λa' M g5 g N5=>?_;have m5:=g.keep _ _ (λb=>by have:=(P4 _ b).2;simp at this) m1;simp only[qz 18,eS,m5];refine A0 m5 g5.p.ce O λY6 ag B=>?_;have P5:∀q∈aA a',bK D q/\q.1=32:=bse;simp only[qz 20];refine dT (by simp[eL,lb,aNG,dC,dK]) ?_;simp only[au,eQ];refine yU t ⟨a',B,?_,((v.trans g).trans ag).mono λq b=>?_,P5⟩;rw[iJ t,<-aNV t,dg,dg];grind [lI.fx];grind [bK.no];obtain rfl:k=L w.cells:=X;rw[gV] at g4;have R:=v.kq aw;have Bi:aN (V 7) [a1,iv<|-1,a2,a3,a4, .m (10,i)<|L w.bU, .m (14,j)<|L w.ay]=V (.a [a1,iv<|-1,a2,a3,a4, .m (10,i)<|L w.bU, .m (14,j)<|L w.ay]):=A;simp only[Bi,aY];refine stW R A rfl λM g y=>?_;simp only[y,a6X,qh,df,Bi,aY];have u:Fx D M [(3,S),(2,v2)]:=v.trans g;have n6:∀{a:AV} {d:Nat},(∀q∈aA a,q.1=d)->d≠2->d≠3->∀q∈aA a,q∉[((3,S):Id),((2,v2):Id)]:=X;have z1:=q1.fx u<|n6 P1 H H;have z2:=q2.fx u<|n6 P2 H H;have z3:=q3.fx u<|n6 P3 H H;have z4:=g4.fx g (λq b e=>by have:=(P4 q b).2;simp at e;subst e;simp at this);have z5:lI M 2 1 (.m (10,i)<|L w.bU) ((er (L w.bU) (0:Int)).map ci):= .inr ⟨(10,i),O,by rw[u.kq q5,List.map_replicate];rfl⟩;have z6:lI M 3 1 (.m (14,j)<|L w.ay) ((er (L w.ay) (0:Int)).map ci):= .inr ⟨(14,j),O,by rw[u.kq q6,List.map_replicate];rfl⟩;have o3:∀{q:Id},bK s3 q->bK Y q:=λh=>(h.old F).old E;have o9:∀{q:Id},bK D q->bK Y q:=bse;have n5:=o3<|N6.old n;have bv:=o3<|(N7.old G).old n;refine⟨a1,a2,a3,a4,_,_,A,⟨z1.p,z2.p,z3.p,z4.p,z5.p,z6.p,X,X,X,X,λq h=>?_,λq h=>?_⟩,((((E.trans F).trans n).trans f).trans u).mono λq b=>?_⟩;grind [aA];grind [aA];simp only[dW,eW,ql,brT,cL] at b;obtain rfl|rfl:=b;exact .inr (o3<|(N8.old T).old n).no;exact .inr (N3.old E).no
def SlR(Y:ae)(z:Nat)(x:AV)(bA:List<|dM):Prop:=(∃t o,x= .l bA t o)\/∃b m e,x= .m b (L bA)/\box Y b=V ⟨e,z,U,I,bA++m⟩
section
variable{Y Y':ae}{z:Nat}{x:AV}{bA:List (dM)}
theorem SlR.fx{Lw}(h:SlR Y z x bA)(F:Fx Y Y' Lw)(a:∀q∈aA x,q∉Lw):SlR Y' z x bA:=by obtain h|⟨b,m,e,rfl,c⟩:=h;exact .inl h;exact .inr ⟨b,m,e,A,F.keep _ _ (a b aBY) c⟩
theorem SlR.bx(h:SlR Y z x bA):∀q∈aA x,∃y,box Y q=V y:=by obtain⟨t,o,rfl⟩|⟨b,m,e,rfl,a⟩:=h;simp[aA];grind [aA]
def SlR.of{e}(h:J7 Y e z x bA):SlR Y z x bA:=by obtain⟨rfl,rfl⟩|⟨b,m,rfl,a⟩:=h;exact .inl ⟨_,_,A⟩;exact .inr ⟨b,m,e,A,a⟩
def SlR.ro(h:SlR Y z x bA):gL Y x=V bA:=by obtain⟨t,o,rfl⟩|⟨b,m,e,rfl,a⟩:=h;rfl;simp[gL,a]
theorem SlR.ln(h:SlR Y z x bA):fS Y x=V (iv<|L bA):=by obtain⟨t,o,rfl⟩|⟨b,m,e,rfl,a⟩:=h;rfl;simp[fS,a]
theorem SlR.ce(h:SlR Y z x bA):eY x=V [x]:=by obtain⟨t,o,rfl⟩|⟨b,m,e,rfl,a⟩:=h<;>rfl
theorem SlR.ix1(h:SlR Y 1 x bA){i:Nat}{c}(k:bA[i]?=V [c]){K:AV->J3}(g:∀p,p= .q [c]\/(∃b,p= .p b i 0/\b∈aA x)->K p c):rV (cz 1 Y x<|iv i) λp=>rV (sA J Y p) (K p):=by obtain⟨d,j⟩:=List.getElem?_eq_some_iff.1 k;obtain⟨t,o,rfl⟩|⟨b,m,e,rfl,a⟩:=h;have:cz 1 Y (.l bA t o) (iv i)=V (.q [c]):=(by simp[cz,d,j]);rw[this];exact g _<|.inl A;have n:cz 1 Y (.m b<|L bA) (iv i)=V (.p b i 0):=(by simp[cz,a,d]);have f:(bA++m)[i]?=V [c]:=X;have r:sA J Y (.p b i 0)=V c:=(by simp only[sA,iE,a,a6X,f];cases c<;>rfl);grind [aY,aA]
theorem apV{e}{d by':Nat}{zs a new K}(f:J7 Y e z a bA)(n:gL Y x=V new)(y:L zs=z)(t:0<z)(u:d<L Y)(w:∀r∈bA,L r=z)(v:∀r∈new,L r=z)(g:(L bA+L new)*(by'+1)<=1099511627776)(k:∀c Y',J7 Y' e z c (bA++new)->Fx Y Y' (aA a)->(∀b∈aA c,b∈aA a\/bK Y b/\b.1=d)->K c Y'):eV (apA e zs by' Y d a x) K:=by have j:apA e zs by' Y d a x=apA e zs by' Y d a (.l new U U):=(by have h:gL Y (.l new U U)=V new:=A;unfold apA;rw[n,h]);rw[j];by_cases i:new=[];subst i;have:apA e zs by' Y d a (.l [] U U)=V (a,Y):=(by unfold apA;simp only[gL];rw[zg O];obtain⟨_,rfl⟩|⟨q,m,rfl,o⟩:=f;rfl;simp[o]);rw[this];exact k a Y (by simpa using f) (Fx.refl _ _) λb g=> .inl g;grind [qs,lI.p]
end
def baG{Y z0 a e z bA}(g:J7 Y e z a bA):aX [z0] 1 Y [(0,a)]=V (.l [[.l bA I I]] U U,kills Y<|aA a):=by obtain⟨rfl,rfl⟩|⟨b,m,rfl,c⟩:=g;simp[aX,aly,eY,nrm,gK,eR,aTH,aNN,iR,kills,bsm,eN,aA];simp[aX,aly,eY,nrm,gK,eR,aTH,aNN,iR,bsm,eN,aA,c]
def SlR.keys{Y z x bA}(h:SlR Y z x bA){P:Nat->Prop}(a:∀q∈aA x,P q.1):aNG x=[]\/∃p,aNG x=[p]/\P p:=by obtain⟨t,o,rfl⟩|⟨b,m,e,rfl,c⟩:=h;exact .inl A;exact .inr ⟨b.1,A,a b aBY⟩
def a6M{Y}{o ev:Int}{x1 x2}{aO6:eu}{aPe:List (eu)}(hl:L Y=4096)(h1:SlR Y 1 x1<|aO6.map ci)(h2:SlR Y 1 x2<|aPe.map cl)(hp:∀q∈aA x1,q.1≠1/\q.1≠3)(b1:L aO6<=1000)(b2:L aPe<=1000)(b3:∀t∈aPe,L t<=1000):
  ∃r j,(∃a1 a2,r= .a [iv o,a1,a2,iv ev]/\J7 j 2 1 a1 (aO6.map ci)/\J7 j 25 1 a2 (aPe.map cl)/\Fx Y j []/\(∀q∈aA a1,bK Y q/\q.1=12)/\∀q∈aA a2,bK Y q/\q.1=31)/\cZ aS GG 291 [.a [iv o,x1,x2,iv ev]] Y r j:=by
 refine bhc hl A λs2 v1 K2 bf nf c1=>?_
 have B:=K2.fx []
 have M:=B.len.trans hl
 have H1:=h1.fx B O
 have H2:=h2.fx B O
 refine zm M λv2 T v N3 q3=>?_
 have R:=v.kq c1
 have N:=v.len.trans M
 have G:∀{x:dM} {y:AV},aN J (y::x)=V y:=λ{x y}=>by cases y<;>rfl
 simp only[qz 4,eS,R,G,nM,ip,nS]
 have H3:=H2.fx v O
 have ad:=H1.fx v O
 simp only[qz 6,eS,R,G,nM,ip]
 refine apV (bA:=[]) (e:=2) (z:=1) (.inl ⟨A,A⟩) ad.ro A H Z O fF NA λa1 s4 F F4 P4=>?_
 simp only[dW] at F
 have bc:∀q∈aA a1,bK T q/\q.1=12:=bno
 have d:Fx T s4 []:=F4.mono aBY
 have ap:bM btJ bst [(0,iv o),(3,iv ev),(1,a1)]=V (.a [iv o,a1, .l [] U U,iv ev]):=by
  obtain⟨_,rfl⟩|⟨b,m,rfl,_⟩:=F<;>rfl
 simp only[qz 8,qy 10,ap,aY]
 refine anu (d.len.trans N) λv3 W w N5 q5=>?_
 have ay:=w.len.trans<|d.len.trans N
 have c5:=w.kq<|d.kq R
 have d5:=w.kq<|d.kq q3
 have g5:=F.fx w O
 have H5:=(H3.fx d O).fx w O
 have o3:∀{q:Id},bK T q->bK Y q:=λh=>(h.old v).old B
 have o5:∀{q:Id},bK W q->bK Y q:=bse
 refine dT ?_ ?_
 ·have hk:aNG a1=[]\/aNG a1=[12]:=by
   obtain⟨_,rfl⟩|⟨b,m,rfl,_⟩:=F
   ·exact .inl A
   grind [aA,aNG,dC,dK]
  obtain E|E:=hk<;>obtain e2|⟨p,e2,p1,p3⟩:=h1.keys (P:=λp=>p≠1/\p≠3) hp<;>simp[eL,lb,Cz, *]<;>simp[aNG,dC,dK]<;>omega
 refine yV (L aPe) (λk _ Y'=>∃a2,box Y' (3,v3)=V ⟨277,4,U,U,[[iv o,a1,a2,iv ev]]⟩/\J7 Y' 25 1 a2 ((aPe.take k).map cl)/\Fx W Y' [(3,v3)]/\∀q∈aA a2,bK W q/\q.1=31) (by grind [J7,Fx.refl,aA]) ?_
 rintro k _ j hk ⟨a2,m1,g2,g,P6⟩
 have E:=g.kq c5
 have af:=o3<|N5.old d
 have H6:=H5.fx g (λq n e=>by
  simp only[cE] at e
  subst e
  obtain⟨y,hy⟩:=h2.bx _ n
  exact af.no y hy)
 simp only[qz 25,qy 24,au,eS,E,m1,G,nM,ip,H6.ln,bJ,nS]
 refine⟨λh=>?_,λh=>?_⟩
 ·have f:=aL h
  simp only[qz 14,au,eS,E,G,nM,ip]
  refine H6.ix1 (i:=k) (c:=sl ci<|gd aPe k) (by rw[ve,eC f,aNV f];rfl) λp be=>?_
  have ax:=g.len.trans ay
  have bd:=b3 _<|dB f
  refine apV (bA:=[]) (e:=3) (z:=1) (new:=(gd aPe k).map ci) (.inl ⟨A,A⟩) A rfl H Z O fF NA λD s7 S F7 P7=>?_
  simp only[dW] at S
  have u:Fx j s7 []:=F7.mono aBY
  have ag:∀q∈aA D,bK j q/\q.1=29:=bno
  have C:=aOp (aA D) s7
  simp only[qz 16,qy 18,baG S,bQ]
  have g8:=(g2.fx u O).fx C X
  refine qs (new:=[[.l ((gd aPe k).map ci) I I]]) g8 A H (by rw[C.len,u.len,ax];decide) (λr hr=>by obtain⟨y,_,rfl⟩:=dN.1 hr;rfl) O O NA λa9 s9 g9 F9 P9=>?_
  have m9:=F9.keep _ _ (λn=>by have:=(P6 _ n).2;simp at this) (C.keep _ _ (λn=>by have:=(ag _ n).2;simp at this) (u.kq m1))
  simp only[qz 20,eS,m9]
  refine A0 m9 g9.p.ce O λbg K ah=>?_
  simp only[qz 22]
  refine dT ?_ ?_
  ·have av:aNG D=[]\/aNG D=[29]:=by
    obtain⟨_,rfl⟩|⟨b,m,rfl,_⟩:=S
    ·exact .inl A
    grind [aA,aNG,dC,dK]
   obtain e7|e7:=av<;>simp[eL,lb,e7,Cz]<;>simp[aNG,dC,dK,sl]
  simp only[au,eQ]
  refine yU f ⟨a9,ah,?_,((((g.trans u).trans C).trans F9).trans K).mono λq n=>?_,bse⟩
  ·rw[iJ f,<-aNV f,dg]
   exact g9.p.fx K X
  grind [bK.no,bK.old]
 ·have ar:k=L aPe:=X
  subst ar
  rw[gV] at g2
  have d6:=g.kq d5
  have uS:aN (V 4) [iv o,a1,a2,iv ev]=V (.a [iv o,a1,a2,iv ev]):=A
  simp only[uS,aY]
  refine stW d6 A rfl λs8 F8 b8=>?_
  simp only[b8,a6X,qh,df,uS,aY]
  refine⟨a1,a2,A,(g5.fx g X).fx F8 X,(by grind [J7.fx]),(((((B.trans v).trans d).trans w).trans g).trans F8).mono λq n=>?_,X,X⟩
  grind [bK.no,bK.old]
def aR3:dO:=(14,Gf)::a7D
def aPL:eJ aR3:=asq (apM PM)<|aR2
def aPg:=ai @azy<|@bcw
section
attribute[local irreducible] aX
def a9J:=I9 25 [(4,([7],[2,3,4,6])),(12,([8,9,10],[2,3,4]))]
def bhf{c0 b}:=yB2 290 6 2 277 4 3 aPL func292 a9J c0 b [.a c0, .a b]
end
def bfq{Y b}{i j z:Nat}{e s}{z2:Nat}{a r bA d K}(h:box Y b=V ⟨e,z,U,I,bA⟩)(w:bA[i]?=V r)(x:j<L r)(g:J7 Y s z2 a d)(n:b∉aA a)(u:∀Y',Fx Y Y' (aA a++[b])->box Y' b=V ⟨e,z,U,I,bA.set i<|r.set j<|.l d I I⟩->K Y'):sV (aK 1 Y (.p b i j) a) K:=by have v:nrm (eR Y a)= .l d I I:=(by obtain⟨rfl,rfl⟩|⟨q,m,rfl,o⟩:=g;rfl;simp[eR,aTH,o,nrm,gK]);have k:aNN a=aA a:=(by obtain⟨rfl,rfl⟩|⟨q,m,rfl,o⟩:=g<;>rfl);have f:=aOp (aA a) Y;have c:=f.keep b _ n h;have t:aK 1 Y (.p b i j) a=V (wr (kills Y<|aA a) b ⟨e,z,U,I,bA.set i<|r.set j<|.l d I I⟩):=(by simp only[aK,aBG,h,eE,btd,k,v,pW,c,eY,w,bZ,bhZ];rw[zg ⟨trivial,Z,λ_=>A⟩];grind [GP]);rw[t];exact u _ (f.trans<|wc c)<|lO c
structure TSt(Y:ae)(P:eu->Prop)(n:Nat)(a1 a2:AV)(aO6:eu)(aPe:List<|eu):Prop where
 g1:J7 Y 2 1 a1 (aO6.map ci)
 g2:J7 Y 25 1 a2 (aPe.map cl)
 n1:L aO6=n
 n2:L aPe=n
 hP:∀t∈aPe,P t
 p1:∀q∈aA a1,q.1=12
 p2:∀q∈aA a2,q.1=31
def aSq(Y:ae)(P:eu->Prop)(n:Nat)(a1 b:AV)(ev:Int)(r:AV)(c:ae):Prop:=Fx Y c (aA a1++aA b)/\(r= .t [.a btJ,bv I]\/∃(e:Int) (d:Bool) (aO6:eu) (aPe:List<|eu),r= .t [.a [iv e,a1,b,iv ev],bv d]/\TSt c P n a1 b aO6 aPe)
theorem TSt.fx{Y Y' P n a1 b aO6 aPe}(S:TSt Y P n a1 b aO6 aPe){Lw}(F:Fx Y Y' Lw)(c:∀q∈Lw,q.1≠12/\q.1≠31):TSt Y' P n a1 b aO6 aPe:=⟨S.g1.fx F λq a e=>(c q e).1<|S.p1 q a,S.g2.fx F λq a e=>(c q e).2<|S.p2 q a,S.n1,S.n2,S.hP,S.p1,S.p2⟩
def bdr{Y P}{n:Nat}{i:aRV}{pc ev:Int}{a1 E aO6 aPe}(hl:L Y=4096)(S:TSt Y P n a1 E aO6 aPe)(bW:1<=i.op/\i.op<=5)(hn:n<=1000)(be:P [])(bg:∀a b,P a->P b->P (mP a b))(bf:∀a,P a->L a<=1000):∃r B,aSq Y P n a1 E ev r B/\cZ aS GG 292 [.a i.c, .a [iv pc,a1,E,iv ev]] Y r B:=bhf hl A rfl λs4 v2 v3 K4 bY nf2 b0 c2 c3=>by have F4:=K4.fx [];have bo:=F4.len.trans hl;refine zm bo λv5 s5 F5 N5 c5=>?_;have d2:=F5.kq c2;have G:=F5.kq c3;simp only[qz 6,eQ,d2,oy,jM,kU,jt,aPg];rintro r ⟨t',o',rfl⟩;refine⟨by simp[lo,nA,aNN,iR,aRV.c],?_⟩;refine yV (L<|bie i) (λk _ Y'=>Y'=s5/\∀j,j<k->aF n (gd (bie i) j)) ⟨A,O⟩ ?_;rintro k _ B hk ⟨rfl,hc⟩;have w:=(S.fx F4 O).fx F5 O;have k1:∀{x:dM} {y:AV},aN J (y::x)=V y:=λ{x y}=>(by cases y<;>rfl);have T:Fx Y B []:=F4.trans F5;have hz:bM btJ bst []=V (.a btJ):=A;have aD:∀{Y':ae},J7 Y' 2 1 a1 (aO6.map ci)->fS Y' a1=V (iv n):=λg=>(by rw[g.ln,bJ,S.n1]);have am:∀R:Bool,sV (aK 4 B (.p (4,v5) 0 0)<|.a btJ) λs=>rV (sA (V 4) s<|.p (4,v5) 0 0) λt=>aRf (aSq Y P n a1 E ev) s [t,bv I]:=λR=>(stW c5 A rfl λs6 F6 b6=>by rw[aEa b6 A];exact⟨(T.trans F6).mono bwa, .inl A⟩);have bm:∀x:Int,(Q (x<0)||Q (x>=(n:Int)))=I->aF n x:=λx N=>(by simp only[cP,aPs] at N;exact⟨Z,Z⟩);obtain C|C:=Decidable.em<|k<L (bie i);have hd:Q ((k:Int)<(L (bie i):Int))=U:=X;rcases h1:Q (gd (bie i) k<0) with _|_;rcases h2:Q (gd (bie i) k>=(n:Int)) with _|_;simp only[qz 25,qy 8,au,gT,tf,J9,bh,hd,h1,h2,eT,G,k1,aD w.g1,↓jA,a7i,↓iC,↓iB];refine⟨dJ C,dJ C,dR (mk:=λ_ i=>[iv i]) (s:=()) (s':=()) (λ_ _=>A) C (by grind [a64]) ⟨A,a6p hc<|bm _ ?_⟩⟩;simp_all;simp only[qz 25,qy 8,au,gT,tf,J9,bh,hd,h1,h2,eT,G,k1,aD w.g1,↓jA,a7i,↓iC,hz];exact⟨dJ C,dJ C,am I⟩;simp only[qz 25,qy 8,au,gT,tf,J9,bh,hd,h1,eT,G,k1,↓jN,a5C,↓iC,hz];exact⟨dJ C,am I⟩;(focus have hd:Q ((k:Int)<(L (bie i):Int))=I:=NA;simp only[qz 25,qy 8,au,gT,hd,↓iB,eQ];obtain rfl:k=L (bie i):=Z;have f:∀r∈bie i,aF n r:=λr hr=>(by obtain⟨j,hj,rfl⟩:=ou hr;grind [aNV]);have ho:i.op=1\/i.op=2\/i.op=3\/i.op=4\/i.op=5:=Z;refine bsf (λd=>∀(v:Int) (R:Bool) (tx:AV) (t:eu),(∃t' o',tx= .l (t.map ci) t' o')->P t->aF n i.a->d [iv v,bv R,tx] B) ?_ λd D=>?_;rintro v R tx t ⟨t',o',rfl⟩ M aC;obtain⟨m,hm⟩:∃m:Nat,i.a=m:=⟨i.a.toNat,by have:=aC.1;omega⟩;have bV:m<n:=(aYF aC.2);have bU:m<L aO6:=(by rwa [w.n1]);have aE:m<L aPe:=(by rwa [w.n2]);have bX:=bf _ M;simp only[qz 75,qy 14,au,gp,d2,G,k1,nS,hm];refine apV (bA:=[]) (e:=3) (z:=1) (new:=t.map ci) (.inl ⟨A,A⟩) A rfl H bvh O fF NA λa7 s7 g7 F7 P7=>?_;simp only[dW] at g7;have W:Fx B s7 []:=F7.mono aBY;have aV:∀q∈aA a7,bK B q/\q.1=125:=bno;have S7:=w.fx W O;have a5:=W.kq G;have a8:=W.kq c5;simp only[qz 16,au];refine ixG S7.g1 bt2 λb1 m1 bi bk=>?_;rw[bh];have br:=S7.p1 b1 bno;refine aQz (x:=iv v) (r:=[iv<|gd aO6 m]) bk (by simp_all [xe,aNV]) O A rfl rfl λs8 F8 b8=>?_;have aQ:(aO6.map ci++m1).set m ([iv<|gd aO6 m].set 0<|nrm<|eR s7<|iv v)=(aO6.set m v).map ci++m1:=(by rw[List.set_append_left _ _ X,bsl];rfl);rw[aQ] at b8;have e1:J7 s8 2 1 a1 ((aO6.set m v).map ci):= .inr ⟨b1,m1,by rw[bi];simp,b8⟩;have e2:=S7.g2.fx F8 (by grind [TSt.p2]);have e7:=g7.fx F8 X;have n1:∀{q:Id},q.1≠12->q∉[b1]:=X;have a6:=F8.keep _ _ (n1 O) a5;have a9:=F8.keep _ _ (n1 O) a8;simp only[qz 18];refine ixG e2 bt2 λb2 m2 bj bl=>?_;rw[bh];have b3:=S7.p2 b2 bno;refine bfq (r:=[sl ci<|gd aPe m]) bl (by rw[xe X,ve,eC aE,aNV aE];rfl) O e7 X λs9 F9 b9=>?_;have ax:(aPe.map cl++m2).set m ([sl ci<|gd aPe m].set 0<|.l (t.map ci) I I)=(aPe.set m t).map cl++m2:=(by rw[List.set_append_left _ _ X,bsl];rfl);rw[ax] at b9;have n2:∀{q:Id},q.1≠125->q.1≠31->q∉aA a7++[b2]:=λh h' e=>(by obtain e|e:=dF.1 e;grind;grind);have S9:TSt s9 P n a1 E (aO6.set m v) (aPe.set m t):=⟨e1.fx F9<|λq o=>n2 (by grind [TSt.p1])<|by grind [TSt.p1], .inr ⟨b2,m2,by rw[bj];simp,b9⟩,by simp[w.n1],by simp[w.n2],(by grind [TSt.hP]),S7.p1,S7.p2⟩;have aB:=F9.keep _ _ (n2 O O) a6;have ba:=F9.keep _ _ X a9;simp only[qz 20];refine dT ?_ ?_;simp only[au,nr];simp[eL,lb,aNG,dC,dK,br];simp only[eS,aB,k1,ip];refine A0 aB A O λbs ag aX=>?_;have F:∃aq,box bs (3,v3)=V ⟨277,4,U,U,[[iv aq,a1,E,iv ev]]⟩:=⟨_,aX⟩;obtain⟨aq,F⟩:=F;simp only[qz 22,qy 24,aEa F A,aY,gt1];refine stW (ag.kq ba) A rfl λb4 az aZ=>?_;rw[aEa aZ A];refine⟨(((((T.trans W).trans F8).trans F9).trans ag).trans az).mono λq o=>?_, .inr ⟨aq,R,_,_,A,(S9.fx ag O).fx az O⟩⟩;simp only[dW,cL,dF,cE] at o;obtain((o|o|o)|o)|o:=o;grind [aA];exact .inr ((aV q o).1.old T).no;grind [aA];grind;subst o;exact .inr (N5.old F4).no;have aa:∀{x:Int} {K:AV->J3},aF n x->(∀p y,K p<|iv y)->rV (cz 1 B a1<|iv x) λp=>rV (sA J B p) (K p):=λ{x K} N hK=>(by obtain⟨m,rfl⟩:∃m:Nat,x=m:=⟨x.toNat,by have:=N.1;omega⟩;have hm:m<L aO6:=(be7 N.2 w.n1);exact(SlR.of w.g1).ix1 (i:=m) (c:=iv<|gd aO6 m) brU λp _=>hK p _);have ab:∀{x:Int} {K:AV->J3},aF n x->(∀p t,P t->K p (sl ci t))->rV (cz 1 B E<|iv x) λp=>rV (sA J B p) (K p):=λ{x K} N hK=>(by obtain⟨m,rfl⟩:∃m:Nat,x=m:=⟨x.toNat,by have:=N.1;omega⟩;have hm:m<L aPe:=(be7 N.2 w.n2);exact(SlR.of w.g2).ix1 (i:=m) (c:=sl ci<|gd aPe m) (by rw[ve,eC hm,aNV hm];rfl)<|by grind [TSt.hP,dB]);obtain h|h|h|h|h:=ho;(all_goals simp only[qz 77,h,bqQ,bqF,Int.reduceEq,jB,d2,G,k1,↓iC,↓iB,jM,kU,jt,tW,aPg,Cq]);exact D _ _ _ [] ⟨_,_,A⟩ be (by grind [bie]);refine aa (f _<|by simp[bie,h]) λp y=>ab (f _<|by simp[bie,h]) λp t M=>D _ _ _ t ⟨_,_,A⟩ M (f _<|by simp[bie,h]);intro x;refine aa (f _<|by simp[bie,h]) λp y=>?_;simp only[tW,aPg];rintro r ⟨u,R,rfl⟩;refine⟨by simp[lo,nA,aNN,iR],?_⟩;simp only[oJ,pG,u0];exact ab (f _<|by simp[bie,h]) λp t M=>D _ _ _ t ⟨_,_,A⟩ M (f _<|by simp[bie,h]);intro x;refine aa (f _<|by simp[bie,h]) λp y=>aa (f _<|by simp[bie,h]) λp y'=>?_;simp only[tW,aPg];rintro r ⟨u,R,rfl⟩;refine⟨by simp[lo,nA,aNN,iR],?_⟩;simp only[oJ,pG,u0];refine ab (f _<|by simp[bie,h]) λp t M=>ab (f _<|by simp[bie,h]) λp t2 bp=>?_;simp only[alg,aPg];refine⟨X,?_⟩;rintro r ⟨t',o',rfl⟩;exact⟨by simp[lo,nA,aNN,iR,sl],D _ _ _ (mP t t2) ⟨_,_,A⟩ (bg _ _ M bp)<|f _<|by simp[bie,h]⟩;refine A0 G A O λs6 F6 b6=>?_;have a0:box s6 (3,v3)=V ⟨277,4,U,U,[[iv i.a,a1,E,iv ev]]⟩:=b6;simp only[qz 10,qy 12,aEa a0 A,aY];refine stW (F6.kq c5) A rfl λs7 F7 b7=>?_;rw[aEa b7 A];refine⟨((T.trans F6).trans F7).mono λq o=>?_, .inr ⟨i.a,U,aO6,aPe,A,(w.fx F6 O).fx F7 O⟩⟩;simp only[dW,dF,cE] at o;obtain rfl|rfl:=o;simp_all;exact .inr (N5.old F4).no)
def a7E:dO:=aR3
def a7m:eJ a7E:=aPL
def aTd:=@aPg
section
attribute[local irreducible] aX
def a9H:=I9 26 [(7,([6],[2,3,4]))]
def bhd{c0 b}:=yB2 273 2 2 277 4 3 a7m func266 a9H c0 b [.a c0, .a b]
end
def aOo(Y:ae):AV->AV| .t vs=> .t (vs.map λx=>nrm<|eR Y x)|x=>nrm<|eR Y x
def aNW:AV->List Id| .t vs=>vs.flatMap aNN|x=>aNN x
def bcr{P κ w Y β v x}(s:zw P κ w Y β)(h:ba κ w Y β v x):ba κ w (kills Y<|aNW x) β v (aOo Y x):=by cases x with|t vs=>(cases h with|t g h=>refine .t X λi v c f a=>?_;rw[ve] at a;cases e:vs[i]? with|none=>simp_all|some y=>rw[e] at a;simp only[df,aOe] at a;subst a;exact yo<|xK s (h i v y f e) λb d=>List.mem_flatMap.2 ⟨y,List.mem_of_getElem? e,d⟩)|_=>exact yo (xK s h λb d=>d)
def cZ.frz{P G fn xs Y a r}(h:cZ P G fn xs Y r a):cZ P G fn xs Y (aOo a r) (kills a<|aNW r):=by refine⟨h.1,λκ w β c s g f=>(h.2 κ w β c s g f).mono ?_⟩;rintro e k ⟨v,d,rfl,i,b,j⟩;exact⟨v,d,A,bcr b i,(D1 _ b).2.1,j.trans (D1 _ b).1⟩
def aQR{P G fn xs Y}{R Q:be}(h:∃r a,R r a/\cZ P G fn xs Y r a)(d:∀r a,R r a->Q (aOo a r) (kills a<|aNW r)):∃r a,Q r a/\cZ P G fn xs Y r a:=by obtain⟨r,a,b,c⟩:=h;exact⟨_,_,d r a b,c.frz⟩
def a6r{Y e z a bA}(g:J7 Y e z a bA):gK (aTH Y a)= .l bA I I:=aOb g
def aQX{Y e z a bA}(g:J7 Y e z a bA):iR a=aA a:=by obtain⟨_,rfl⟩|⟨b,m,rfl,_⟩:=g<;>rfl
section
variable{Y:ae}{P:eu->Prop}{n:Nat}{d:Nat}{K:be}
def ba0{i:aRV}{q ev:Int}{a1 f aO6 aPe}(o:L Y=4096)(S:TSt Y P n a1 f aO6 aPe)(l:1<=i.op/\i.op<=5)(p:n<=1000)(g:P [])(k:∀a b,P a->P b->P (mP a b))(j:∀a,P a->L a<=1000)(m:∀r e,aSq Y P n a1 f ev r e->K r e):cB 292 [.a i.c, .a [iv q,a1,f,iv ev]] Y d K:=jH A (bdr o S l p g k j)<|λr e h=>by exact⟨h.1.len,m r e h⟩
theorem alD{g ev:Int}{f x2 aO6 aPe}(m:L Y=4096)(i:SlR Y 1 f<|aO6.map ci)(j:SlR Y 1 x2<|aPe.map cl)(o:∀q∈aA f,q.1≠1/\q.1≠3)(p:L aO6=n)(s:L aPe=n)(w:n<=1000)(l:∀t∈aPe,P t)(v:∀a,P a->L a<=1000)(k:∀a1 c b,TSt b P n a1 c aO6 aPe->Fx Y b []->(∀q∈aA a1++aA c,bK Y q)->K (.a [iv g,a1,c,iv ev]) b):cB 291 [.a [iv g,f,x2,iv ev]] Y d K:=jH A (a6M m i j o Z Z vB)<|by rintro r b ⟨a1,c,rfl,g1,h,F,p1,u⟩;refine⟨F.len,k a1 c b ⟨g1,h,p,s,l,λq e=>(p1 q e).2,λq e=>(u q e).2⟩ F λq e=>?_⟩;grind
end
def Tn(l:eu):Prop:=jC l/\∀x∈l,0<=x/\x<1000
theorem Tn.len{l}(h:Tn l):L l<=1000:=by have key:∀i,i<L l->(i:Int)<=gd l i:=(λi=>by induction i with|zero=>intro a;exact(h.2 _<|dB a).1|succ i c=>intro a;have:=c Z;have:=h.1 i a;omega);obtain b|b:=oD<|L l;omega;have:=key (L l-1) Z;have:=(h.2 _<|dB (l:=l) (k:=L l-1) Z).2;omega
theorem Tn.nil:Tn []:=⟨λi a=>by simp at a,O⟩
theorem Tn.one{x}(h:0<=x/\x<1000):Tn [x]:=⟨λi a=>by simp at a,by simpa using h⟩
theorem Tn.put{l x}(h:Tn l)(b:0<=x/\x<1000):Tn (fk l x):=⟨Nz h.1,λy a=>(an1 a).elim Z<|h.2 y⟩
def Tn.fold:∀(a:eu) {l},Tn l->(∀x∈a,0<=x/\x<1000)->Tn (a.foldl fk l)|[],_,h,_=>h|x::a,_,h,b=>Tn.fold a (h.put<|b x O) vB
def Tn.un(a b)(c:Tn a)(e:Tn b):Tn (mP a b):=by simp only[mP,jh,gV];exact Tn.fold b (Tn.fold a Tn.nil c.2) e.2
def ts0:bim:=⟨0,[],[],0⟩
def aQG(s s':bim):Prop:=(∀t∈s'.aPe,Tn t)/\L s'.aO6<=1000/\L s'.aPe<=1000/\(s'.ac=s.ac\/s'.ac=0)
def bdq{Y}{c:bqI}{s x1 x2}(hl:L Y=4096)(bc:SlR Y 1 x1<|s.aO6.map ci)(bd:SlR Y 1 x2<|s.aPe.map cl)(hp:∀q∈aA x1,q.1≠1/\q.1≠3)(p1:c.aO6<=1000)(p2:L c.boU<1000000)(p3:L s.aO6<1000000)(p4:L s.aPe<1000000)(p5:∀t∈s.aPe,Tn t):
  ∃r Y1,((∃(j:Bool) (s':bim),r= .t [.a s'.c,bv j]/\aQG s s')/\Fx Y Y1 [])/\cZ aS GG 266 [.a c.c, .a [iv s.pc,x1,x2,iv s.ac]] Y r Y1:=by
 generalize hQ:(λ(r:AV) (y:ae)=>(∃(j:Bool) (s':bim),aOo y r= .t [.a s'.c,bv j]/\aQG s s')/\Fx Y (kills y<|aNW r) [])=Qq
 refine aQR (R:=Qq) ?_ X
 refine bhd hl A rfl λs4 v2 v3 K4 bK nf2 bM b1 b2=>?_
 have T:=K4.fx []
 have aC:=T.len.trans hl
 have H1:=bc.fx T O
 have H2:=bd.fx T O
 refine zm aC λv5 s5 z N5 c5=>?_
 have d1:=z.kq b1
 have d2:=z.kq b2
 have aD:=z.len.trans aC
 have G:∀{x:dM} {y:AV},aN J (y::x)=V y:=λ{x y}=>by cases y<;>rfl
 have M:∀{a b c d:AV},aN (V 4) [a,b,c,d]=V (.a [a,b,c,d]):=A
 have w:Fx Y s5 []:=T.trans z
 have aL:∀{x:ae} {cs:dM} {s':bim} {j:Bool},cs.map (lz x)=s'.c->aQG s s'->Fx Y x []->(∀q∈cs.flatMap iR,∀y,box Y q≠V y)->aRf Qq x [.a cs,bv j]:=λ{x cs s' j} e h F hn=>by
  show Qq (.t [.a cs,bv j]) x
  rw[<-hQ]
  have e1:aOo x (.t [.a cs,bv j])= .t [.a s'.c,bv j]:=by
   show AV.t [nrm<|eR x<|.a cs,bv j]=_
   have:nrm (eR x<|.a cs)= .a (cs.map<|lz x):=by simp only[eR,nrm,vA];rfl
   rw[this,e]
  refine⟨⟨j,s',e1,h⟩,(F.trans<|aOp _ _).mono λq o=> .inr<|hn q ?_⟩
  grind [aNW,aNN,iR]
 have n5:=(N5.old T).no
 have g:∀{x:ae} (j:Bool),Fx Y x []->box x (4,v5)=V ⟨277,4,U,U,[btJ]⟩->sV (aK 4 x (.p (4,v5) 0 0)<|.a btJ) λy=>rV (sA (V 4) y<|.p (4,v5) 0 0) λt=>aRf Qq y [t,bv I]:=λ{x} j F hb=>by
  refine stW hb A rfl λs6 E b6=>?_
  rw[aEa b6 A]
  exact aL (s':=ts0) A ⟨by simp[ts0],by simp[ts0],by simp[ts0], .inr A⟩ ((F.trans E).mono vB) (by simp[iR])
 have af:fS s5 x1=V (iv<|L s.aO6):=by rw[(H1.fx z O).ln,bJ]
 have aJ:fS s5 x2=V (iv<|L s.aPe):=by rw[(H2.fx z O).ln,bJ]
 rcases l:Q ((L s.aO6:Int)≠c.aO6) with _|_
 ·have q1:(L s.aO6:Int)=c.aO6:=X
  rcases D:Q ((L s.aPe:Int)≠c.aO6) with _|_
  ·have q2:(L s.aPe:Int)=c.aO6:=X
   simp only[qz 6,gp,d1,d2,G,af,aJ,l,D,↓jA,↓iB,M]
   refine alD (P:=Tn) (n:=L s.aO6) aD (H1.fx z O) (H2.fx z O) hp A Z Z p5 (λa h=>h.len) λa1 a2 s6 S6 E N6=>?_
   simp only[qz 10,qy 12]
   have a5:=E.kq d1
   have a7:=E.kq d2
   have a3:=E.kq c5
   refine stW a7 A rfl λs7 W b7=>?_
   have a6:=W.kq a5
   have a4:=W.kq a3
   have S7:=S6.fx W O
   have ba:=(W.len.trans E.len).trans aD
   refine yV (L c.boU+1) (λk _ x=>∃u aO6 aPe,Fx Y x []/\L x=4096/\box x (2,v2)=V ⟨273,2,U,U,[c.c]⟩/\box x (3,v3)=V ⟨277,4,U,U,[[iv u,a1,a2,iv s.ac]]⟩/\box x (4,v5)=V ⟨277,4,U,U,[btJ]⟩/\TSt x Tn (L s.aO6) a1 a2 aO6 aPe) ⟨_,_,_,((w.trans E).trans W).mono X,ba,a6,b7,a4,S7⟩ ?_
   rintro k _ x hk ⟨u,aO6,aPe,N,aG,m1,m2,m3,S⟩
   have kk:∀{y:AV},Q ((k:Int)<=(L c.boU:Int))=U->k<L c.boU+1:=X
   rcases hx:Q ((k:Int)<=(L c.boU:Int)) with _|_
   ·simp only[qz 43,qy 14,qy 16,qy 34,au,gp,m1,m2,G,hx,↓iB]
    exact g I N m3
   have bH:k<=L c.boU:=X
   rcases l:Q (u<0) with _|_
   ·rcases D:Q (u>=(L c.boU:Int)) with _|_
    ·have a8:aF (L c.boU) u:=by
      simp only[aPs] at l D
      exact⟨Z,Z⟩
     simp only[qz 43,qy 16,qy 34,au,eT,m1,m2,J9,G,hx,l,D,ixv,↓jA,↓iC,↓iB]
     refine⟨a8,anu aG λv7 s8 B N8 b8=>?_⟩
     have n1:=B.kq m1
     have n2:=B.kq m2
     have n3:=B.kq m3
     have S8:=S.fx B O
     have aE:=B.len.trans aG
     generalize hI:gd c.boU u.toNat=i at b8⊢
     have ri:aN (V 6) i.c=V (.a i.c):=A
     rcases hs:(Q (1<=i.op)&&Q (i.op<=5)) with _|_
     ·simp only[qz 18,qy 20,qy 22,eS,n2,b8,J9,M,ar,aTd,rr,hs,↓iC]
      refine stW n3 A rfl λs9 C b9=>?_
      simp only[b9,a6X,qh,df,M,aY]
      have m:=S8.fx C O
      exact aL (s':=⟨u,aO6,aPe,s.ac⟩) (by simp only[ji,mU,aQ5,aOb m.g1,aOb m.g2];rfl) ⟨m.hP,by have:=m.n1;simp only;omega,by have:=m.n2;simp only;omega, .inl A⟩ (((N.trans B).trans C).mono X) (λq o=>by
       have e9:([iv u,a1,a2,iv s.ac]:dM).flatMap iR=aA a1++aA a2:=by simp only[Cz,RN,aQX m.g1,aQX m.g2];simp[iR]
       rw[e9] at o
       exact((N6 q o).old w).no)
     have bb:1<=i.op/\i.op<=5:=X
     rcases o:Q ((k:Int)=(L c.boU:Int)) with _|_
     ·simp only[qz 18,qy 20,eS,n1,n2,b8,J9,M,ri,ar,aTd,rr,hs,o,↓iB]
      refine ba0 aE S8 bb Z Tn.nil Tn.un (λa h=>h.len) λr s9 h9=>?_
      obtain⟨C,h9⟩:=h9
      have bL:∀{b:Id},b.1≠12->b.1≠31->b∉aA a1++aA a2:=λl D o=>by
       obtain h|h:=dF.1 o
       ·exact l (S.p1 _ h)
       ·exact D (S.p2 _ h)
      have o1:=C.keep _ _ X n1
      have o2:=C.keep _ _ X n2
      have o3:=C.keep _ _ X n3
      have ad:=C.len.trans aE
      have aa:Fx Y s9 []:=((N.trans B).trans C).mono λq o=> .inr ((N6 q X).old w).no
      obtain rfl|⟨bf,j,ax,ak,rfl,m⟩:=h9
      ·simp only[qz 24,qy 26,oJ,pG,aY]
       refine anu ad λbj bg f aU aB=>?_
       have q1:=f.kq o1
       have q2:=f.kq o2
       have q3:=f.kq o3
       simp only[qz 28,qy 30,eQ,↓iC]
       exact g I (aa.trans f) q3
      ·simp only[qz 24,qy 26,oJ,pG,aY]
       refine anu ad λbj bg f aU aB=>?_
       have q1:=f.kq o1
       have q2:=f.kq o2
       have q3:=f.kq o3
       have aW:=m.fx f O
       cases j with
       |false=>
        simp only[qz 28,qy 30,eQ,↓iC]
        exact g I (aa.trans f) q3
       |true=>
        simp only[qz 28,eQ,aB,M,↓iB]
        refine stW q2 A rfl λbO v a0=>?_
        simp only[qz 32,au,eQ]
        have bI:k≠L c.boU:=X
        exact yU Z ⟨bf,ax,ak,((aa.trans f).trans v).mono X,(v.len.trans f.len).trans ad,v.kq q1,a0,v.kq q3,aW.fx v O⟩
     ·simp only[qz 18,qy 20,qy 22,eS,n1,n2,b8,J9,M,ar,aTd,rr,hs,o,↓iB,↓iC]
      exact g I (N.trans B) n3
    ·simp only[qz 43,qy 14,qy 34,au,eS,m1,m2,J9,G,hx,l,D,↓jA,↓iC,wY]
     exact g I N m3
   ·simp only[qz 43,qy 14,qy 16,qy 34,au,eS,m1,m2,J9,G,hx,l,↓jN,a5C,↓iC]
    exact g I N m3
  ·simp only[qz 6,qy 8,eS,d1,d2,J9,G,af,aJ,l,D,↓jA,↓iC,wY]
   exact g I w c5
 ·simp only[qz 6,qy 8,eS,d1,d2,J9,G,af,l,↓jN,a5C,↓iC,M]
  exact g I w c5
def baY{Y}{c:bqI}{s b x2}{d:Nat}{K}(h:L Y=4096)(f:SlR Y 1 b<|s.aO6.map ci)(g:SlR Y 1 x2<|s.aPe.map cl)(i:∀q∈aA b,q.1≠1/\q.1≠3)(p1:c.aO6<=1000)(k:L c.boU<1000000)(l:L s.aO6<1000000)(m:L s.aPe<1000000)(o:∀t∈s.aPe,Tn t)(p:∀(j) (s') e,aQG s s'->Fx Y e []->K (.t [.a s'.c,bv j]) e):cB 266 [.a c.c, .a [iv s.pc,b,x2,iv s.ac]] Y d K:=jH A (bdq h f g i p1 k l m o)<|by grind [Fx.len]
def aYd:dO:=a7E
def a7n:eJ aYd:=a7m
def bcx:=@aTd
section
attribute[local irreducible] aX
def aSz a b R:=(.mk _:NF<|zF GGV aYd atW Tryz.f265 [.u] [a] b<|QDb Tryz.f265 R).p
def bhg{c0:dM}{s0:ae}{R:be}(hs:L s0=4096)(l0:L c0=7)(h:HB1 145 7 1 c0 s0 λc b=>aSz c b R):EB 265 [.a c0] s0 R:=aTc<|zB1 atW (aQ9 a7n) func265 hs l0 h
end
section
variable{ks:eP}{l l':List Id}{Y Y' Y1:ae}
theorem aTi{e z a bA}(g:J7 Y e z a bA):∀q∈aA a,∃x,box Y q=V x:=by obtain⟨_,rfl⟩|⟨b,m,rfl,h⟩:=g;simp[aA];grind [aA]
theorem aQu{e z k a bA}(g:J7 Y e z a bA)(h:k∈dK a):∃q∈aA a,q.1=k:=by obtain⟨_,rfl⟩|⟨b,m,rfl,_⟩:=g;grind [k1l];grind [k1m,aA]
end
def btN{p:Prop}(h:p:=by simp[Go.Ab.eN]):p:=h
def baT{y ev:Int}{B x2 aO6 aPe Y}{d:Nat}{K}(R:L Y=4096)(G:B=sl ci aO6)(M:x2=sl cl aPe)(C:L aO6<=1000)(D:L aPe<=1000)(E:∀t∈aPe,L t<=1000)(l:List Id)(W:∀p∈l,∃e z a bA,J7 Y e z a bA/\p∈aA a)(hp:∀p∈l,p.1=12\/p.1=31)(P:∀a1 b Y',J7 Y' 2 1 a1 (aO6.map ci)->J7 Y' 25 1 b (aPe.map cl)->Kx [12,31] Y Y'->(∀{e z a bA},J7 Y e z a bA->(∀q∈aA a,q∈l)->J7 Y' e z a bA)->(∀q∈aA a1,q∉l/\q.1=12)->(∀q∈aA b,q∉l/\q.1=31)->K (.a [iv y,a1,b,iv ev]) Y'):cV 291 [.a [iv y,B,x2,iv ev]] Y d K:=by subst G M;have o:L (bnq [12,31] l Y)=4096:=aOr.trans R;have:∀{l':List Id} {q:Id},q.1=12\/q.1=31->q∈l'->okI [12,31] l' q:=λh N=>⟨by obtain h|h:=h<;>simp[h],N⟩;have:∀{e z a bA},J7 Y e z a bA->(∀q∈aA a,q∈l)->J7 (bnq [12,31] l Y) e z a bA:=(by grind [a6y]);refine aQN A rfl l (λx j=>?_) ?_ (a6M o (.inl ⟨_,_,A⟩) (.inl ⟨_,_,A⟩) (by simp[aA,sl]) C D E) ?_;simp only[cE] at j;subst j;intro c g;simp only[eW,ql,brT] at g;obtain rfl|rfl|rfl|rfl:=g;trivial;exact .inl btN;exact .inl btN;trivial;intro p s x j S;grind [aOV,aNO];rintro r Y1 ⟨a1,b,rfl,g1,m,F,p1,T⟩;have i:=F.len.trans aOr;have v:∀q∈aA a1,okI [12,31] (l++(aA a1++aA b)) q:=X;have w:∀q∈aA b,okI [12,31] (l++(aA a1++aA b)) q:=X;have:∀q∈l,∃x,box (bnq [12,31] l Y) q=V x:=(by grind [aTi,aOV]);refine⟨i,l++(aA a1++aA b),λp s x j S=>?_,λc g=>?_,P a1 b _ (aRR i g1 v) (aRR i m w) Kx.mix (by grind [aRR,J7.fx]) (λq k=>⟨λu=>?_,(p1 q k).2⟩) λq k=>⟨λu=>?_,(T q k).2⟩⟩;grind [Fx.keep,aNO,aOV];simp only[eW,ql,brT] at g;obtain rfl|rfl|rfl|rfl:=g;trivial;exact aQw g1 v;exact aQw m w;trivial;grind [bK.no];grind [bK.no]
def aTn{b i j}:aNG (.p b i j)=[b.1]:=rfl
def a6H{r t o}:aNG (.l r t o)=[]:=rfl
def bc7{α f}{l:List α}:aNG (sl f l)=[]:=rfl
def aWx{Y ds e z a bA}(g:Gr Y ds e z a bA):J7 Y e z a bA/\∀q∈aA a,q.1∈ds:=by obtain⟨b,c⟩|⟨d,v,b,c,h⟩:=g;exact⟨.inl ⟨b,c⟩,bno⟩;refine⟨.inr ⟨_,[],b,by simpa using h⟩,?_⟩;grind [aA]
def bnf{Y x o p r z1 z2 z3 i j m a1 b c w y z}(g1:J7 Y o z1 a1 w)(s:J7 Y p z2 b y)(t:J7 Y r z3 c z)(p1:∀q∈aA a1,q.1=i)(u:∀q∈aA b,q.1=j)(v:∀q∈aA c,q.1=m):∀k∈aNG (.a [a1,iv x,b,c]),k=i\/k=j\/k=m:=λk g=>by
 have e:aNG (.a [a1,iv x,b,c])=dK a1++(dK b++dK c):=btp
 rw[e] at g
 simp only[dF] at g
 obtain h|h|h:=g
 ·obtain⟨q,d,rfl⟩:=aQu g1 h;exact .inl<|p1 q d
 ·obtain⟨q,d,rfl⟩:=aQu s h;exact .inr<|.inl<|u q d
 ·obtain⟨q,d,rfl⟩:=aQu t h;exact .inr<|.inr<|v q d
def bjx{s:aW}{Y}{d:Nat}{K}(z:L Y=4096)(i:L s.ak<100000/\L s.done<100000/\L s.ay<100000/\∀l∈s.ak,L l.bk<1000000)(G:∀a1 b e Y',Kx [10,14,41] Y Y'->J7 Y' 191 2 a1 (s.ak.map cg.c)->J7 Y' 4 1 b (s.done.map cb)->J7 Y' 69 3 e (s.ay.map aoC.c)->(∀q∈aA a1,q.1=41)->(∀q∈aA b,q.1=10)->(∀q∈aA e,q.1=14)->K (.a [a1,iv s.tx,b,e]) Y'):cV 128 [.a s.c] Y d K:=by have m:L (bnq [10,14,41] [] Y)=4096:=aOr.trans z;refine aQN A rfl [] (λx j=>?_) (λp i=>by simp at i) (aCH s m i) ?_;simp only[cE] at j;subst j;intro c g;simp only[aW.c,eW,ql,brT] at g;obtain rfl|rfl|rfl|rfl:=g;exact .inl btN;trivial;exact .inl btN;exact .inl btN;rintro r Y1 ⟨⟨a1,b,e,rfl,g1,o,t⟩,F⟩;obtain⟨v,N⟩:=aWx g1;obtain⟨w,P⟩:=aWx o;obtain⟨y,R⟩:=aWx t;have k:=F.1.trans aOr;have:∀{q:Id},q.1=10\/q.1=14\/q.1=41->q∈aA a1++(aA b++aA e)->okI [10,14,41] (aA a1++(aA b++aA e)) q:=λh u=>⟨by obtain h|h|h:=h<;>simp[h],u⟩;have B:∀q∈aA a1,okI [10,14,41] (aA a1++(aA b++aA e)) q:=X;have C:∀q∈aA b,okI [10,14,41] (aA a1++(aA b++aA e)) q:=X;have D:∀q∈aA e,okI [10,14,41] (aA a1++(aA b++aA e)) q:=X;refine⟨k,aA a1++(aA b++aA e),λp E x j M=>?_,λc g=>?_,by grind [Kx.mix,aRR]⟩;grind [aNO];simp only[eW,ql,brT] at g;obtain rfl|rfl|rfl|rfl:=g;exact aQw v B;trivial;exact aQw w C;exact aQw y D
def baS{s:aW}{Y}{d:Nat}{K}(m:L Y=4096)(o:L s.ak<100000/\L s.done<100000/\L s.ay<100000/\∀l∈s.ak,L l.bk<1000000)(i:∀a1 b e Y',Kx [10,14,41] Y Y'->(∀k∈aNG (.a [a1,iv s.tx,b,e]),k=10\/k=14\/k=41)->K (.a [a1,iv s.tx,b,e]) Y'):cV 128 [.a s.c] Y d K:=bjx m o λa1 b e Y' Xq g1 g h p1 p q=>i a1 b e Y' Xq λk j=>by have:=bnf g1 g h p1 p q k j;omega
def alx(f:Nat->AV×AV)(ss:List bim)(n:Nat):List (dM):=(aH n).map λk=>[iv (gd ss k).pc,(f k).1,(f k).2,iv (gd ss k).ac]
def G2(vr:Bool)(Y:ae)(a:AV)(t:List<|eu):Prop:=bif vr then t=er (L t) []/\∃b,a= .m b (L t)/\box Y b=V ⟨25,1,U,U,er (L t) [.l [] U U]⟩ else J7 Y 25 1 a (t.map cl)
theorem G2.fx{vr Y Y' a t Lw}(g:G2 vr Y a t)(F:Fx Y Y' Lw)(h:∀q∈aA a,q∉Lw):G2 vr Y' a t:=by cases vr with|false=>exact J7.fx g F h|true=>obtain⟨c,b,rfl,d⟩:=g;exact⟨c,b,A,F.keep _ _ (h b aBY) d⟩
def aWh{Y e z a bA}(g:J7 Y e z a bA):frN Y a= .l bA I I:=by obtain⟨rfl,rfl⟩|⟨b,m,rfl,c⟩:=g;rfl;simp[frN,aOn,c,gK]
theorem G2.fr{vr Y a t}(g:G2 vr Y a t):frN Y a=sl cl t:=by cases vr with|false=>exact aWh g|true=>obtain⟨i,b,rfl,e⟩:=g;have d:(((er (L t) [AV.l [] U U]).take<|L t).all λr=>r.all λc=>eN<|frM Y c)=U:=(by rw[dV];intro r h;rw[(List.mem_replicate.1<|List.mem_of_mem_take h).2];rfl);simp only[frN,aOn,e,d,a6F,gK];grind [sl,List.map_replicate,frM,aTH,gK,cl]
structure TTs(pl:Nat×Nat×Nat)(vr:Bool)(Y:ae)(a:AV)(f:Nat->AV×AV)(ss:List bim)(n:Nat):Prop where
 bx:(n=0/\a= .l [] U U)\/∃b,a= .m b n/\b.1=pl.2.2/\box Y b=V ⟨277,4,U,U,alx f ss n⟩
 g1:∀k,k<n->J7 Y 2 1 (f k).1 ((gd ss k).aO6.map ci)
 g2:∀k,k<n->G2 vr Y (f k).2 (gd ss k).aPe
 p1:∀k,k<n->∀q∈aA (f k).1,q.1=pl.1
 p2:∀k,k<n->∀q∈aA (f k).2,q.1=pl.2.1
 d1:∀i j,i<n->j<n->i≠j->∀q∈aA (f i).1,q∉aA (f j).1
 d2:∀i j,i<n->j<n->i≠j->∀q∈aA (f i).2,q∉aA (f j).2
theorem aQ8{f ss}{n:Nat}:L (alx f ss n)=n:=by simp[alx]
def aTy{f ss n k}(h:k<n):(alx f ss n)[k]?=V [iv (gd ss k).pc,(f k).1,(f k).2,iv (gd ss k).ac]:=by simp[alx,ve,List.getElem?_range h]
def ext(f:Nat->AV×AV)(n:Nat)(x:AV×AV):Nat->AV×AV:=λk=>if k=n then x else f k
theorem be5{f ss n x}:alx (ext f n x) ss (n+1)=alx f ss n++[[iv (gd ss n).pc,x.1,x.2,iv (gd ss n).ac]]:=by simp only[alx,qn,dg,ji,mU,ext,a6F];grind [ja]
section
variable{pl:Nat×Nat×Nat}{vr:Bool}{Y Y':ae}{a:AV}{f:Nat->AV×AV}{ss:List bim}{n:Nat}
def aPi(f:Nat->AV×AV)(n:Nat):List Id:=(aH n).flatMap λk=>aA (f k).1++aA (f k).2
theorem aXS{q}(h:q∈aPi f n):∃k,k<n/\(q∈aA (f k).1\/q∈aA (f k).2):=by grind [aPi]
theorem aWy{k}(b:k<n):∀q∈aA (f k).1,q∈aPi f n:=(by grind [aPi])
theorem aWz{k}(b:k<n):∀q∈aA (f k).2,q∈aPi f n:=(by grind [aPi])
theorem TTs.fx(T:TTs pl vr Y a f ss n){Lw}(F:Fx Y Y' Lw)(d:∀q∈Lw,q.1≠pl.1/\q.1≠pl.2.1/\q.1≠pl.2.2):TTs pl vr Y' a f ss n:=⟨(by grind [TTs.bx,Fx.keep]),λk b=>(T.g1 k b).fx F λq c h=>(d q h).1<|T.p1 k b q c,λk b=>(T.g2 k b).fx F λq c h=>(by grind [TTs.p2]),T.p1,T.p2,T.d1,T.d2⟩
theorem TTs.ids(T:TTs pl vr Y a f ss n):∀q∈aA a,q.1=pl.2.2:=by obtain⟨_,rfl⟩|⟨b,rfl,h,_⟩:=T.bx;simp[aA];grind [aA]
theorem TTs.ce(T:TTs pl vr Y a f ss n):eY a=V [a]:=by obtain⟨_,rfl⟩|⟨b,rfl,h,_⟩:=T.bx<;>rfl
theorem a7Q{r ev:Int}{p x2}{o d by':Nat}{zs z0}{K:AV->be}(T:TTs pl vr Y a f ss n)(hz:L zs=4)(B:L z0=4)(M:o<L Y)(S:d=pl.2.2)(aq:d<L Y)(h3:pl.2.2≠pl.1/\pl.2.2≠pl.2.1)(hb:(n+1)*(by'+1)<=1099511627776)(aa:r=(gd ss n).pc)(W:ev=(gd ss n).ac)(g1:J7 Y 2 1 p<|(gd ss n).aO6.map ci)(g2:G2 vr Y x2 (gd ss n).aPe)(p1:∀q∈aA p,q∉aPi f n/\q.1=pl.1)(E:∀q∈aA x2,q∉aPi f n/\q.1=pl.2.1)(hK:∀y P Y',(∃v,y= .m (o,v) 1)->TTs pl vr Y' P (ext f n (p,x2)) ss (n+1)->Fx Y Y' (aA a)->(∀q∈aA P,∀x,box Y q≠V x)->K y P Y'):eV (lvS 277 zs 1 Y o [(0, .a [iv r,p,x2,iv ev])]) λy s=>eV (avA 277 z0 by' s d a y) (K y):=by subst aa W;have h1:lvS 277 zs 1 Y o [(0, .a [iv (gd ss n).pc,p,x2,iv (gd ss n).ac])]=V (.m (lA Y o) 1,put Y o ⟨277,L zs,U,U,[[iv (gd ss n).pc,p,x2,iv (gd ss n).ac]]⟩):=(by grind [lvS,eY,vg]);rw[h1];show eV (avA 277 z0 by' (put Y o _) d a<|.m (lA Y o) 1)<|K<|.m (lA Y o) 1;have u:Fx Y (put Y o ⟨277,L zs,U,U,[[iv (gd ss n).pc,p,x2,iv (gd ss n).ac]]⟩) []:=kH M;have R:=iy (x:=(⟨277,L zs,U,U,[[iv (gd ss n).pc,p,x2,iv (gd ss n).ac]]⟩:bY)) M;generalize put Y o ⟨277,L zs,U,U,[[iv (gd ss n).pc,p,x2,iv (gd ss n).ac]]⟩=C at*;have T1:=T.fx u O;have:=u.len;have ab:aEx U C (.m (lA Y o) 1)=V [[iv (gd ss n).pc,p,x2,iv (gd ss n).ac]]:=(by simp[aEx,R]);have mk:∀(D:ae) (b:Id),b.1=pl.2.2->(∀x,box Y b≠V x)->Fx Y D (aA a)->box D b=V ⟨277,4,U,U,alx f ss n++[[iv (gd ss n).pc,p,x2,iv (gd ss n).ac]]⟩->K (.m (lA Y o) 1) (.m b<|n+1) D:=λD b ap hn F hx=>(by have N:∀q∈aA a,q.1≠pl.1/\q.1≠pl.2.1:=λq g=>(by grind [TTs.ids]);refine hK _ _ D ⟨_,A⟩ ⟨(by grind [be5]),λk z=>?_,λk z=>?_,λk z=>?_,λk z=>?_,λi j hi hj t=>?_,λi j hi hj t=>?_⟩ F λq g=>?_;by_cases e:k=n;subst e;simp only[ext,a6F];grind [J7.fx];simp only[ext,za e];exact(T.g1 k Z).fx F λq g h=>(N q h).1<|T.p1 k Z q g;by_cases e:k=n;subst e;simp only[ext,a6F];grind [G2.fx];simp only[ext,za e];exact(T.g2 k Z).fx F λq g h=>(N q h).2<|T.p2 k Z q g;by_cases e:k=n;subst e;simp only[ext,a6F];grind;simp only[ext,za e];exact T.p1 k Z;by_cases e:k=n;subst e;simp only[ext,a6F];grind;simp only[ext,za e];exact T.p2 k Z;intro q g c;by_cases e:i=n;subst e;simp only[ext,a6F,za<|Sa t] at g c;exact(p1 q g).1<|aWy Z q c;by_cases w:j=n;subst w;simp only[ext,a6F,za e] at g c;exact(p1 q c).1<|aWy Z q g;simp only[ext,za e,za w] at g c;exact T.d1 i j Z Z t q g c;intro q g c;by_cases e:i=n;subst e;simp only[ext,a6F,za<|Sa t] at g c;exact(E q g).1<|aWz Z q c;by_cases w:j=n;subst w;simp only[ext,a6F,za e] at g c;exact(E q c).1<|aWz Z q g;simp only[ext,za e,za w] at g c;exact T.d2 i j Z Z t q g c;grind [aA]);unfold avA;rw[ab];simp only[bZ,bhZ];rw[za H,zg ⟨Z,by simp[vg];omega,by simp[B]⟩];obtain⟨h0,rfl⟩|⟨b,rfl,ao,G⟩:=T1.bx;subst h0;simp only;rw[zg ⟨O,btf⟩];refine mk _ (lA C d) S (λx hx=>(qQ C d).no x<|u.kq hx) ((u.trans<|kH Z).mono O) ?_;rw[<-B];exact iy Z;simp only[G];rw[zg ⟨trivial,trivial,B.symm,by simp[aQ8],btf⟩];have z:d<L (kill C b):=(by rw[yg];omega);refine mk _ (lA C d) S (by grind [bK.no,qQ,Fx.keep]) (((u.trans<|Le G).trans<|kH z).mono aBY) ?_;grind [anF,aQ8,iy]
end
def TTs.fz{pl vr Y a f ss}(T:TTs pl vr Y a f ss<|L ss):fz Y a=sl bim.c ss:=by obtain⟨m,rfl⟩|⟨b,rfl,_,p⟩:=T.bx;have:=List.length_eq_zero_iff.1 m;subst this;rfl;have h:(alx f ss<|L ss).map (·.map (frN Y))=ss.map bim.c:=(List.ext_getElem? λk=>by obtain d|d:=Nat.lt_or_ge k<|L ss;rw[ve,aTy d,ve,eC d];have i:=aWh<|T.g1 k d;have j:=(T.g2 k d).fr;simp only[df,ji,mU,i,j,aNV d];rfl;grind [aQ8]);have e:(alx f ss<|L ss).take (L ss)=alx f ss (L ss):=(by grind [aQ8]);have o:((alx f ss<|L ss).all λr=>r.all λc=>eN<|frN Y c)=U:=(by rw[dV];intro r q;rw[dV];intro c t;have g:=CA (f:=(·.map (frN Y))) q;rw[h] at g;obtain⟨s,_,hs⟩:=dN.1 g;grind [CA,bim.c,eN,sl]);simp only[Ab.fz,dQ,p,e,o,a6F,h];rw[za H];rfl
theorem Kx.fx{ks Y Y' b Lw}(k:Kx ks Y Y')(F:Fx Y' b Lw)(h:∀q∈Lw,q.1∈ks\/∀x,box Y q≠V x):Kx ks Y b:=⟨F.len.trans k.len,by grind [Fx.keep,Kx.keep]⟩
theorem Kx.kx{ks ks' Y Y' b}(k:Kx ks Y Y')(c:Kx ks' Y' b)(h:∀n∈ks',n∈ks):Kx ks Y b:=⟨c.len.trans k.len,by grind [Kx.keep]⟩
theorem Kx.no{ks Y Y' b}(k:Kx ks Y Y')(c:b.1∉ks)(h:∀x,box Y' b≠V x):∀x,box Y b≠V x:=(by grind [Kx.keep])
def a79(Y:ae)(s:bcW)(r:AV)(Y1:ae):Prop:=∃a1 d e c b a f,r= .a [a1,iv s.eB.tx,d,e,c,b,a]/\(∀k∈aNG (.a [a1,iv s.eB.tx,d,e]),k=10\/k=14\/k=41)/\J7 Y1 2 1 c (s.cells.map ci)/\J7 Y1 2 1 b (s.bU.map ci)/\TTs (12,31,33) I Y1 a f s.ay (L s.ay)/\Kx [10,12,14,31,41] Y Y1/\(∀q∈aA c,q.1=11/\∀x,box Y q≠V x)/\(∀q∈aA b,q.1=15/\∀x,box Y q≠V x)/\∀q∈aA a,∀x,box Y q≠V x
def bds{s Y}(hl:L Y=4096)(h1:L s.eB.ak<100000/\L s.eB.done<100000/\L s.eB.ay<100000/\∀l∈s.eB.ak,L l.bk<1000000)(h2:L s.cells<=1000)(M:L s.bU<=1000)(h4:L s.ay<=1000)(h5:∀t∈s.ay,L t.aO6<=1000/\L t.aPe<=1000/\∀x∈t.aPe,L x<=1000):∃r Y1,a79 Y s r Y1/\cZ aS GG 265 [.a s.c] Y r Y1:=bhg hl A λs2 v1 K2 cb nf b1=>by have F2:=K2.fx [];have an:=F2.len.trans hl;simp only[aSz];refine zm an λv2 s3 F3 N3 b3=>?_;have c1:=F3.kq b1;have ao:=F3.len.trans an;have k1:∀{x:dM} {y:AV},aN J (y::x)=V y:=λ{x y}=>(by cases y<;>rfl);have k7:=@r7A;simp only[qz 4,qy 6,gp,c1];refine baS ao h1 λa1 D E s8 X8 bj=>?_;have bm:=X8.len.trans ao;have al:=X8.kq c1;have a8:=X8.kq b3;simp only[nS,bQ,qz 8,qy 10,gp,al];refine apV (bA:=[]) (e:=2) (z:=1) (new:=s.cells.map ci) (.inl ⟨A,A⟩) A rfl H Z O fF NA λB s9 g4 F9 P9=>?_;simp only[dW] at g4;have w:Fx s8 s9 []:=F9.mono aBY;have ag:∀q∈aA B,bK s8 q/\q.1=11:=bno;have bn:=w.len.trans bm;have am:=w.kq al;have a9:=w.kq a8;simp only[qz 12,gp,am];refine apV (bA:=[]) (e:=2) (z:=1) (new:=s.bU.map ci) (.inl ⟨A,A⟩) A rfl H Z O fF NA λC av g5 aT ca=>?_;simp only[dW] at g5;have m:Fx s9 av []:=aT.mono aBY;have F:∀q∈aA C,bK s9 q/\q.1=15:=bno;have N:=m.len.trans bn;have aF:=m.kq am;have aD:=m.kq a9;have bb:=g4.fx m O;have bi:bM bsF aon [(0, .a [a1,iv s.eB.tx,D,E]),(1,B),(2,C)]=V (.a [a1,iv s.eB.tx,D,E,B,C, .l [] U U]):=(by obtain⟨_,rfl⟩|⟨q4,m4,rfl,_⟩:=g4<;>obtain⟨_,rfl⟩|⟨q5,m5,rfl,_⟩:=g5<;>rfl);simp only[qz 14,qy 16,bi,aY];refine zm N λv3 b5 aw aV aC=>?_;refine stW aC A rfl λbs ax a0=>?_;have v:Fx av bs []:=(aw.trans ax).mono aUw;have aG:=v.kq aF;have aE:=v.kq aD;have aJ:=bb.fx v O;have aK:=g5.fx v O;have aP:=v.len.trans N;have X3:Kx [10,12,14,31,41] Y s3:=((F2.trans F3).kx O);have K:=X3.kx X8 O;have ah:=(K.fx w O).fx m O;have aX:=ah.fx v O;have aq:∀{q:Id},q∈aA B->q.1=11/\∀x,box Y q≠V x:=λ{q} d=>⟨(ag q d).2,K.no X (ag q d).1.no⟩;have ar:∀{q:Id},q∈aA C->q.1=15/\∀x,box Y q≠V x:=λ{q} d=>⟨(F q d).2,(K.fx w O).no X (F q d).1.no⟩;have cd:=ah.no O aV.no;have cc:=(F2.kx (ks:=[]) O).no O N3.no;simp only[qz 18];refine dT ?_ ?_;have h4:3∉aNG B:=λh=>(by obtain e|⟨p,e,e'⟩:=SlR.keys (P:=λp=>p=11) (.of g4) X<;>rw[e] at h<;>simp at h;omega);have h5:3∉aNG C:=λh=>(by obtain e|⟨p,e,e'⟩:=SlR.keys (P:=λp=>p=15) (.of g5) X<;>rw[e] at h<;>simp at h;omega);have h0:3∉aNG (.a [a1,iv s.eB.tx,D,E]):=X;generalize AV.a [a1,iv s.eB.tx,D,E]=b0 at h0⊢;simp[eL,lb,Cz,aTn,a6H,bc7];grind;refine yV (L s.ay) (λk _ x=>∃a f,L x=4096/\box x (1,v1)=V ⟨145,7,U,U,[s.c]⟩/\box x (2,v2)=V ⟨145,7,U,U,[bsF]⟩/\box x (3,v3)=V ⟨145,7,U,U,[[a1,iv s.eB.tx,D,E,B,C,a]]⟩/\J7 x 2 1 B (s.cells.map ci)/\J7 x 2 1 C (s.bU.map ci)/\TTs (12,31,33) I x a f s.ay k/\Kx [10,12,14,31,41] Y x/\∀q∈aA a,∀y,box Y q≠V y) ⟨.l [] U U,λ_=>(.u, .u),aP,aG,aE,a0,aJ,aK,⟨.inl ⟨A,A⟩,O,O,O,O,O,O⟩,aX,aBY⟩ ?_;rintro k _ x hk ⟨a,f,ap,m1,m2,m3,ga,gb,T,Xq,na⟩;simp only[qz 25,qy 28,au,ox,m1,m3,k1,k7,bh];constructor<;>intro h;have R:=aL h;refine⟨dJ R,?_⟩;obtain⟨q1,q2,q3⟩:=h5 _<|dB R;show cV 291 [.a [iv (gd s.ay k).pc,sl ci (gd s.ay k).aO6,sl cl (gd s.ay k).aPe,iv (gd s.ay k).ac]] _ _ _;refine baT ap A rfl q1 q2 q3 (aPi f k) (λp hp=>?_) (λp hp=>?_) λx1 x2 y G1 af Y W P1 P2=>?_;obtain⟨j,i,h|h⟩:=aXS hp;exact⟨_,_,_,_,T.g1 j i,h⟩;exact⟨_,_,_,_,T.g2 j i,h⟩;obtain⟨j,i,h|h⟩:=aXS hp;exact .inl<|T.p1 j i p h;exact .inr<|T.p2 j i p h;have Ty:TTs (12,31,33) I y a f s.ay k:=⟨T.bx.elim .inl λ⟨b,h1,h2,M⟩=> .inr ⟨b,h1,h2,Y.keep _ _ (by simp[h2]) M⟩,λj i=>W (T.g1 j i)<|aWy i,λj i=>W (T.g2 j i)<|aWz i,T.p1,T.p2,T.d1,T.d2⟩;have bo:=Y.len.trans ap;have o1:=Y.kq m1;have o2:=Y.kq m2;have o3:=Y.kq m3;have bd:=Y.gr ga λq d=>(by simp[(aq d).1]);have bf:=Y.gr gb λq d=>(by simp[(ar d).1]);have Xy:=Xq.kx Y O;simp only[qz 20,qy 22];refine a7Q Ty A rfl Z A Z H Z A rfl G1 af P1 P2 λz a' bt hz G g aW=>?_;obtain⟨vz,rfl⟩:=hz;have bW:∀q∈aA a,q.1=33:=T.ids;have o4:=g.keep _ _ X o3;simp only[qz 24,eS,o4];refine A0 o4 G.ce O λcf o a7=>?_;simp only[qz 26];refine dT ?_ ?_;have hx:∀j∈aNG (.a [iv (gd s.ay k).pc,x1,x2,iv (gd s.ay k).ac]),j=12\/j=31:=λj i=>(by have e:aNG (.a [iv (gd s.ay k).pc,x1,x2,iv (gd s.ay k).ac])=dK x1++dK x2:=btp;rw[e] at i;obtain h|h:=dF.1 i;obtain⟨q,d,rfl⟩:=aQu G1 h;grind;obtain⟨q,d,rfl⟩:=aQu af h;grind);have M:3∉aNG (.a [iv (gd s.ay k).pc,x1,x2,iv (gd s.ay k).ac]):=X;generalize AV.a [iv (gd s.ay k).pc,x1,x2,iv (gd s.ay k).ac]=b0 at M⊢;simp[eL,lb,Cz,aTn,M];simp only[au,eQ];have S:∀{b:Id},b.1≠33->b∉aA a:=X;refine yU R ⟨a',_,(o.len.trans g.len).trans bo,o.kq<|g.keep _ _ (S O) o1,o.kq<|g.keep _ _ (S O) o2,a7,(bd.fx g X).fx o λq d e=>?_,(bf.fx g X).fx o λq d e=>?_,G.fx o O,(Xy.fx g X).fx o λq d=> .inr (by simp at d;grind),λq d=>Xy.no (by rw[G.ids q d];decide)<|aW q d⟩;simp at e;grind;simp at e;grind;obtain rfl:k=L s.ay:=X;refine stW m2 A rfl λbt g a6=>?_;simp only[a6,a6X,qh,df,k7,aY];refine⟨a1,D,E,B,C,a,f,A,bj,ga.fx g λq d e=>?_,gb.fx g λq d e=>?_,T.fx g O,(by grind [Kx.fx]),λq d=>aq d,λq d=>ar d,na⟩;grind;grind
def a7F:dO:=aYd
def aX6:eJ a7F:=a7n
def aWl:=@bcx
section
attribute[local irreducible] aX
def a9M:=I9 14 [(6,([5],[2,3]))]
def bhl{c0 b}:=y2 150 7 2 145 7 3 aX6 func288 a9M c0 b [.a c0, .a b]
def a9L:=I9 24 [(7,([4],[1,2,3])),(13,([5],[1,2,3])),(19,([6],[1,2,3]))]
def bhj{c0}:=y1 150 7 1 aX6 func124 a9L c0 [.a c0]
end
def aYu(c:bqI)(s:bim):Prop:=aF (L c.boU) s.pc/\(L s.aO6:Int)=c.aO6/\(L s.aPe:Int)=c.aO6
def aSm(c:bit)(s:bcW):Prop:=aPU c/\lh c.aQ s.eB=U/\L s.cells=L c.aQ.cells/\L s.bU=L c.aQ.bU/\L s.ay=L c.ay/\∀k,k<L c.ay->aYu (gd c.ay k) (gd s.ay k)
def aP4{w}(h:mQ w=U):L w.cells<=12/\L w.ak<=4/\L w.bC<=2/\L w.bU<=2/\L w.ay<=4/\L w.dU<=60:=by grind [mQ,wJ]
def aXu(c)(s)(E:aOc c/\L c.aQ.bC<4611686018427387904):Ct 288 [.a c.c, .a s.c] (λr=>∃b,r=bv b/\(b=U->aSm c s)):=by obtain⟨l,m⟩:=E;refine bhl A rfl λM D f g P=>?_;simp+contextual only[jB,f,g,o0,aWl,aTv,nn,eE,FA,l,m];intro b B h;simp only[cP,fK,aPs,aNS,Int.ofNat_inj,btD] at h;obtain⟨⟨⟨⟨g1,u⟩,w⟩,y⟩,z⟩:=h;have n:=B g1;have:=l.1;refine yV (L c.ay) (λk _ x=>Fx M x []/\∀j,j<k->aYu (gd c.ay j) (gd s.ay j)) ⟨Fx.refl _ _,O⟩ ?_;rintro k _ x R ⟨F,hI⟩;have i:=F.kq f;have q:=F.kq g;have o:=F.len.trans D;simp only[qz 37,qy 6,au,ox,i,q,bh,aPA];refine⟨λh=>?_,λh _=>⟨n,u,w,y,z,λj C=>hI j<|bpL C<|dge h⟩⟩;have d:=aL h;refine⟨dJ Z,anu o λv x2 e N p=>?_⟩;have t:=e.kq i;simp+contextual only[qz 8,au,ox,t,p,bh,dJ d,nn,eE,FA,Cq];intro h;simp only[cP,aPs,aNS,btD] at h;obtain⟨⟨⟨S,T⟩,G⟩,K⟩:=h;exact yU d ⟨F.trans e,a6p hI ⟨⟨Z,Z⟩,G,K⟩⟩
def aUl:FT:=pn aXu
def bcc:=f211 aUl aXu (j:=bsg)
def ThB(k:Nat)(s:bim):Prop:=L s.aO6<=1000/\L s.aPe<=1000/\(∀t∈s.aPe,Tn t)/\0<=s.ac/\s.ac<=k
def a68{α:Type}{n}{x y:α}(h:y∈er n x):y=x:=vB
structure StB(k:Nat)(s:bcW):Prop where
 sy:jX k s.eB
 ce:L s.cells<=12
 fu:L s.bU<=2
 tl:L s.ay<=4
 th:∀t∈s.ay,ThB k t
structure SJ(x:ae)(v2:Nat)(c:bit)(a1 a2 a3:AV):Prop where
 hl:L x=4096
 b1:box x (1,1)=V ⟨150,7,U,U,[c.c]⟩
 b2:box x (2,v2)=V ⟨145,7,U,U,[bsF]⟩
 g1:J7 x 191 2 a1 ((er (L c.aQ.ak) (⟨-1,[]⟩:cg)).map cg.c)
 g2:J7 x 4 1 a2 ((er (L c.aQ.bU) I).map cb)
 g3:J7 x 69 3 a3 ((qZ<|L c.aQ.ay).map aoC.c)
 ids:∀q∈aA a1++(aA a2++aA a3),q.1=13
theorem SJ.fx{x y e c a1 a b Lw}(S:SJ x e c a1 a b)(F:Fx x y Lw)(f:∀q∈Lw,q.1≠1/\q.1≠2/\q.1≠13):SJ y e c a1 a b:=⟨F.len.trans S.hl,(by grind [Fx.keep,SJ.b1]),(by grind [Fx.keep,SJ.b2]),S.g1.fx F λq d h=>(by grind [SJ.ids]),S.g2.fx F λq d h=>(by grind [SJ.ids]),S.g3.fx F λq d h=>(by grind [SJ.ids]),S.ids⟩
def aPn(c:bqI):bim:=⟨0,er c.aO6.toNat 0,er c.aO6.toNat [],0⟩
def aTA(w:aOw):aW:=⟨er (L w.ak) ⟨-1,[]⟩,-1,er (L w.bU) I,qZ<|L w.ay⟩
def aPK(c:bit):bcW:=⟨aTA c.aQ,c.aQ.cells.map (·.init),er (L c.aQ.bU) 0,c.ay.map aPn⟩
theorem bfv{c}(d:aPU c):StB 0 (aPK c):=by obtain⟨g,h,b⟩:=d;have:=aP4 g;refine⟨⟨by simp[aPK,aTA];omega,by simp[aPK,aTA];omega,by simp[aPK,aTA,qZ];omega,λl f=>by rw[a68 f];simp⟩,by simp[aPK];omega,by simp[aPK];omega,by simp[aPK];omega,λt a=>?_⟩;simp only[aPK,dN] at a;obtain⟨k,e,rfl⟩:=a;obtain⟨i,j,_⟩:=b k e;refine⟨by simp[aPn];omega,by simp[aPn];omega,λt a=>?_,by simp[aPn],by simp[aPn]⟩;rw[a68 a];exact Tn.nil
def aXs(c)(hp:aPU c/\aOc c):Ct 124 [.a c.c] (λr=>∃s:bcW,r= .a s.c/\StB 0 s):=by obtain⟨hc,hb⟩:=hp;have bK:=aP4 hc.1;have bH:=hb.1;generalize hQ:(λ(r:AV)=>∃s:bcW,r= .a s.c/\StB 0 s)=Qq;refine aDq (bhj A λs2 E R h0=>?_);refine zm E λv2 s3 F3 N3 b3=>?_;have c1:=F3.kq R;have be:=F3.len.trans E;have k1:∀{x:dM} {y:AV},aN J (y::x)=V y:=λ{x y}=>(by cases y<;>rfl);have k7:=@r7A;have hz:bM bsF aon []=V (.a bsF):=A;simp only[qz 4,qy 6,jB,c1,o0,aWl,aTv];refine⟨hb,λb bG=>⟨λh=>?_,λh=>?_⟩⟩;simp only[hz,aY];refine stW b3 A rfl λs4 F4 b4=>?_;simp only[b4,a6X,qh,df,k7,aY];refine aOv (v':= .a<|bcW.c ⟨⟨[],0,[],[]⟩,[],[],[]⟩) A rfl ?_;rw[<-hQ];exact⟨_,A,⟨O,O,O,O⟩,O,O,O,O⟩;refine a57 Z Z Z Z λa1 B C s4 g1 g2 g3 F4 P4=>?_;have S4:SJ s4 v2 c a1 B C:=⟨F4.len.trans be,F4.kq c1,F4.kq b3,g1.p,g2.p,g3.p,λq d=>(P4 q d).2⟩;have a8:bM bsF aon [(0, .a [a1,iv<|-1,B,C])]=V (.a [a1,iv<|-1,B,C, .l [] U U, .l [] U U, .l [] U U]):=A;simp only[qz 8,qy 10,qy 12,a8,aY];refine anu S4.hl λv3 s5 F5 N5 b5=>?_;have S5:=S4.fx F5 O;have a9:∀{x:ae} {y:Int},aX zd2 1 x [(0,iv y)]=V (.l ([y].map ci) U U,x):=λ{x y}=>iz;refine yV (L c.aQ.cells) (λk _ x=>∃a,SJ x v2 c a1 B C/\box x (3,v3)=V ⟨145,7,U,U,[[a1,iv<|-1,B,C,a, .l [] U U, .l [] U U]]⟩/\J7 x 2 1 a (((c.aQ.cells.take k).map (·.init)).map ci)/\∀q∈aA a,q.1=33) ⟨_,S5,b5, .inl ⟨O,A⟩,aBY⟩ ?_;rintro k _ x hk ⟨a,S,w,D,pa⟩;have m1:=S.b1;simp only[qz 43,qy 14,au,fD,m1,w,J9,k1,bh,a9];constructor<;>intro h;have g:=aL h;refine⟨dJ g,?_⟩;refine apQ D S.hl fF fF O NA λa' s6 g6 o P6=>?_;have G:=S.fx o (λq d=>by have:=pa q d;omega);have F:=o.keep _ _ (λd=>by have:=pa _ d;simp at this) w;simp only[qz 16,eS,F];refine A0 F g6.p.ce O λs7 v W=>?_;simp only[qz 18];refine dT (by simp[eL,lb,aNG,dC,dK]) ?_;simp only[au,eQ];refine yU g ⟨a',G.fx v O,W,?_,λq d=>(P6 q d).2⟩;rw[iJ g,<-aNV g,dg,dg];exact g6.p.fx v X;have ac:k=L c.aQ.cells:=X;subst ac;rw[gV] at D;clear m1;refine yV (L c.aQ.bU) (λk _ x=>∃N,SJ x v2 c a1 B C/\box x (3,v3)=V ⟨145,7,U,U,[[a1,iv<|-1,B,C,a,N, .l [] U U]]⟩/\J7 x 2 1 a ((c.aQ.cells.map (·.init)).map ci)/\J7 x 2 1 N ((er k (0:Int)).map ci)/\∀q∈aA N,q.1=46) ⟨_,S,w,D, .inl ⟨O,A⟩,aBY⟩ ?_;rintro k _ x hk ⟨N,S,w,D,gb,pb⟩;have m1:=S.b1;have a7:∀{x:ae},aX zd2 1 x [(0,iv 0)]=V (.l ([(0:Int)].map ci) U U,x):=λ{x}=>iz;simp only[qz 79,qy 20,au,gp,m1,w,k1,a7];constructor<;>intro h;have g:=aL h;refine apQ gb S.hl fF fF O NA λa' s6 g6 o P6=>?_;have G:=S.fx o (λq d=>by have:=pb q d;omega);have F:=o.keep _ _ (λd=>by have:=pb _ d;simp at this) w;simp only[qz 22,eS,F];refine A0 F g6.p.ce O λs7 v W=>?_;simp only[qz 24,au,eQ];refine yU g ⟨a',G.fx v O,W,(D.fx o X).fx v X,?_,λq d=>(P6 q d).2⟩;rw[List.replicate_succ',dg];exact g6.p.fx v X;have ac:k=L c.aQ.bU:=X;subst ac;clear m1;refine yV (L c.ay) (λk _ x=>∃t f,SJ x v2 c a1 B C/\box x (3,v3)=V ⟨145,7,U,U,[[a1,iv<|-1,B,C,a,N,t]]⟩/\J7 x 2 1 a ((c.aQ.cells.map (·.init)).map ci)/\J7 x 2 1 N ((er (L c.aQ.bU) (0:Int)).map ci)/\TTs (63,70,73) U x t f (c.ay.map aPn) k) ⟨.l [] U U,λ_=>(.u, .u),S,w,D,gb,⟨.inl ⟨A,A⟩,O,O,O,O,O,O⟩⟩ ?_;rintro k _ x hk ⟨t,f,S,w,D,gb,T⟩;have m1:=S.b1;simp only[qz 115,qy 36,au,ox,m1,w,k1,k7,bh];constructor<;>intro h;have g:=aL h;refine⟨dJ g,?_⟩;obtain⟨q1,q2,_⟩:=hc.2.2 _<|dB g;obtain⟨n,hn⟩:∃n:Nat,(gd c.ay k).aO6=n:=⟨(gd c.ay k).aO6.toNat,Z⟩;rw[hn] at q2⊢;refine AP H H (by rw[S.hl];decide) Z λe1 s6 ak N6 o b6=>?_;have G:=S.fx o O;have bf:=G.b1;simp only[qz 26,au,ox,bf,bh,hn];refine⟨dJ g,?_⟩;refine AP H H (by rw[G.hl];decide) Z λe2 s7 al N7 v W=>?_;have S7:=G.fx v O;have aV:=v.kq b6;have bg:=v.kq<|o.kq w;have a4:=(D.fx o O).fx v O;have a5:=(gb.fx o O).fx v O;have T7:=(T.fx o O).fx v O;have ba:bM btJ bst [(1, .m e1 n),(2, .m e2 n)]=V (.a [iv 0, .m e1 n, .m e2 n,iv 0]):=A;simp only[qz 28,qy 30,ba,aY];have M:gd (c.ay.map aPn) k=⟨0,er n 0,er n [],0⟩:=(by rw[aNV X,List.getElem_map,<-aNV g];simp[aPn,hn]);have ad:∀{q:Id},(∀y,box x q≠V y)->q∉aPi f k:=λ{q} bI d=>(by obtain⟨j,hj,h|h⟩:=aXS d;obtain⟨y,hy⟩:=aTi (T.g1 j hj) q h;grind;obtain⟨_,b,e,hy⟩:=T.g2 j hj;grind [aA]);refine a7Q T7 A rfl (by rw[S7.hl];decide) A (by rw[S7.hl];decide) H Z (by rw[M]) (by rw[M]) (.inr ⟨e1,[],X,by rw[M,aV];simp;exact⟨A, .inr A⟩⟩) (by rw[M];exact⟨O,e2,O,by rw[W];simp;exact⟨A, .inr A⟩⟩) (λq d=>?_) (λq d=>?_) λz t' am aC P i bF=>?_;simp only[aA,cE] at d;subst d;exact⟨ad N6.no,ak⟩;simp only[aA,cE] at d;subst d;exact⟨ad<|λy hy=>N7.no y<|o.kq hy,al⟩;obtain⟨vz,rfl⟩:=aC;have bi:∀q∈aA t,q.1=73:=T.ids;have aF:∀{b:Id},b.1≠73->b∉aA t:=X;have aO:=S7.fx i (λq d=>by have:=bi q d;omega);have af:=i.keep _ _ (aF O) bg;simp only[qz 32,eS,af];refine A0 af P.ce O λbL K aT=>?_;simp only[qz 34];refine dT (by simp[eL,lb,au,sl,ak,al,aNG,dC,dK]) ?_;simp only[au,eQ];refine yU g ⟨t',_,aO.fx K O,aT,(a4.fx i X).fx K λq d e=>?_,(a5.fx i X).fx K λq d e=>?_,P.fx K O⟩;grind;grind;obtain rfl:k=L c.ay:=X;refine stW S.b2 A rfl λam i aR=>?_;simp only[aR,a6X,qh,df,k7,aY];have nd:∀{q:Id},q.1≠2->q∉[((2,v2):Id)]:=X;have P:=T.fx i O;have ap:TTs (63,70,73) U am t f (c.ay.map aPn) (L<|c.ay.map aPn):=X;have x1:=aBr (S.g1.fx i λq d=>X);have x2:=aBr (S.g2.fx i λq d=>X);have x3:=aBr (S.g3.fx i λq d=>X);have x4:=aBr (D.fx i λq d=>nd<|by rw[pa q d];decide);have x5:=aBr (gb.fx i λq d=>nd<|by rw[pb q d];decide);refine aOv (v':= .a (aPK c).c) ?_ (by simp[iX,bcW.c,aW.c,eN,sl]) (by grind [bfv]);simp only[fzT,ji,mU,x1,x2,x3,x4,x5,ap.fz,aWt];rfl
def aUj:FT:=om aXs
def bca:=aUy aUj aXs (j:=bsg)
def a7G:dO:=(288,aUl)::(124,aUj)::a7F
def a7o:eJ a7G:=asq (aN0 aXu)<|asq (rj aXs)<|aX6
def aWm:=ai @bcc<|ai @bca<|@aWl
section
attribute[local irreducible] aX
def a9K:=I9 28 [(20,([],[6,8,9,10])),(23,([98],[6,8,9,10])),(25,([],[6,10]))]
def bhh{c0 b c}:=y2 150 7 3 145 7 4 a7o func264 a9K c0 b [.a c0, .a b,c]
end
end Go.Ab
