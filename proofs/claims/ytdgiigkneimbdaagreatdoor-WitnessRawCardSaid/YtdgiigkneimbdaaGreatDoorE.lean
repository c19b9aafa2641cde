/- Part of the proof of WitnessRaw. -/
import Derived.Test.YtdgiigkneimbdaaGreatDoorD
set_option linter.all false
set_option maxRecDepth 100000
open And renaming intro->ai
open Bool renaming and_eq_false_iff->bik,and_eq_true->bN,and_false->qc,and_true->ru,false->I,false_eq_true->eE,not_eq_false'->fK,not_eq_true'->eH,not_false->kN,not_true->fh,or_eq_false_iff->cP,or_true->wY,true->U,true_eq_false->sr
open Decidable renaming decide->Q,not_not->aNS
open Go.IntKind renaming i64->dq
open Go.Proofs.Tryz renaming prog->aS
open Go.Value renaming int.injEq->mW,string.injEq->mX
open Int renaming toNat_natCast->bh,toNat_zero->Gx
open List renaming all_cons->Cs,all_eq_true->dV,all_nil->aqG,append_assoc->bje,append_nil->cL,cons.injEq->kO,drop->aOz,drop_succ_cons->nM,drop_zero->ip,flatMap_cons->Cz,flatMap_nil->RN,foldl_nil->aRl,getElem?_append_left->xe,getElem?_cons_zero->qh,getElem?_eq_getElem->eC,getElem?_map->ve,getElem_of_mem->ou,length->L,length_append->a6G,length_cons->bZ,length_map->bJ,length_nil->bhZ,map_append->dg,map_congr_left->ja,map_cons->ji,map_map->vA,map_nil->mU,map_set->bsl,mem_append->dF,mem_cons->eW,mem_map->dN,mem_map_of_mem->CA,mem_range->fq,mem_singleton->cE,nil_append->dW,nodup_append->xl,not_mem_nil->ql,range->aH,range_succ->qn,replicate->er,set_eq_take_append_cons_drop->GP,take_length->gV,take_succ_eq_append_getElem->iJ,take_zero->CE
open Nat renaming eq_zero_or_pos->oD,le_refl->dA,le_trans->gl,lt_of_lt_of_le->bpL,mul_le_mul_right->qo,succ_mul->tN,zero_add->aj
open Ne renaming symm->Sa
open Option renaming bind_some->a6X,map_some->df,none->J,some->V,some.injEq->aOe
open Prod renaming mk.injEq->iK
namespace Go.Ab
open Go Go.RowKit Go.Proofs Go.Proofs.Tryz
def bt4(ns:List aH8)(w:am):List (eu):=btr ns w++oH ns w++sN ns w (aR ns 5)++rJ ns w
def yc(w)(u:Int)(l):L (fg w u l)<=L l:=by unfold fg btu;have:=jo (f:=λn=>fw (lm w u n)<|L w.ac) (m:=1) (l:=l.take<|L l) (by grind [Er]);simp_all
theorem KI{w}(h:buT w){k:Nat}(b:k<L w.ac):L (gd w.ac k).dI<=2000/\L (gd w.ac k).ep<=2000:=by have:∀x,x∈(gd w.ac k).dI\/x∈(gd w.ac k).ep-> -1000<=x/\x<=1000:=λx d=>⟨(h.rd k b x d).1,(h.rd k b x d).2.1⟩;have c:=(h.wo.wo.en k b).2;simp only[bjf,bip,eH,cP,fK,rn] at c;obtain⟨_,_,_,_,⟨e,f⟩,_⟩:=c;constructor;rcases oD (L (gd w.ac k).dI) with a|a;omega;have:=yq e (L (gd w.ac k).dI-1) Z;grind [dB];rcases oD (L (gd w.ac k).ep) with a|a;omega;have:=yq f (L (gd w.ac k).ep-1) Z;grind [dB]
structure VW(w:am):Prop where
 hf:hU w
 hv:bcV w=U
 ps:buT w
 wv:WV w
 ln:L (m8 w)<2000
 l5:L (aR (m8 w) 5)<=320
 nt:L w.aQ.ay<=4
 it:L w.init.cw.ay=L w.aQ.ay
 th:∀k,k<L w.ac->aF (L w.aQ.ay) (gd w.ac k).aq
 hp:∀r:Nat,r<L w.ac->((gd w.ac r).kind=23->aF (L w.init.cw.done) (gd w.ac r).f8/\aF (L w.init.bU) (gd w.ac r).f8)/\((gd w.ac r).kind=3->aF (L w.init.cells) (gd w.ac r).f8)
def vw{w}(d:hU w)(a:bcV w=U):VW w:=by have s:=anT d a;have b:=vd d a;obtain⟨v,x,y,i,t⟩:=Bx a;obtain⟨fc,fl,z,e⟩:=iY i;have n:=b.th;have g:=(aQA a).1;simp only[oh,cP,fK,yk] at g;have o:=g.1.1.1.1.2;simp only[fN,bN,rn] at o;have c:=Bq a 0<|Nat.zero_le _;have p:∀k,k<L w.ac->aF (L w.aQ.ay) (gd w.ac k).aq:=λk j=>(b.wo.named j).2;have m:=anE b.wo.ev (show L w.init.cw.ay<=4 by omega);refine⟨d,a,s,⟨b.wo,λk j=>?_,FA,λu C=>?_,Z,⟨fl,by have:=c.lo;grind [cY]⟩,λl q=>?_⟩,m.1,by rw[Qf];exact m.2,n,e,p,λr B=>⟨λh=>?_,λh=>?_⟩⟩;grind [KI];grind [buT.ct,ii];have f:=c.rd l q;have:=AC f.1 f.2;omega;grind [oU,kB.named,vL.wo];grind [qP,kB.named,vL.wo]
section
variable{w:am}{ns:List aH8}
theorem KB(a:L w.ac<=16):L (btr ns w)<=1000:=by
 have:=brS (f:=jy ns<|L w.ac) (c:=16) (λx=>by
  have:=brS (f:=my ns x) (c:=1) (by grind [my])<|L w.ac
  unfold jy;omega) (L w.ac)
 have:=brS (f:=kY ns w) (c:=2) (by grind [kY])<|L w.ac
 have:=brS (f:=mA ns w) (c:=2) (by grind [mA])<|L w.ac
 grind [btr]
theorem axl{s}(h:L s<=100):L (rL ns s)<=40000:=by
 have:=brS (f:=mw ns s) (c:=400) (λi=>by
  have:=brS (f:=λj=>iA ns (gd s i)<|gd (s.drop<|i+1) j) (c:=4) (λj=>axk)<|L<|s.drop<|i+1
  grind [mw]) (L s)
 unfold rL;omega
theorem bxa(a:VW w)(k:Nat)(c:k<=L w.aQ.ak+1):L ((aH k).flatMap<|pE ns w)<=200000:=by have:=jo (f:=pE ns w) (m:=40000) (l:=aH k) λi b=>axl (Q6 a.hf a.hv ⟨Z,by have:=fq.1 b;omega⟩);have:=a.wv.lk.2;grind
theorem Kz{l}(a:L l<=320)(b:L w.ac<=16):L (sN ns w l)<=400000:=by
 have:=brS (f:=λk=>iW ns<|gd l k) (c:=3) (by grind [iW])<|L l
 have:=brS (f:=lP ns l) (c:=320) (λk=>gl (brS (f:=λj=>ju ns (gd l k)<|gd (l.drop<|k+1) j) (c:=1) (by grind [ju]) _) NA)<|L l
 have:=brS (f:=lQ ns w l) (c:=320) (λk=>gl (brS (f:=λj=>jk ns w (gd l k)<|gd (l.drop<|k+1) j) (c:=1) (by grind [jk]) _) NA)<|L l
 have:=brS (f:=λk=>nT ns w l<|gd l k) (c:=321) (by grind [alM])<|L l
 have:=brS (f:=ng ns w l) (c:=321) (λk=>by
  unfold ng
  split
  ·have:=brS (f:=iO ns k (brz w k).1 l) (c:=1) (by grind [iO])<|L l
   grind
  ·simp) (L w.ac)
 grind [sN]
theorem KA(a:VW w)(k:Nat)(q:k<=L w.ac):L ((aH k).flatMap<|bsS ns w)<=1000000:=by have u:=a.wv.ok.ev;have h:=jo (f:=bsS ns w) (m:=60000) (l:=aH k) λr t=>(by unfold bsS;split;have e:=jo (f:=λj=>iP ns w r<|gd (dx w r) j) (m:=2020) (l:=aH<|L<|dx w r) λj d=>(by have hs:=(Kt<|dB<|fq.1 d).2;generalize gd (dx w r) j=s at hs⊢;unfold iP;rw[a6G];have g:L (btR ns w r s)<=2002:=(by unfold btR;split;rename_i b;have i:=brS (f:=pD ns r s<|fg w (gd w.ac s.toNat).aq (gd w.ac s.toNat).ep) (c:=1) (λj=>by simp[pD])<|L<|fg w (gd w.ac s.toNat).aq (gd w.ac s.toNat).ep;have n:=yc w (gd w.ac s.toNat).aq (gd w.ac s.toNat).ep;have o:=(KI a.ps (k:=s.toNat) (by have:=(hs b).1.1;have:=(hs b).1.2;omega)).2;simp only[a6G,bZ,bhZ];omega;simp);have p:=brS (f:=btg ns w r s) (c:=1) (by grind [btg])<|L w.ac;omega);grind [vU];simp);grind
theorem Kw(a:VW w):L ((aH<|L w.ac).flatMap<|kX ns w)<=40000:=by have:=a.wv.ok.ev;have:=jo (f:=kX ns w) (m:=2000) (l:=aH<|L w.ac) λi b=>(by have:=brS (f:=qv ns i<|fg w (gd w.ac i).aq (gd w.ac i).dI) (c:=1) (λj=>by simp[qv])<|L<|fg w (gd w.ac i).aq (gd w.ac i).dI;have:=yc w (gd w.ac i).aq (gd w.ac i).dI;have:=(KI a.ps (k:=i)<|fq.1 b).1;unfold kX;omega);grind
def Kv(a:VW w)(b:L (aR ns 5)<=320):L (bt4 ns w)<=2000000:=by have:=KB (ns:=ns) a.wv.ok.ev;have:=bxa (ns:=ns) a (L w.aQ.ak+1)<|dA _;have:=Kz (ns:=ns) (w:=w) b a.wv.ok.ev;have:=KA (ns:=ns) a (L w.ac)<|dA _;have:=Kw (ns:=ns) a;simp only[bt4,rJ,oH,a6G];omega
end
section
variable{Y:ae}
theorem ank{w}(d:VW w)(hl:L Y=4096):∃r z,(∃b n m a i j f,r= .p b 0 0/\bD z b w (m8 w) (bt4 (m8 w) w) n m a i j f/\Fx Y z []/\bK Y b)/\cZ aS GG 87 [.a w.c] Y r z:=aJ5 hl A λs2 v1 K2 aK nf R=>by have x:=K2.fx [];have ag:=x.len.trans hl;have r15:aN (V 15) w.c=V (.a w.c):=A;have e:=d.wv.ok.ev;have:=d.ln;have:=d.wv.lk.2;have M:jb w (m8 w):=anG Z;have D:=an6 d.ps d.hf;have S:=aId e;have Wk:=Rq e d.wv.ts;have ah:=d.l5;have:=KB (ns:=m8 w) e;have q3:=Kz (ns:=m8 w) (w:=w) ah e;have:=KA (ns:=m8 w) d (L w.ac)<|dA _;have:=Kw (ns:=m8 w) d;have q2:=λk hk=>bxa (ns:=m8 w) d k hk;simp only[qy 4,eQ,R,r15];refine jH A (aCA ag d.hv d.hf aEm Z) ?_;rintro r3 Y3 ⟨b,n,m,i,j,f,rfl,C3,y,Nb,_,_⟩;refine⟨y.len,?_⟩;have T:=y.kq R;have aa:((1,v1):Id)≠b:=bve;generalize m8 w=ns at*;refine aEh C3 M d.th e X λa4 Y4 C4 A4=>?_;have W:=A4.keep T aa aBY;simp only[qz 6,eT,W];refine yV (L w.aQ.ak) (λk _ Y'=>∃G,bD Y' b w ns (btr ns w++(aH k).flatMap (pE ns w)) n m G i j f/\Ad Y3 Y' b (.l [] U U) G) X ?_;rintro k _ Y5 hk ⟨a5,g,E⟩;have:=q2 k Z;simp only[qz 31,au,eQ];refine⟨λh=>?_,λh=>?_⟩;have o:=aL h;refine aEf g d.hf d.hv (dJ o) λt=>?_;simp only[qz 8];refine bs1 A (anl g M (by grind [Q6,VW.hf,VW.hv]) (by grind [anV,VW.hf,VW.hv]) X) λP Y6 v u=>?_;simp only[qz 10,au,eQ];refine yU o ⟨P,?_,E.trans u⟩;rw[a6z,<-bje];exact v;have ae:k=L w.aQ.ak:=X;subst ae;have s:=q2 (L w.aQ.ak+1)<|dA _;rw[a6z,a6G] at s;have ab:pE ns w (L w.aQ.ak)=rL ns (jE w.aQ w.init.cw w.ac<|L w.aQ.ak):=A;rw[ab] at s;refine aEk g d.hf d.hv λt=>?_;simp only[qz 12,qy 14];refine bs1 A (anl g M (by grind [Q6,VW.hf,VW.hv]) (by grind [anV,VW.hf,VW.hv]) X) λP Y6 v u=>?_;refine bs1 A (aDJ v M Wk e X) λa7 Y7 C7 A7=>?_;simp only[qz 16,qy 18];have hN:sN ns w (aR ns 5)=(((aH<|L<|aR ns 5).flatMap λk=>iW ns<|gd (aR ns 5) k)++((aH<|L<|aR ns 5).flatMap (lP ns<|aR ns 5)++((aH<|L<|aR ns 5).flatMap (lQ ns w<|aR ns 5)++((aH<|L<|aR ns 5).flatMap λk=>qw ns w<|gd (aR ns 5) k))))++(aH<|L w.ac).flatMap (bsZ ns w):=(by simp only[sN,bje];rfl);rw[hN,a6G] at q3;generalize(((aH<|L<|aR ns 5).flatMap λk=>iW ns<|gd (aR ns 5) k)++((aH<|L<|aR ns 5).flatMap (lP ns<|aR ns 5)++((aH<|L<|aR ns 5).flatMap (lQ ns w<|aR ns 5)++((aH<|L<|aR ns 5).flatMap λk=>qw ns w<|gd (aR ns 5) k))))=N at*;refine bs1 A (aDv C7 M Wk d.th d.it d.nt e X) λa8 Y8 C8 A8=>?_;refine bs1 A (aDV C8 M D S d.th e X) λa9 Y9 C9 A9=>?_;simp only[qz 20,qy 22];refine aEd C9 M D d.th e (by grind [a6G]) λK aJ F C=>?_;have Aq:=((((E.trans u).trans A7).trans A8).trans A9).trans C;have B:bt4 ns w=btr ns w++(aH<|L w.aQ.ak).flatMap (pE ns w)++rL ns (jE w.aQ w.init.cw w.ac<|L w.aQ.ak)++N++(aH<|L w.ac).flatMap (bsZ ns w)++(aH<|L w.ac).flatMap (bsS ns w)++(aH<|L w.ac).flatMap (kX ns w):=(by simp_all [bt4,oH,a6z,rJ]);rw[B];refine⟨b,n,m,K,i,j,f,A,F,((x.trans y).trans Aq.fx).mono λq hq=>?_,Nb.old x⟩;simp only[dW,aA,cE] at hq;grind [bK.no,bK.old]
end
def apz:dO:=apy
def Ri:eJ apz:=aph
def Ld:=@aBq
def asC:=I9 27 [(5,([],[4,5])),(11,([39],[2,4,5,37,38])),(14,([],[2,4,5,37,38,39]))]
def aJ3{c0 b}:=y2 45 15 2 48 6 3 Ri func35 asC c0 b [.a c0, .a b]
def vZ(w:am)(out:List<|eu):br6:=⟨L w.ac,L<|m8 w,lL<|m8 w,out⟩
def Em{Y}{p v:Nat}{zs a1 a w out R}(k:box Y (p,v)=V ⟨104,4,U,U,[zs]⟩)(M:L zs=4)(g1:gi Y 246 3 a1<|(lL<|m8 w).map bqR.c)(g:gi Y 25 1 a<|out.map λc=>[sl ci c])(m:∀ds,Lk ds (vZ w out).c->R (.a ds)):sV (aK 4 Y (.p (p,v) 0 0)<|.a [iv<|L w.ac,iv<|L<|m8 w,a1,a]) λs=>rV (sA (V 4) s<|.p (p,v) 0 0) λt=>aE R s [t]:=by have i:∀{x y x2 j:AV},aN (V 4) [x,y,x2,j]=V (.a [x,y,x2,j]):=A;refine stI (y:=4) (cs:=[iv<|L w.ac,iv<|L<|m8 w,a1,a]) k A rfl Z λb d F=>?_;have f:box b (p,v)=V ⟨104,4,U,U,[[iv<|L w.ac,iv<|L<|m8 w,a1,a]]⟩:=FA;have h:∀{e:TypeId} {z:Nat} {x:AV} {bA:List (dM)},gi Y e z x bA->∀q∈aA x,q∉[((p,v):Id)]:=(by intro e z x bA n q o G;rcases n with⟨_,rfl⟩|⟨E,rfl,K⟩;simp[aA] at o;grind [aA]);obtain⟨t1,o1,B⟩:=(g1.fx d<|h g1).frD;obtain⟨D,u,C⟩:=(g.fx d<|h g).frD;simp only[f,eQ,i];have r:jS b [.a [iv<|L w.ac,iv<|L<|m8 w,a1,a]]= .a [iv<|L w.ac,iv<|L<|m8 w, .l ((lL<|m8 w).map bqR.c) t1 o1, .l (out.map λc=>[sl ci c]) D u]:=(by show AV.a [dQ b<|iv<|L w.ac,dQ b<|iv<|L<|m8 w,dQ b a1,dQ b a]=_;rw[B,C];rfl);unfold aE;rw[r];exact⟨A,m _ ⟨A,A⟩⟩
structure byE(w:am)(g:cJ):Prop where
 h1:g.kind=1->aF (L w.ac) g.ea/\aF (L w.ac) g.eb
 h2:g.kind=2->(∀e∈g.cW,aF (L w.ac) e)/\L g.cW<=4
 h3:g.kind=3->aF (L w.ac) g.ea/\aF (L w.ac) g.eb/\g.ea≠g.eb
 h4:g.kind=4->aF (L w.ac) g.ea/\aF (L w.ac) g.eb/\aF (L w.ac) g.ec/\aF (L w.ac) g.ed/\g.ea≠g.ec
def Lj{w g}(h:qC w g=U):byE w g:=by unfold qC at h;by_cases b:g.kind=2;rw[bm2 b,aNR] at h;simp only[qx,bN,eH,rn] at h;obtain⟨j,k,_⟩:=h;refine⟨λe=>Z,λ_=>⟨λe i=>?_,?_⟩,λe=>Z,λe=>Z⟩;exact(px (p:=λe=>aF (L w.ac) e)).1 bto e i;grind [rO];rw[bio b,aPI] at h;simp only[bN] at h;obtain⟨⟨ia,a,c,d⟩,f⟩:=h;have ia:=dX.1 ia;have a:=dX.1 a;have c:=dX.1 c;have d:=dX.1 d;refine⟨λ_=>⟨ia,a⟩,λe=>aOx e b,λe=>⟨ia,a,?_⟩,λe=>⟨ia,a,c,d,?_⟩⟩;rw[bio Z,bm2 e,aPI,aNR] at f;grind [wz,tm];rw[bio Z,bio Z,bm2 e,aPI,aPI,aNR] at f;grind [tZ,vQ]
def NO(w)(g)(hp:bcV w=U/\hU w/\qC w g=U):Ct 35 [.a w.c, .a g.c] (λr=>∃ds,r= .a ds/\Lk ds (vZ w<|bt4 (m8 w) w++jx (m8 w) w g).c):=aJ3 A rfl λs2 hl b1 b3 h0=>by obtain⟨hv,hf,hg⟩:=hp;have d:=vw hf hv;have G:=Lj hg;have hW:=vd hf hv;have K:=d.wv.ok.ev;have:=d.ln;have aT:=d.l5;have M:jb w (m8 w):=anG Z;have D:=an6 d.ps d.hf;have Wk:=Rq K d.wv.ts;have r15:aN (V 15) w.c=V (.a w.c):=A;have r6:aN (V 6) g.c=V (.a g.c):=A;have:=Kv (ns:=m8 w) d aT;refine pz hl λv2 s3 F3 N3 b2=>?_;have ak:=F3.kq b1;have an:=F3.kq b3;simp only[qz 6,qy 8,eQ,ak,an,r15,r6,ar,Ld,hv,hf,hg,hW,I6,jA,eE,awG,aNQ];refine jH A (ank d<|F3.len.trans hl) ?_;rintro r4 Y4 ⟨b,n,wk,a,bm,bo,f,rfl,p,F4,Nb⟩;refine⟨F4.len,?_⟩;have am:=F4.kq b2;have al:=F4.kq ak;have s:=F4.kq an;have:=p.sb;have N:∀{k v:Nat},k≠18->(k,v)≠b:=X;simp only[qz 10,di];have:∀c,vZ w c=⟨L w.ac,L<|m8 w,lL<|m8 w,c⟩:=λ_=>A;refine bvr (λvs Y'=>∃o,bD Y' b w (m8 w) (bt4 (m8 w) w++jx (m8 w) w g) n wk o bm bo f/\Ad Y4 Y' b a o) (λi hJ=>?_) ?_;simp only[qz 35,qy 24,qy 26,eT,s];have W:∀{x:Int},aF (L w.ac) x->L (jK (m8 w) w x)<=10010:=λhx=>zW d.wv (yc w) hx;have hn:L (m8 w)<100000:=Z;generalize m8 w=ns at*;generalize hO:bt4 ns w=Oq at*;refine⟨λB=>?_,λbg=>⟨λB=>?_,λbi=>⟨λB=>?_,λbj=>⟨λB=>?_,λbk=>hJ [] Y4 ⟨a,?_,Ad.refl _ _ _⟩⟩⟩⟩⟩;have j:=w6 B;have:=W (G.h1 j).1;have:=W (G.h1 j).2;refine bwt p M D d.th K (G.h1 j).1 Z λR E m l=>?_;have u:=l.keep s (N H)<|p.ne s<|.inl A;simp only[qz 12,qy 14,eT,u];refine bwt m M D d.th K (G.h1 j).2 (by simp only[a6G];omega) λS F q P=>hJ [] F ⟨S,?_,l.trans P⟩;grind [jx];have j:=w6 B;obtain⟨aM,be⟩:=G.h2 j;refine yV (L g.cW) (λk _ Y'=>∃o,bD Y' b w ns (Oq++(aH k).flatMap λk=>btQ ns w<|gd g.cW k) n wk o bm bo f/\Ad Y4 Y' b a o) bui ?_;rintro k _ E bl ⟨R,m,l⟩;have aU:∀x,L (jc ns w x)<=2:=(by grind [jc]);have:=brS (f:=λk=>btQ ns w<|gd g.cW k) (c:=3) (by grind [btQ]) k;simp only[qz 67,au,eQ];refine⟨λh=>?_,λh=>hJ [] E ⟨R,?_,l⟩⟩;have aa:=aL h;refine bsf (λi=>∀o Y',bD Y' b w ns (Oq++((aH k).flatMap λk=>btQ ns w<|gd g.cW k)++btQ ns w (gd g.cW k)) n wk o bm bo f->Ad Y4 Y' b a o->i [] Y') ?_ λi ab=>?_;intro o Y' q1 q2;simp only[qz 87,au,eQ];refine yU aa ⟨o,?_,q2⟩;grind [a6z];simp only[qz 89,au,ix,bh];refine⟨dJ aa,?_⟩;have z:=aM _<|dB aa;generalize gd g.cW k=e at*;have aO:e.toNat<L w.ac:=(by have:=z.1;have:=z.2;omega);refine anz m M d.th K (by simp only[a6G];omega) z λS F q P=>?_;have C:=l.trans P;have aE:=C.keep al (N H)<|p.ne al<|.inl A;simp only[qz 16,eT,aE,ix];refine⟨z,λaK=>ab S F ?_ C,λaK=>?_⟩;grind [btQ];have:(gd w.ac e.toNat).kind=17:=X;refine anB q Z z (d.wv.th _ aO).2 (by have:=d.wv.ts;omega) λv bn=>?_;simp only[qz 18,qy 20,qy 22,oJ,pG,u0];refine⟨λaV=>?_,λaV=>ab S F ?_ C⟩;refine anC q hn v λt=>?_;have:L (gO ns (aR ns 5) v)<=L (aR ns 5):=(by grind [gO]);have:=aU e;refine bnk q X _ Z λa7 Y7 C7 A7=>ab a7 Y7 ?_<|C.trans A7;have:nG ns (aR ns 5) (brz w e).1 (-1)=gO ns (aR ns 5) (brz w e).1:=(by unfold nG gO;congr 1;refine List.filter_congr λy hy=>?_;have:=(Wk.ok y hy).1.1;simp;omega);grind [btQ];grind [btQ];grind [jx];have j:=w6 B;obtain⟨g1,g2,g3⟩:=G.h3 j;refine aEg p M Wk K g1 g2 g3 Z λR E m l=>hJ [] E ⟨R,?_,l⟩;rw[jx,gq Z,gq Z,hY j];exact m;have j:=w6 B;obtain⟨g1,g2,g3,g4,g5⟩:=G.h4 j;have:=W g2;refine bpl p hn (M.ex _ g1) ?_;simp only[a5Y,bQ,qz 28];refine bnk p Z [_] O λR E m l=>?_;have u:=l.keep s (N H)<|p.ne s<|.inl A;simp only[qz 30,qy 32,eT,u];refine bpl m hn (M.ex _ g4) ?_;simp only[a5Y,bQ,qz 34];refine bnk m X [_] O λS F q P=>?_;have T:=P.keep u (N H)<|m.ne u<|.inl A;simp only[qz 36,qy 38,eT,T];refine kg q hn (M.bf _ _ g1 g3 g5) ?_;simp only[a5Y,bQ,qz 40];refine bnk q X [_] O λa7 Y7 C7 A7=>?_;have aJ:=A7.keep T (N H)<|q.ne T<|.inl A;simp only[qz 42,qy 44,eT,aJ];refine bwt C7 M D d.th K g2 X λa8 Y8 C8 A8=>hJ [] Y8 ⟨a8,?_,by grind [Ad.trans]⟩;grind [jx];grind [jx];rintro vs E ⟨o,m,l⟩;simp only[qz 33,aI];have aG:=l.keep am (N H)<|p.ne am<|.inl A;refine jH A (anm m Z) ?_;rintro r6 F ⟨a1,rfl,g1,g,F6⟩;refine⟨F6.len,?_⟩;simp only[qz 46,qy 48];exact Em (F6.kq aG) A g1 g O
def BP:FT:=pn NO
def ax1:=f211 BP NO
def apB:dO:=(35,BP)::apz
def Rj:eJ apB:=asq (aN0 NO)<|Ri
def amo:=ai @ax1<|@Ld
section
attribute[local irreducible] aX
def bgS{a}:=y0 Rj func331 auF [a]
def a9i:=I9 8 [(5,([5],[]))]
def bgQ{a a1}:=y0 Rj func317 a9i [a,a1]
def bgW{a}:=y0 Rj func287 at1 [a]
def bg7{a a1}:=y0 Rj func263 at1 [a,a1]
def bg9{a a1}:=y0 Rj func272 atS [a,a1]
def a9l:=I9 10 [(3,([5],[1,2]))]
def bgT{c0 a1}:=y1 34 6 2 Rj func327 a9l c0 [.a c0,a1]
def a9n:=I9 21 [(3,([5],[1,4])),(8,([13],[1,4])),(15,([37],[1,4]))]
def bgV{c0}:=y1 290 6 1 Rj func210 a9n c0 [.a c0]
def bhe{a}:=y0 Rj func319 auF [a]
def aVt b R t1 a:=aU b (iv 6) λt3=>bX t3 b λf=>aC t3 (aO .gtr f<|iv 28) λg=>aD t3 (bv U) g λh=>ah h (aE R a [iv 0]) (aO .sub b (iv 6) λc=>ao 1 a t1 c λd=>aM a d λe=>aE R a [e])
def aVs a s0 R:=eV (aX bH 23 s0 [(0,iv 3),(1,iv 3),(2,iv 4),(3,iv 4),(4,iv 5),(5,iv 6),(6,iv 7),(7,iv 8),(8,iv 9),(9,iv 10),(10,iv 11),(11,iv 12),(12,iv 13),(13,iv 14),(14,iv 15),(15,iv 16),(16,iv 18),(17,iv 19),(18,iv 20),(19,iv 21),(20,iv 22),(21,iv 23),(22,iv 2)])<|aVt a R
def bhn{a:AV}{R:J3}(h:H0 λs0=>aVs a s0 R):Ct 289 [a] R:=z0 ato Rj func289 h
def bgB{a a1}:=y0 Rj func295 atS [a,a1]
def bgG{a a1}:=y0 Rj func296 atS [a,a1]
def a8V:=I9 9 []
def bgt{a}:=y0 Rj func338 a8V [a]
def bgy{c0}:=y1 298 4 1 Rj func333 at1 c0 [.a c0]
def bgK{a a1}:=y0 Rj func323 auF [a,a1]
def bgJ{a}:=y0 Rj func326 auF [a]
def bgs{a}:=y0 Rj func214 at1 [a]
def bgr{a}:=y0 Rj func305 at1 [a]
def aUG s0 R:=(.mk _:NR apB at1 Tryz.f211 [] [] s0 R).p
def bgk{R:J3}(h:H0 λs0=>aUG s0 R):Ct 211 [] R:=z0 at1 Rj func211 h
def aVS s0 R:=(.mk _:NR apB at1 Tryz.f200 [] [] s0 R).p
def bhz{R:J3}(h:H0 λs0=>aVS s0 R):Ct 200 [] R:=z0 at1 Rj func200 h
def a9S:=I9 21 [(3,([9],[0,1,2,3])),(11,([10,11,12],[0,1,2,3,9])),(14,([10,11],[0,1,2,3,9,12]))]
def bhq{a a1 b c}:=y0 Rj func127 a9S [a,a1,b,c]
def bg3{a a1}:=yB Rj func301 atS [a,a1]
end
inductive aNK where
 |mk(op n:Int)(name:ByteArray)(l:List aNK)
def aNK.op:aNK->Int| .mk a _ _ _=>a
def aNK.n:aNK->Int| .mk _ a _ _=>a
def aNK.name:aNK->ByteArray| .mk _ _ a _=>a
def aNK.l:aNK->List aNK| .mk _ _ _ a=>a
instance:Inhabited aNK:=⟨.mk 0 0 ⟨#[]⟩ []⟩
mutual
def aNK.c:aNK->dM| .mk op n a l=>[iv op,iv n,st a, .l (aNK.cr l) I I]
def aNK.cr:List aNK->List (dM)|[]=>[]|e::l=>aNK.c e::aNK.cr l
end
def aNK.cr_eq:∀{l},aNK.cr l=l.map aNK.c
 |[]=>by simp only[aNK.cr,mU]
 |e::l=>by simp only[aNK.cr,ji,aNK.cr_eq]
def aoH{x}:aNK.c x=[iv x.op,iv x.n,st x.name,sl aNK.c x.l]:=by cases x;simp only[aNK.c,aNK.cr_eq,aNK.op,aNK.n,aNK.name,aNK.l,sl]
inductive amt where
 |mk(op line:Int)(name arg:ByteArray)(index:List aNK)(expr:aNK)(body els:List amt)
def amt.op:amt->Int| .mk a _ _ _ _ _ _ _=>a
def amt.line:amt->Int| .mk _ a _ _ _ _ _ _=>a
def amt.name:amt->ByteArray| .mk _ _ a _ _ _ _ _=>a
def amt.arg:amt->ByteArray| .mk _ _ _ a _ _ _ _=>a
def amt.index:amt->List aNK| .mk _ _ _ _ a _ _ _=>a
def amt.expr:amt->aNK| .mk _ _ _ _ _ a _ _=>a
def amt.body:amt->List amt| .mk _ _ _ _ _ _ a _=>a
def amt.els:amt->List amt| .mk _ _ _ _ _ _ _ a=>a
instance:Inhabited amt:=⟨.mk 0 0 ⟨#[]⟩ ⟨#[]⟩ [] default [] []⟩
mutual
def amt.c:amt->dM| .mk op e b arg index a d els=>[iv op,iv e,st b,st arg,sl aNK.c index,iv a.op,iv a.n,st a.name,sl aNK.c a.l, .l (amt.cr d) I I, .l (amt.cr els) I I]
def amt.cr:List amt->List (dM)|[]=>[]|e::l=>amt.c e::amt.cr l
end
def amt.cr_eq:∀{l},amt.cr l=l.map amt.c
 |[]=>by simp only[amt.cr,mU]
 |e::l=>by simp only[amt.cr,ji,amt.cr_eq]
def apT{x}:amt.c x=[iv x.op,iv x.line,st x.name,st x.arg,sl aNK.c x.index,iv x.expr.op,iv x.expr.n,st x.expr.name,sl aNK.c x.expr.l,sl amt.c x.body,sl amt.c x.els]:=by cases x;simp only[amt.c,amt.cr_eq,amt.op,amt.line,amt.name,amt.arg,amt.index,amt.expr,amt.body,amt.els,sl]
structure bmK where
 kind:Int
 line:Int
 name:ByteArray
 size:Int
 init:Int
 on:ByteArray
 deriving Inhabited
def bmK.c(x:bmK):dM:=[iv x.kind,iv x.line,st x.name,iv x.size,iv x.init,st x.on]
structure bj9 where
 name:ByteArray
 line:Int
 locs:List ByteArray
 body:List amt
 deriving Inhabited
def bj9.c(x:bj9):dM:=[st x.name,iv x.line,sl cs x.locs,sl amt.c x.body]
structure bqH where
 brP:List bmK
 ay:List bj9
 deriving Inhabited
def bqH.c(x:bqH):dM:=[sl bmK.c x.brP,sl bj9.c x.ay]
structure aRV where
 op:Int
 a:Int
 b:Int
 k:Int
 n:Int
 site:Int
 deriving Inhabited
def aRV.c(x:aRV):dM:=[iv x.op,iv x.a,iv x.b,iv x.k,iv x.n,iv x.site]
structure bqI where
 aO6:Int
 boU:List aRV
 deriving Inhabited
def bqI.c(x:bqI):dM:=[iv x.aO6,sl aRV.c x.boU]
structure bit where
 aQ:aOw
 ay:List bqI
 deriving Inhabited
def bit.c(x:bit):dM:=x.aQ.c++[sl bqI.c x.ay]
structure bim where
 pc:Int
 aO6:eu
 aPe:List (eu)
 ac:Int
 deriving Inhabited
def bim.c(x:bim):dM:=[iv x.pc,sl ci x.aO6,sl cl x.aPe,iv x.ac]
structure bcW where
 cw:aW
 cells:eu
 bU:eu
 ay:List bim
 deriving Inhabited
def bcW.c(x:bcW):dM:=x.cw.c++[sl ci x.cells,sl ci x.bU,sl bim.c x.ay]
structure brp where
 aQ:aOw
 ac:List aP
 deriving Inhabited
def brp.c(x:brp):dM:=x.aQ.c++[sl aP.c x.ac]
def bsq{p:Prop}(h:p:=by rw[Go.Ab.aoH];rfl):p:=h
def aN9{x}:L (aNK.c x)=4:=bsq
def bsd{p:Prop}(h:p:=by rw[Go.Ab.apT];rfl):p:=h
theorem brR{x}:L (amt.c x)=11:=bsd
section
variable{K:J3}{Y:ae}{i:Int}
def bcY{l}:rV (cz 4 Y (sl aNK.c l)<|iv i) K=(aF (L l) i/\K (.q<|aNK.c<|gd l i.toNat)):=aBz λ_=>aN9
def bc0{l}:rV (cz 11 Y (sl amt.c l)<|iv i) K=(aF (L l) i/\K (.q<|amt.c<|gd l i.toNat)):=aBz λ_=>brR
def bcX{l}:rV (cz 6 Y (sl bmK.c l)<|iv i) K=(aF (L l) i/\K (.q<|bmK.c<|gd l i.toNat)):=aBz λ_=>A
def bzv{l}:rV (cz 4 Y (sl bj9.c l)<|iv i) K=(aF (L l) i/\K (.q<|bj9.c<|gd l i.toNat)):=aBz λ_=>A
def bcZ{l}:rV (cz 6 Y (sl aRV.c l)<|iv i) K=(aF (L l) i/\K (.q<|aRV.c<|gd l i.toNat)):=aBz λ_=>A
def bc1{l}:rV (cz 2 Y (sl bqI.c l)<|iv i) K=(aF (L l) i/\K (.q<|bqI.c<|gd l i.toNat)):=aBz λ_=>A
def bc3{l}:rV (cz 4 Y (sl bim.c l)<|iv i) K=(aF (L l) i/\K (.q<|bim.c<|gd l i.toNat)):=aBz λ_=>A
def aPR{a b:Int}:bc4 .rem 0 [] (iv a) (iv b)=if b≠0 then V (iv<|a.tmod b) else J:=by by_cases h:b=0<;>simp[bc4,zP,h]
def a5N{a b:Int}:bc4 .quo 0 [] (iv a) (iv b)=if b≠0 then V (iv<|dq.wrap<|a.tdiv b) else J:=by by_cases h:b=0<;>simp[bc4,zP,h]
end
def ixv:=ai @bcY<|ai @bc0<|ai @bcX<|ai @bzv<|ai @bcZ<|ai @bc1<|@bc3
mutual
def a53:∀{x y:aNK},aNK.c x=aNK.c y->x=y
 | .mk a b c d, .mk e f g j,h=>by
  simp only[aNK.c,kO,AV.s.injEq,mW,mX,AV.l.injEq,ni,aQd] at h
  obtain⟨rfl,rfl,rfl,h⟩:=h
  rw[a6d h]
def a6d:∀{x y:List aNK},aNK.cr x=aNK.cr y->x=y
 |[],[],_=>rfl
 |[],_::_,h=>by grind [aNK.cr]
 |_::_,[],h=>by grind [aNK.cr]
 |a::l,b::m,h=>by
  simp only[aNK.cr,kO] at h
  rw[a53 h.1,a6d h.2]
end
def aOD{x y:aNK}:(aNK.c x=aNK.c y)=(x=y):=be7 ⟨a53,λh=>by rw[h]⟩
def aOZ{l l'}:=bsn @aOD l l'
mutual
def a54:∀{x y:amt},amt.c x=amt.c y->x=y
 | .mk a b c d e f g i, .mk k m o p t j u C,h=>by
  simp only[amt.c,kO,AV.s.injEq,mW,mX,AV.l.injEq,ni,aQd,aOZ] at h
  obtain⟨rfl,rfl,rfl,rfl,rfl,v,w,z,B,q,r⟩:=h
  have:f=j:=by
   obtain⟨a,b,c,d⟩:=f;obtain⟨k,m,o,p⟩:=j
   grind [aNK.op,aNK.n,aNK.name,aNK.l]
  rw[this,aV9 q,aV9 r]
def aV9:∀{x y:List amt},amt.cr x=amt.cr y->x=y
 |[],[],_=>rfl
 |[],_::_,h=>by grind [amt.cr]
 |_::_,[],h=>by grind [amt.cr]
 |a::l,b::m,h=>by
  simp only[amt.cr,kO] at h
  rw[a54 h.1,aV9 h.2]
end
def a6B{x y:amt}:(amt.c x=amt.c y)=(x=y):=be7 ⟨a54,λh=>by rw[h]⟩
def aO0{l l'}:=bsn @a6B l l'
structure ot where
 aq:Int
 lD:Int
 deriving Inhabited,DecidableEq
def ot.c(x:ot):dM:=[iv x.aq,iv x.lD]
def aOY{x y}:=brv bmK.c (λx y h=>by cases x;cases y;simpa[bmK.c,bru] using h) x y
def aPj{l l'}:=bsn @aOY l l'
def aPD{x y}:=brv bj9.c (λx y h=>by cases x;cases y;simpa[bj9.c,bru,aO0] using h) x y
def aPE{l l'}:=bsn @aPD l l'
def aPC{x y}:=brv bqH.c (λx y h=>by cases x;cases y;simpa[bqH.c,bru,aPj,aPE] using h) x y
def aQr{l l'}:=bsn @aPC l l'
def aPX{x y}:=brv aRV.c (λx y h=>by cases x;cases y;simpa[aRV.c,bru] using h) x y
def aQq{l l'}:=bsn @aPX l l'
def aQp{x y}:=brv bqI.c (λx y h=>by cases x;cases y;simpa[bqI.c,bru,aQq] using h) x y
def aRT{l l'}:=bsn @aQp l l'
def aQY{x y}:=brv bit.c (λx y h=>by cases x;cases y;simpa[bit.c,aOw.c,bru,nz,oN,nY,pL,aRT] using h) x y
def aTm{l l'}:=bsn @aQY l l'
def aRS{x y}:=brv bim.c (λx y h=>by cases x;cases y;simpa[bim.c,bru] using h) x y
def aWB{l l'}:=bsn @aRS l l'
def aTl{x y}:=brv bcW.c (λx y h=>by cases x;cases y;simpa[bcW.c,aW.c,bru,rY,td,aWB] using h) x y
def a6C{l l'}:=bsn @aTl l l'
def aWA{x y}:=brv brp.c (λx y h=>by cases x;cases y;simpa[brp.c,aOw.c,bru,nz,oN,yb,nY,pL] using h) x y
def bcS{l l'}:=bsn @aWA l l'
def a6A{x y}:=brv ot.c (λx y h=>by cases x;cases y;simpa[ot.c,bru] using h) x y
def bcR{l l'}:=bsn @a6A l l'
def ijv:=ai @aOD<|ai @aOZ<|ai @a6B<|ai @aO0<|ai @aOY<|ai @aPj<|ai @aPD<|ai @aPE<|ai @aPC<|ai @aQr<|ai @aPX<|ai @aQq<|ai @aQp<|ai @aRT<|ai @aQY<|ai @aTm<|ai @aRS<|ai @aWB<|ai @aTl<|ai @a6C<|ai @aWA<|ai @bcS<|ai @a6A<|@bcR
def ben{x}:aN J (aNK.c x)=V (iv x.op):=bsq
def bAQ{x}:cK 0 J (.a<|aNK.c x)=V (iv x.op):=bsq
def beo{x}:aN J ((aNK.c x).drop 1)=V (iv x.n):=bsq
def bAR{x}:cK 1 J (.a<|aNK.c x)=V (iv x.n):=bsq
def bep{x}:aN J ((aNK.c x).drop 2)=V (st x.name):=bsq
def bAS{x}:cK 2 J (.a<|aNK.c x)=V (st x.name):=bsq
def ber{x}:aN J ((aNK.c x).drop 3)=V (sl aNK.c x.l):=bsq
def bAT{x}:cK 3 J (.a<|aNK.c x)=V (sl aNK.c x.l):=bsq
theorem a69{x}:aN (V 4) (aNK.c x)=V (.a<|aNK.c x):=bsq
def beI{x}:aN J (amt.c x)=V (iv x.op):=bsd
def bBa{x}:cK 0 J (.a<|amt.c x)=V (iv x.op):=bsd
def beJ{x}:aN J ((amt.c x).drop 1)=V (iv x.line):=bsd
def bBb{x}:cK 1 J (.a<|amt.c x)=V (iv x.line):=bsd
def beL{x}:aN J ((amt.c x).drop 2)=V (st x.name):=bsd
def bBd{x}:cK 2 J (.a<|amt.c x)=V (st x.name):=bsd
def beM{x}:aN J ((amt.c x).drop 3)=V (st x.arg):=bsd
def bBe{x}:cK 3 J (.a<|amt.c x)=V (st x.arg):=bsd
def beN{x}:aN J ((amt.c x).drop 4)=V (sl aNK.c x.index):=bsd
def bBf{x}:cK 4 J (.a<|amt.c x)=V (sl aNK.c x.index):=bsd
def bCm{x}:aN J ((amt.c x).drop 5)=V (iv x.expr.op):=bsd
def bBg{x}:cK 5 J (.a<|amt.c x)=V (iv x.expr.op):=bsd
def bCn{x}:aN J ((amt.c x).drop 6)=V (iv x.expr.n):=bsd
def bBh{x}:cK 6 J (.a<|amt.c x)=V (iv x.expr.n):=bsd
def bCo{x}:aN J ((amt.c x).drop 7)=V (st x.expr.name):=bsd
def bBi{x}:cK 7 J (.a<|amt.c x)=V (st x.expr.name):=bsd
def bCp{x}:aN J ((amt.c x).drop 8)=V (sl aNK.c x.expr.l):=bsd
def bBj{x}:cK 8 J (.a<|amt.c x)=V (sl aNK.c x.expr.l):=bsd
def beO{x}:aN J ((amt.c x).drop 9)=V (sl amt.c x.body):=bsd
def bBk{x}:cK 9 J (.a<|amt.c x)=V (sl amt.c x.body):=bsd
def beK{x}:aN J ((amt.c x).drop 10)=V (sl amt.c x.els):=bsd
def bBc{x}:cK 10 J (.a<|amt.c x)=V (sl amt.c x.els):=bsd
def beP{x}:aN (V 4) ((amt.c x).drop 5)=V (.a<|aNK.c x.expr):=by rw[apT,aoH];rfl
def bBl{x}:cK 5 (V 4) (.a<|amt.c x)=V (.a<|aNK.c x.expr):=by rw[apT,aoH];rfl
def beQ{x}:aN (V 11) (amt.c x)=V (.a<|amt.c x):=bsd
def bef{x}:=brK (bmK.c x) A
def bAK{x}:cK 0 J (.a<|bmK.c x)=V (iv x.kind):=rfl
def beg{x}:=aQ6 1 (bmK.c x) A
def bAL{x}:cK 1 J (.a<|bmK.c x)=V (iv x.line):=rfl
def beh{x}:=aQ6 2 (bmK.c x) A
def bAM{x}:cK 2 J (.a<|bmK.c x)=V (st x.name):=rfl
def bei{x}:=aQ6 3 (bmK.c x) A
def bAN{x}:cK 3 J (.a<|bmK.c x)=V (iv x.size):=rfl
def bej{x}:=aQ6 4 (bmK.c x) A
def bAO{x}:cK 4 J (.a<|bmK.c x)=V (iv x.init):=rfl
def bek{x}:=aQ6 5 (bmK.c x) A
def bAP{x}:cK 5 J (.a<|bmK.c x)=V (st x.on):=rfl
def bem{x}:=brx 6 (bmK.c x) A
def beU{x}:=brK (bj9.c x) A
def bBo{x}:cK 0 J (.a<|bj9.c x)=V (st x.name):=rfl
def beV{x}:=aQ6 1 (bj9.c x) A
def bBp{x}:cK 1 J (.a<|bj9.c x)=V (iv x.line):=rfl
def beW{x}:=aQ6 2 (bj9.c x) A
def bBq{x}:cK 2 J (.a<|bj9.c x)=V (sl cs x.locs):=rfl
def beX{x}:=aQ6 3 (bj9.c x) A
def bBr{x}:cK 3 J (.a<|bj9.c x)=V (sl amt.c x.body):=rfl
def beY{x}:=brx 4 (bj9.c x) A
def bez{x}:=brK (bqH.c x) A
def bA0{x}:cK 0 J (.a<|bqH.c x)=V (sl bmK.c x.brP):=rfl
def beA{x}:=aQ6 1 (bqH.c x) A
def bA1{x}:cK 1 J (.a<|bqH.c x)=V (sl bj9.c x.ay):=rfl
def beB{x}:=brx 2 (bqH.c x) A
def bes{x}:=brK (aRV.c x) A
def bAU{x}:cK 0 J (.a<|aRV.c x)=V (iv x.op):=rfl
def bet{x}:=aQ6 1 (aRV.c x) A
def bAV{x}:cK 1 J (.a<|aRV.c x)=V (iv x.a):=rfl
def beu{x}:=aQ6 2 (aRV.c x) A
def bAW{x}:cK 2 J (.a<|aRV.c x)=V (iv x.b):=rfl
def bev{x}:=aQ6 3 (aRV.c x) A
def bAX{x}:cK 3 J (.a<|aRV.c x)=V (iv x.k):=rfl
def bew{x}:=aQ6 4 (aRV.c x) A
def bAY{x}:cK 4 J (.a<|aRV.c x)=V (iv x.n):=rfl
def bex{x}:=aQ6 5 (aRV.c x) A
def bAZ{x}:cK 5 J (.a<|aRV.c x)=V (iv x.site):=rfl
def bey{x}:=brx 6 (aRV.c x) A
def beR{x}:=brK (bqI.c x) A
def bBm{x}:cK 0 J (.a<|bqI.c x)=V (iv x.aO6):=rfl
def beS{x}:=aQ6 1 (bqI.c x) A
def bBn{x}:cK 1 J (.a<|bqI.c x)=V (sl aRV.c x.boU):=rfl
def beT{x}:=brx 2 (bqI.c x) A
def bd9{x}:=brK (bit.c x) A
def bzU{x}:cK 0 J (.a<|bit.c x)=V (sl cA.c x.aQ.cells):=rfl
def bCd{x}:=aQ6 1 (bit.c x) A
def bzX{x}:cK 1 J (.a<|bit.c x)=V (sl dS.c x.aQ.ak):=rfl
def bCe{x}:=aQ6 2 (bit.c x) A
def bzY{x}:cK 2 J (.a<|bit.c x)=V (sl yp.c x.aQ.bC):=rfl
def bea{x}:=aQ6 3 (bit.c x) A
def bzZ{x}:cK 3 J (.a<|bit.c x)=V (sl cs x.aQ.bU):=rfl
def beb{x}:=aQ6 4 (bit.c x) A
def bz0{x}:cK 4 J (.a<|bit.c x)=V (sl cs x.aQ.ay):=rfl
def bCf{x}:=aQ6 5 (bit.c x) A
def bz3{x}:cK 5 J (.a<|bit.c x)=V (sl dL.c x.aQ.dU):=rfl
def bec{x}:=aQ6 6 (bit.c x) A
def bz5{x}:cK 6 J (.a<|bit.c x)=V (sl bqI.c x.ay):=rfl
def bed{x}:aN (V 6) (bit.c x)=V (.a<|x.aQ.c):=rfl
def bz6{x}:cK 0 (V 6) (.a<|bit.c x)=V (.a<|x.aQ.c):=rfl
def bee{x}:=brx 7 (bit.c x) A
def beZ{x}:=brK (bim.c x) A
def bBA{x}:cK 0 J (.a<|bim.c x)=V (iv x.pc):=rfl
def be0{x}:=aQ6 1 (bim.c x) A
def bBB{x}:cK 1 J (.a<|bim.c x)=V (sl ci x.aO6):=rfl
def be1{x}:=aQ6 2 (bim.c x) A
def bBC{x}:cK 2 J (.a<|bim.c x)=V (sl cl x.aPe):=rfl
def bCz{x}:=aQ6 3 (bim.c x) A
def bBD{x}:cK 3 J (.a<|bim.c x)=V (iv x.ac):=rfl
def be2{x}:=brx 4 (bim.c x) A
def bCj{x}:=brK (bcW.c x) A
def bA2{x}:cK 0 J (.a<|bcW.c x)=V (sl cg.c x.cw.ak):=rfl
def bCk{x}:=aQ6 1 (bcW.c x) A
def bA3{x}:cK 1 J (.a<|bcW.c x)=V (iv x.cw.tx):=rfl
def bCl{x}:=aQ6 2 (bcW.c x) A
def bA4{x}:cK 2 J (.a<|bcW.c x)=V (sl cb x.cw.done):=rfl
def beC{x}:=aQ6 3 (bcW.c x) A
def bA5{x}:cK 3 J (.a<|bcW.c x)=V (sl aoC.c x.cw.ay):=rfl
def beD{x}:=aQ6 4 (bcW.c x) A
def bA6{x}:cK 4 J (.a<|bcW.c x)=V (sl ci x.cells):=rfl
def beE{x}:=aQ6 5 (bcW.c x) A
def bA7{x}:cK 5 J (.a<|bcW.c x)=V (sl ci x.bU):=rfl
def beF{x}:=aQ6 6 (bcW.c x) A
def bA8{x}:cK 6 J (.a<|bcW.c x)=V (sl bim.c x.ay):=rfl
def beG{x}:aN (V 4) (bcW.c x)=V (.a<|x.cw.c):=rfl
def bA9{x}:cK 0 (V 4) (.a<|bcW.c x)=V (.a<|x.cw.c):=rfl
def beH{x}:=brx 7 (bcW.c x) A
def bCq{x}:=brK (brp.c x) A
def bBs{x}:cK 0 J (.a<|brp.c x)=V (sl cA.c x.aQ.cells):=rfl
def bCr{x}:=aQ6 1 (brp.c x) A
def bBt{x}:cK 1 J (.a<|brp.c x)=V (sl dS.c x.aQ.ak):=rfl
def bCs{x}:=aQ6 2 (brp.c x) A
def bBu{x}:cK 2 J (.a<|brp.c x)=V (sl yp.c x.aQ.bC):=rfl
def bCt{x}:=aQ6 3 (brp.c x) A
def bBv{x}:cK 3 J (.a<|brp.c x)=V (sl cs x.aQ.bU):=rfl
def bCu{x}:=aQ6 4 (brp.c x) A
def bBw{x}:cK 4 J (.a<|brp.c x)=V (sl cs x.aQ.ay):=rfl
def bCv{x}:=aQ6 5 (brp.c x) A
def bBx{x}:cK 5 J (.a<|brp.c x)=V (sl dL.c x.aQ.dU):=rfl
def bCw{x}:=aQ6 6 (brp.c x) A
def bBy{x}:cK 6 J (.a<|brp.c x)=V (sl aP.c x.ac):=rfl
def bCx{x}:aN (V 6) (brp.c x)=V (.a<|x.aQ.c):=rfl
def bBz{x}:cK 0 (V 6) (.a<|brp.c x)=V (.a<|x.aQ.c):=rfl
def bCy{x}:=brx 7 (brp.c x) A
def bpn{x}:=brK (ot.c x) A
def bzS{x}:cK 0 J (.a<|ot.c x)=V (iv x.aq):=rfl
def bpo{x}:=aQ6 1 (ot.c x) A
def bzT{x}:cK 1 J (.a<|ot.c x)=V (iv x.lD):=rfl
def bpp{x}:=brx 2 (ot.c x) A
def be3{a l}:aN J (a::l)=V a:=rfl
def bkl{α:Type}{a n}{l:List α}:aOz (n+1) (a::l)=aOz n l:=rfl
def bc5{α:Type}{l:List α}:aOz 0 l=l:=rfl
def J9:=ai @ben<|ai @bAQ<|ai @beo<|ai @bAR<|ai @bep<|ai @bAS<|ai @ber<|ai @bAT<|ai @a69<|ai @beI<|ai @bBa<|ai @beJ<|ai @bBb<|ai @beL<|ai @bBd<|ai @beM<|ai @bBe<|ai @beN<|ai @bBf<|ai @bCm<|ai @bBg<|ai @bCn<|ai @bBh<|ai @bCo<|ai @bBi<|ai @bCp<|ai @bBj<|ai @beO<|ai @bBk<|ai @beK<|ai @bBc<|ai @beP<|ai @bBl<|ai @beQ<|ai @bef<|ai @bAK<|ai @beg<|ai @bAL<|ai @beh<|ai @bAM<|ai @bei<|ai @bAN<|ai @bej<|ai @bAO<|ai @bek<|ai @bAP<|ai @bem<|ai @beU<|ai @bBo<|ai @beV<|ai @bBp<|ai @beW<|ai @bBq<|ai @beX<|ai @bBr<|ai @beY<|ai @bez<|ai @bA0<|ai @beA<|ai @bA1<|ai @beB<|ai @bes<|ai @bAU<|ai @bet<|ai @bAV<|ai @beu<|ai @bAW<|ai @bev<|ai @bAX<|ai @bew<|ai @bAY<|ai @bex<|ai @bAZ<|ai @bey<|ai @beR<|ai @bBm<|ai @beS<|ai @bBn<|ai @beT<|ai @bd9<|ai @bzU<|ai @bCd<|ai @bzX<|ai @bCe<|ai @bzY<|ai @bea<|ai @bzZ<|ai @beb<|ai @bz0<|ai @bCf<|ai @bz3<|ai @bec<|ai @bz5<|ai @bed<|ai @bz6<|ai @bee<|ai @beZ<|ai @bBA<|ai @be0<|ai @bBB<|ai @be1<|ai @bBC<|ai @bCz<|ai @bBD<|ai @be2<|ai @bCj<|ai @bA2<|ai @bCk<|ai @bA3<|ai @bCl<|ai @bA4<|ai @beC<|ai @bA5<|ai @beD<|ai @bA6<|ai @beE<|ai @bA7<|ai @beF<|ai @bA8<|ai @beG<|ai @bA9<|ai @beH<|ai @bCq<|ai @bBs<|ai @bCr<|ai @bBt<|ai @bCs<|ai @bBu<|ai @bCt<|ai @bBv<|ai @bCu<|ai @bBw<|ai @bCv<|ai @bBx<|ai @bCw<|ai @bBy<|ai @bCx<|ai @bBz<|ai @bCy<|ai @bpn<|ai @bzS<|ai @bpo<|ai @bzT<|ai @bpp<|ai @be3<|ai @bkl<|@bc5
def bab{Y x}:dG Y (.a<|aNK.c x)= .a (aNK.c x):=bsq
def baf{Y x}:dG Y (.a<|amt.c x)= .a (amt.c x):=bsd
def baa{Y x}:dG Y (.a<|bmK.c x)= .a (bmK.c x):=rfl
def bze{Y x}:dG Y (.a<|bj9.c x)= .a (bj9.c x):=rfl
def byW{Y x}:dG Y (.a<|bqH.c x)= .a (bqH.c x):=rfl
def bac{Y x}:dG Y (.a<|aRV.c x)= .a (aRV.c x):=rfl
def bag{Y x}:dG Y (.a<|bqI.c x)= .a (bqI.c x):=rfl
def a99{Y x}:dG Y (.a<|bit.c x)= .a (bit.c x):=rfl
def bai{Y x}:dG Y (.a<|bim.c x)= .a (bim.c x):=rfl
def bae{Y x}:dG Y (.a<|bcW.c x)= .a (bcW.c x):=rfl
def bah{Y x}:dG Y (.a<|brp.c x)= .a (brp.c x):=rfl
def a98{Y x}:dG Y (.a<|ot.c x)= .a (ot.c x):=rfl
def bba{v}:iX (.s v)=U:=rfl
def ba8{α f}{l:List α}:iX (sl f l)=U:=rfl
def bzm{x:aOw}:iX (.a x.c)=U:=rfl
def bbb{x}:iX (.a<|aNK.c x)=U:=by simp[iX,eN,aoH,sl]
def bbd{x}:iX (.a<|amt.c x)=U:=by simp[iX,eN,apT,sl]
def bzt{x}:iX (.a<|bmK.c x)=U:=rfl
def bzy{x}:iX (.a<|bj9.c x)=U:=rfl
def bbc{x}:iX (.a<|bqH.c x)=U:=rfl
def bzu{x}:iX (.a<|aRV.c x)=U:=rfl
def bzx{x}:iX (.a<|bqI.c x)=U:=rfl
def bzs{x}:iX (.a<|bit.c x)=U:=rfl
def bzA{x}:iX (.a<|bim.c x)=U:=rfl
def bzw{x}:iX (.a<|bcW.c x)=U:=rfl
def bzz{x}:iX (.a<|brp.c x)=U:=rfl
def bzo{x}:iX (.a<|ot.c x)=U:=rfl
def aOW:=ai @bba<|ai @ba8<|ai @bzm<|ai @bbb<|ai @bbd<|ai @bzt<|ai @bzy<|ai @bbc<|ai @bzu<|ai @bzx<|ai @bzs<|ai @bzA<|ai @bzw<|ai @bzz<|@bzo
def Fa:=ai @bab<|ai @baf<|ai @baa<|ai @bze<|ai @byW<|ai @bac<|ai @bag<|ai @a99<|ai @bai<|ai @bae<|ai @bah<|@a98
section
variable{K:J3}{Y:ae}{i:Int}
def boW{l}:rV (cz 2 Y (sl ot.c l)<|iv i) K=(aF (L l) i/\K (.q<|ot.c<|gd l i.toNat)):=aBz λ_=>A
end
abbrev qN:ByteArray:=⟨#[113]⟩
def shE:Nat->aNK->Prop|0,_=>False|n+1,e=>(((e.op=1\/e.op=2)/\e.l=[])\/(e.op=3/\e.name=qN/\L e.l=1)\/(6<=e.op/\L e.l=2))/\∀x∈e.l,shE n x
theorem shE.len{n:Nat}{e}(h:shE n e):L e.l<=2:=by cases n with|zero=>exact h.elim|succ n=>rcases h.1 with⟨_,h⟩|⟨_,_,h⟩|⟨_,h⟩<;>simp[h]
theorem shE.sub{n:Nat}{e}(h:shE n e){k:Nat}(a:k<L e.l):∃m,n=m+1/\shE m (gd e.l k):=by cases n with|zero=>exact h.elim|succ n=>exact⟨n,rfl,h.2 _ (dB a)⟩
theorem shE.mono:∀{n m e},shE n e->n<=m->shE m e
 |0,_,_,h,_=>h.elim
 |n+1,0,_,_,h=>Z
 |n+1,m+1,e,h,b=>⟨h.1,λx a=>(h.2 x a).mono Z⟩
def shS:Nat->amt->Prop|0,_=>False|n+1,s=>((s.op=1\/s.op=2\/s.op=3\/s.op=14)->shE 2 s.expr)/\L s.index<=1/\(∀x∈s.index,shE 2 x)/\(s.index≠[]->s.name=qN)/\L s.expr.l<=2/\L s.body<=4/\(∀x∈s.body,shS n x)/\L s.els<=4/\(∀x∈s.els,shS n x)/\1<=s.op/\s.op<=15
def shS.up{n s}(h:shS n s):∃m,n=m+1/\(∀x∈s.body,shS m x)/\∀x∈s.els,shS m x:=by cases n with|zero=>exact h.elim|succ n=>exact⟨n,rfl,h.2.2.2.2.2.2.1,h.2.2.2.2.2.2.2.2.1⟩
def shS.at{n:Nat}{s}(h:shS n s):((s.op=1\/s.op=2\/s.op=3\/s.op=14)->shE 2 s.expr)/\L s.index<=1/\(∀x∈s.index,shE 2 x)/\(s.index≠[]->s.name=qN)/\L s.expr.l<=2/\L s.body<=4/\L s.els<=4:=by cases n with|zero=>exact h.elim|succ n=>exact⟨h.1,h.2.1,h.2.2.1,h.2.2.2.1,h.2.2.2.2.1,h.2.2.2.2.2.1,h.2.2.2.2.2.2.2.1⟩
def shS.ops{n s}(h:shS n s):1<=s.op/\s.op<=15:=by cases n with|zero=>exact h.elim|succ n=>exact h.2.2.2.2.2.2.2.2.2
theorem shS.mono:∀{n m s},shS n s->n<=m->shS m s
 |0,_,_,h,_=>h.elim
 |n+1,0,_,_,h=>Z
 |n+1,m+1,s,⟨c,d,e,f,g,i,j,k,l,b⟩,o=>⟨c,d,e,f,g,i,λx a=>(j x a).mono Z,k,λx a=>(l x a).mono Z,b⟩
def shL(n m:Nat)(l:List amt):Prop:=L l<=m/\∀s∈l,shS n s
def shS.body{n s}(h:shS n s):∃m,n=m+1/\shL m 4 s.body/\shL m 4 s.els:=by obtain⟨m,e,a,b⟩:=h.up;exact⟨m,e,⟨h.at.2.2.2.2.2.1,a⟩,⟨h.at.2.2.2.2.2.2,b⟩⟩
def shT(t:bj9):Prop:=L t.locs<=4/\shL 4 8 t.body
def PrB(p:bqH):Prop:=L p.brP<1000/\L p.ay<1000/\∀t∈p.ay,L t.locs<1000
def shP(p:bqH):Prop:=PrB p/\L p.ay<=4/\∀t∈p.ay,shT t
section
variable{i:Nat}(F:FT)
def aP7{b:Type}{c:b->dM}{d:b->J3}(k:∀a,Ct i (c a)<|d a):FT:=λys K=>∃a,ys=c a/\∀r,d a r->K r
def aRM{c:Type}{b:c->dM}{e:c->J3}(k:∀a,Ct i (b a)<|e a)(g:F=aP7 k:=by exact A)(j:∀a d,b a=b d->a=d:=by simp+contextual only[ij])(a:c)(Lw K:J3):fW F (b a) Lw K=(∀r,e a r->Lw r/\K r):=by subst g;apply be7;constructor;rintro⟨d,h,f⟩;obtain rfl:=j _ _ h;exact f;intro h;exact⟨_,A,h⟩
def aR6{b:Type}{c:b->dM}{f:b->J3}(k:∀a,Ct i (c a)<|f a)(d:∀a,(c a).all iX=U:=by intros;exact A):∀ys K,aP7 k ys K->jz aS GG i ys K:=by rintro ys K ⟨a,rfl,h⟩;exact nX (k a) (d a) (λr e=>h r e)
def aRd{c B:Type}{d:c->B->dM}{e:c->B->J3}(k:∀a b,Ct i (d a b)<|e a b):FT:=λys K=>∃a b,ys=d a b/\∀r,e a b r->K r
def aWg{d B:Type}{c:d->B->dM}{g:d->B->J3}(k:∀a b,Ct i (c a b)<|g a b)(m:F=aRd k:=by exact A)(j:∀a b e f,c a b=c e f->a=e/\b=f:=by simp+contextual only[ij])(a:d)(b:B)(Lw K:J3):fW F (c a b) Lw K=(∀r,g a b r->Lw r/\K r):=by subst m;apply be7;constructor;rintro⟨e,f,h,l⟩;obtain⟨rfl,rfl⟩:=j _ _ _ _ h;exact l;intro h;exact⟨_,_,A,h⟩
def aYm{c B:Type}{d:c->B->dM}{g:c->B->J3}(k:∀a b,Ct i (d a b)<|g a b)(e:∀a b,(d a b).all iX=U:=by intros;exact A):∀ys K,aRd k ys K->jz aS GG i ys K:=by rintro ys K ⟨a,b,rfl,h⟩;exact nX (k a b) (e a b) (λr f=>h r f)
def aSb{d B C:Type}{e:d->B->C->dM}{f:d->B->C->J3}(k:∀a b c,Ct i (e a b c)<|f a b c):FT:=λys K=>∃a b c,ys=e a b c/\∀r,f a b c r->K r
def a6o{e B C:Type}{d:e->B->C->dM}{m:e->B->C->J3}(k:∀a b c,Ct i (d a b c)<|m a b c)(o:F=aSb k:=by exact A)(j:∀a b c f g l,d a b c=d f g l->a=f/\b=g/\c=l:=by simp+contextual only[ij])(a:e)(b:B)(c:C)(Lw K:J3):fW F (d a b c) Lw K=(∀r,m a b c r->Lw r/\K r):=by subst o;apply be7;constructor;rintro⟨f,g,l,h,n⟩;obtain⟨rfl,rfl,rfl⟩:=j _ _ _ _ _ _ h;exact n;intro h;exact⟨_,_,_,A,h⟩
def a7W{d B C:Type}{e:d->B->C->dM}{j:d->B->C->J3}(k:∀a b c,Ct i (e a b c)<|j a b c)(f:∀a b c,(e a b c).all iX=U:=by intros;exact A):∀ys K,aSb k ys K->jz aS GG i ys K:=by rintro ys K ⟨a,b,c,rfl,h⟩;exact nX (k a b c) (f a b c) (λr g=>h r g)
def bix{e B C D:Type}{f:e->B->C->D->dM}{g:e->B->C->D->Prop}{v:e->B->C->D->AV}(k:∀a b c d,g a b c d->Ct i (f a b c d) (·=v a b c d)):FT:=λys K=>∃a b c d,ys=f a b c d/\g a b c d/\K (v a b c d)
def bmX{e B C D:Type}{f:e->B->C->D->dM}{o:e->B->C->D->Prop}{v:e->B->C->D->AV}(k:∀a b c d,o a b c d->Ct i (f a b c d) (·=v a b c d))(q:F=bix k:=by exact A)(j:∀a b c d g l m n,f a b c d=f g l m n->a=g/\b=l/\c=m/\d=n:=by simp+contextual only[ij])(a:e)(b:B)(c:C)(d:D)(Lw K:J3):fW F (f a b c d) Lw K=(o a b c d/\Lw (v a b c d)/\K (v a b c d)):=by subst q;apply be7;constructor;rintro⟨g,l,m,n,h,p⟩;obtain⟨rfl,rfl,rfl,rfl⟩:=j _ _ _ _ _ _ _ _ h;exact p;intro h;exact⟨_,_,_,_,A,h⟩
def bnA{e B C D:Type}{f:e->B->C->D->dM}{m:e->B->C->D->Prop}{v:e->B->C->D->AV}(k:∀a b c d,m a b c d->Ct i (f a b c d) (·=v a b c d))(g:∀a b c d,(f a b c d).all iX=U:=by intros;exact A):∀ys K,bix k ys K->jz aS GG i ys K:=by rintro ys K ⟨a,b,c,d,rfl,j,h⟩;exact nX (k a b c d j) (g a b c d) (λr l=>by rw[l];exact h)
def aTQ{f B C D E:Type}{g:f->B->C->D->E->dM}{h:f->B->C->D->E->Prop}{j:f->B->C->D->E->J3}(k:∀a b c d e,h a b c d e->Ct i (g a b c d e) (j a b c d e)):FT:=λys K=>∃a b c d e,ys=g a b c d e/\h a b c d e/\∀r,j a b c d e r->K r
def bbn{f B C D E:Type}{g:f->B->C->D->E->dM}{q:f->B->C->D->E->Prop}{s:f->B->C->D->E->J3}(k:∀a b c d e,q a b c d e->Ct i (g a b c d e) (s a b c d e))(u:F=aTQ k:=by exact A)(j:∀a b c d e l m n o p,g a b c d e=g l m n o p->a=l/\b=m/\c=n/\d=o/\e=p:=by simp+contextual only[ij])(a:f)(b:B)(c:C)(d:D)(e:E)(Lw K:J3):fW F (g a b c d e) Lw K=(q a b c d e/\∀r,s a b c d e r->Lw r/\K r):=by subst u;apply be7;constructor;rintro⟨l,m,n,o,p,h,t⟩;obtain⟨rfl,rfl,rfl,rfl,rfl⟩:=j _ _ _ _ _ _ _ _ _ _ h;exact t;intro h;exact⟨_,_,_,_,_,A,h⟩
def bhJ{f B C D E:Type}{g:f->B->C->D->E->dM}{n:f->B->C->D->E->Prop}{o:f->B->C->D->E->J3}(k:∀a b c d e,n a b c d e->Ct i (g a b c d e) (o a b c d e))(j:∀a b c d e,(g a b c d e).all iX=U:=by intros;exact A):∀ys K,aTQ k ys K->jz aS GG i ys K:=by rintro ys K ⟨a,b,c,d,e,rfl,l,h⟩;exact nX (k a b c d e l) (j a b c d e) (λr m=>h r m)
end
def bqE:AV->AV| .t vs=> .t (vs.map nrm)|x=>nrm x
theorem bdV{κ w Y β v x}(h:ba κ w Y β v x):ba κ w Y β v (bqE x):=by cases x with|t vs=>(cases h with|t d h=>refine .t X λi v c f b=>?_;grind [aOe,yo])|_=>exact yo h
theorem a6f{x}:nj (gK x)=nj x:=by cases x<;>rfl
theorem aWa{x}:pF (nrm x)=pF x:=by cases x with|a cs=>grind [nrm,pF,List.all_map,a6f]|_=>first|rfl|exact a6f
def ba7{x}:kG (bqE x)=kG x:=by have h:=@aWa x;(cases x<;>first|exact h|skip);grind [bqE,kG,List.all_map,aWa]
def aDq{fn ys Q}(h:Ct fn ys λr=>Q<|bqE r):Ct fn ys Q:=by obtain⟨r,f,g,i,j⟩:=h;refine⟨bqE r,f,by rw[ba7];exact g,i,λF w d a b c=>(j F w d a b c).mono ?_⟩;grind [bdV]
def fz(Y:ae)(c:AV):AV:=gK<|dQ Y c
def fzT(Y:ae):AV->AV| .a cs=> .a (cs.map<|fz Y)|x=>fz Y x
def bcq{Y c}:(∃l t o,dQ Y c= .l l t o)\/dQ Y c=c:=by(cases c<;>first|exact .inr A|skip);grind [box,dQ,eN,frN]
theorem aXU{Y x}:nrm (iZ Y x)=fzT Y x:=by cases x with|a cs=>simp only[iZ,nrm,fzT,vA];rfl|m b n=>show nrm (dQ Y<|.m b n)=gK (dQ Y<|.m b n);(rcases bcq (Y:=Y) (c:= .m b n) with⟨l,t,o,h⟩|h<;>rw[h]<;>rfl)|_=>rfl
theorem a6g{Y x}(h:iX (fzT Y x)=U):pF (iZ Y x)=U:=by have b:pF (nrm<|iZ Y x)=U:=(by rw[aXU];generalize fzT Y x=y at h;cases y with|a cs=>simp only[iX,dV] at h;simp only[pF,dV];intro c d;have:=h c d;(cases c<;>first|rfl|grind [eN])|_=>first|rfl|grind [iX,eN]);rwa [aWa] at b
def aOH{Q:J3}{Y vs vs'}(h:vs.map (fzT Y)=vs')(d:vs'.all iX=U)(c:Q<|aoz vs'):aE (λr=>Q<|bqE r) Y vs:=by have b:kG (.t<|vs.map<|iZ Y)=U/\bqE (.t<|vs.map<|iZ Y)= .t vs':=(by constructor;grind [kG,List.all_map,dV,a6g,CA];simp only[bqE,vA,<-h];grind [ja,aXU]);unfold aE jS;rcases vs with _|⟨v,_|⟨w,l⟩⟩;subst h;exact⟨A,c⟩;subst h;simp only[ji,mU,Cs,aqG,ru] at d;have f:=a6g d;have g:bqE (iZ Y v)=fzT Y v/\kG (iZ Y v)=pF (iZ Y v):=(by rw[<-aXU];generalize iZ Y v=y at f;cases y<;>first|exact⟨A,A⟩|grind [pF,nj]);refine⟨FA,?_⟩;show Q<|bqE<|iZ Y v;rw[g.1];exact c;subst h;refine⟨b.1,?_⟩;show Q<|bqE<|.t<|(v::w::l).map<|iZ Y;rw[b.2];exact c
def aOv{Q:J3}{Y v v'}(h:fzT Y v=v')(c:iX v'=U)(b:Q v'):aE (λr=>Q<|bqE r) Y [v]:=by subst h;exact aOH (vs':=[fzT Y v]) A (by simp[c]) b
theorem aQ7{Y v x}(h:fzT Y v=x)(b:iX x=U):aE (λr=>bqE r=x) Y [v]:=aOv (Q:=(·=x)) h b A
def J7(Y:ae)(e:TypeId)(z:Nat)(a:AV)(bA:List<|dM):Prop:=(bA=[]/\a= .l [] U U)\/∃b m,a= .m b (L bA)/\box Y b=V ⟨e,z,U,I,bA++m⟩
theorem gi.p{Y e z a bA}(h:gi Y e z a bA):J7 Y e z a bA:=by rcases h with h|⟨b,c,d⟩;exact .inl h;exact .inr ⟨b,[],c,by simpa using d⟩
section
variable{Y Y':ae}{e:TypeId}{z:Nat}{a:AV}{bA:List (dM)}
theorem J7.fx{ks}(f:J7 Y e z a bA)(d:Fx Y Y' ks)(g:∀b∈aA a,b∉ks):J7 Y' e z a bA:=by rcases f with h|⟨b,m,rfl,c⟩;exact .inl h;exact .inr ⟨b,m,A,d.keep b _ (g b aBY) c⟩
def aWt{v}:fz Y (.s v)= .s v:=rfl
def bcz{t o}:fz Y (.l bA t o)= .l bA I I:=rfl
def aBr(h:J7 Y e z a bA):fz Y a= .l bA I I:=by rcases h with⟨rfl,rfl⟩|⟨b,m,rfl,c⟩;rfl;simp[fz,dQ,c,gK]
def aWs(h:J7 Y e z a bA):fzT Y a= .l bA I I:=by rw[<-aBr h];rcases h with⟨rfl,rfl⟩|⟨b,m,rfl,c⟩<;>rfl
def lz(Y:ae)(c:AV):AV:=gK<|aTH Y c
def aQ5{v}:lz Y (.s v)= .s v:=rfl
def aXQ{t o}:lz Y (.l bA t o)= .l bA I I:=rfl
def aOb(h:J7 Y e z a bA):lz Y a= .l bA I I:=by rcases h with⟨rfl,rfl⟩|⟨b,m,rfl,c⟩;rfl;simp[lz,aTH,c,gK]
theorem J7.ce(h:J7 Y e z a bA):eY a=V [a]:=by rcases h with⟨_,rfl⟩|⟨b,m,rfl,_⟩<;>rfl
theorem J7.ln(h:J7 Y e z a bA):fS Y a=V (iv<|L bA):=by rcases h with⟨rfl,rfl⟩|⟨b,m,rfl,c⟩;rfl;simp[fS,c]
def J7.ar(h:J7 Y e z a bA):dG Y a= .l bA I I:=by rcases h with⟨rfl,rfl⟩|⟨b,m,rfl,c⟩;rfl;simp[dG,eR,aTH,c,nrm,gK]
def Oy{b i j x}(h:box Y b=V x):cO Y (.p b i j)=V (.p b i j):=by simp[cO,h]
theorem qs{d by':Nat}{zs new t o K}(i:J7 Y e z a bA)(k:L zs=z)(n:0<z)(c:d<L Y)(u:∀r∈bA,L r=z)(s:∀r∈new,L r=z)(p:new≠[])(q:(L bA+L new)*(by'+1)<=1099511627776)(h:∀f Y',gi Y' e z f (bA++new)->Fx Y Y' (aA a)->(∀b∈aA f,bK Y b/\b.1=d)->K f Y'):eV (apA e zs by' Y d a<|.l new t o) K:=by unfold apA;simp only[gL];rw[gq X,hY ⟨Z,by simp[vg,c],FA⟩];rcases i with⟨rfl,rfl⟩|⟨b,m,rfl,g⟩;simp only;rw[hY ⟨O,btz⟩];refine h _ _ (.inr ⟨lA Y d,O,?_⟩) ((kH c).mono O) (by simp[aA];exact⟨qQ Y d,A⟩);grind [iy];simp only[g];rw[hY ⟨trivial,trivial,k.symm,O,btz⟩];have j:d<L (kill Y b):=(by grind [yg]);refine h _ _ (.inr ⟨lA Y d,O,?_⟩) (((Le g).trans<|kH j).mono aBY) (by simp[aA];exact⟨qQ Y d,A⟩);grind [List.take_left',anF,iy]
theorem slP{i:Int}{K}(g:J7 Y e z a bA)(f:0<=i)(j:i<=L bA)(d:∀c,J7 Y e z c (bA.take i.toNat)->aA c=aA a->K c):rV (fo z Y a J (V<|iv i) J) K:=by have k:i.toNat<=L bA:=Z;rcases g with⟨rfl,rfl⟩|⟨b,m,rfl,n⟩;have h:i.toNat=0:=X;have:fo z Y (.l [] U U) J (V<|iv i) J=V (.l [] U U):=(by simp[fo,lM,f,qY,h]);rw[this];exact d _ (.inl ⟨O,A⟩) A;have:fo z Y (.m b<|L bA) J (V<|iv i) J=V (.m b i.toNat):=(by grind [fo,lM,qY]);rw[this];refine d _ (.inr ⟨b,bA.drop i.toNat++m,?_,?_⟩) A;simp_all;grind [bje,List.take_append_drop]
theorem aOp:∀(l) (Y),Fx Y (kills Y l) l:=λl=>by induction l with|nil=>intro Y;exact Fx.refl _ _|cons b l d=>intro Y;show Fx Y (kills (if(box Y b).isSome then kill Y b else Y) l) (b::l);cases c:box Y b with|none=>grind [Fx.mono]|some x=>exact(Le c).trans<|d<|kill Y b
end
structure Lv(Y0 Y:ae)(cs tgt:dM):Prop where
 eq:cs.map (lz Y)=tgt
 nw:∀b∈aNN (.a cs),bK Y0 b
def aQm{Y zs cs tgt}(d:cs.map (lz Y)=tgt)(b:L tgt=L zs)(f:0<L zs)(g:tgt.all eN=U)(i:L zs<=1000):aX zs 1 Y [(0, .a cs)]=V (.l [tgt] U U,kills Y<|aNN<|.a cs):=by have h:nrm (eR Y<|.a cs)= .a tgt:=(by simp only[eR,nrm,vA,<-d];rfl);simp only[aX,ji,mU,h,Cz,RN,cL];have c:(er 1 zs).flatten=zs:=O;rw[hY ⟨Z,f⟩,c];simp only[aly,eY,b,Nat.zero_mul,aj,dA,I6,aO1,CE,dW,List.drop_length,cL,a6X,g,df];simp[bsm,<-b]
theorem Lv.fx{d Y Y' cs tgt ks}(h:Lv d Y cs tgt)(f:Fx Y Y' ks)(l:∀b∈aNN (.a cs),b∉ks)(i:tgt.all eN=U):Lv d Y' cs tgt:=by refine⟨?_,h.nw⟩;rw[<-h.eq];refine ja λc k=>?_;have j:eN (lz Y c)=U:=(by rw[<-h.eq] at i;simp_all);cases c with|m b n=>(cases g:box Y b with|none=>grind [lz,aTH,gK,eN]|some x=>have:=f.keep b x (by grind [aNN,iR]) g;grind [lz,aTH])|_=>rfl
def aRA{e}{z d:Nat}{zs cs Y}{K:be}(l:L zs=z)(j:L cs=z)(h:0<z)(k:d<L Y)(i:∀v Y',Fx Y Y' []->bK Y (d,v)->box Y' (d,v)=V ⟨e,z,U,U,[cs]⟩->K (.p (d,v) 0 0) Y'):eV (alA e zs Y d) λp s=>sV (aK z s p<|.a cs) λs'=>K p s':=alI l h k λv o b f g=>stI (y:=z) (cs:=cs) g A j Z λm c n=>i v m ((b.trans c).mono aUw) f<|by simp_all
def yv{Y b}{z:Nat}{e o r cs K}(f:box Y b=V ⟨e,z,o,U,[r]⟩)(j:L r=z)(g:L cs=z)(d:∀Y',Fx Y Y' [b]->box Y' b=V ⟨e,z,o,U,[cs]⟩->K Y'):sV (aK z Y (.p b 0 0)<|.a cs) K:=stI (y:=z) (cs:=cs) f A g Z λh c i=>d h c<|by simp_all
def bdJ{Y q cs}:sA q Y (.q cs)=aN q cs:=rfl
def A0{Y b}{j z:Nat}{e o r x K}(d:box Y b=V ⟨e,z,o,U,[r]⟩)(g:eY x=V [x])(f:j<L r)(c:∀Y',Fx Y Y' [b]->box Y' b=V ⟨e,z,o,U,[r.set j x]⟩->K Y'):sV (aK 1 Y (.p b 0 j) x) K:=by grind [stI,GP]
def aPW{i ys R Lw K}(h:Ct i ys R)(b:ys.all iX=U)(c:∀r,R r->Lw r/\K r):fW (cX i) ys Lw K:=nX h b c
def a6h{x}:iX (.a<|aNK.c x)=U:=by simp[iX,eN,aoH,sl]
def aS7{x}:iX (.a<|amt.c x)=U:=by simp[iX,eN,apT,sl]
def aV2{x}(h:iX x=U):[x].all iX=U:=by simp[h]
def apQ{Y:ae}{e:TypeId}{z d by' n:Nat}{zs:dM}{a:AV}{bA new:List (dM)}{t o:Bool}{K:be}(h:J7 Y e z a bA)(m:L Y=n)(q:∀r∈bA,L r=z)(p:∀r∈new,L r=z)(g:new≠[])(j:(L bA+L new)*(by'+1)<=1099511627776)(i:∀c Y',gi Y' e z c (bA++new)->Fx Y Y' (aA a)->(∀b∈aA c,bK Y b/\b.1=d)->K c Y')(s:L zs=z:=by exact A)(f:0<z:=by decide)(k:d<n:=by decide):eV (apA e zs by' Y d a<|.l new t o) K:=qs h s f (m▸k) q p g j i
def anu{e:TypeId}{z d n:Nat}{zs cs:dM}{Y:ae}{K:be}(h:L Y=n)(c:∀v Y',Fx Y Y' []->bK Y (d,v)->box Y' (d,v)=V ⟨e,z,U,U,[cs]⟩->K (.p (d,v) 0 0) Y')(i:L zs=z:=by exact A)(f:L cs=z:=by exact A)(b:0<z:=by decide)(g:d<n:=by decide):eV (alA e zs Y d) λp s=>sV (aK z s p<|.a cs) λs'=>K p s':=aRA i f b (h▸g) c
def isI(r:AV):Prop:=∃x:Int,r=iv x
def isB(r:AV):Prop:=∃b:Bool,r=bv b
def aPG{x}:isI (iv x)=True:=bvx ⟨x,A⟩
def aNP{b}:isB (bv b)=True:=bvx ⟨b,A⟩
def aP1{c}[Decidable c]{v K}:rV (if c then V v else J) K=(c/\K v):=by grind [rV]
def aWE(r:AV):Prop:=∃(x:Int) (b:Bool),r= .t [iv x,bv b]
def aQ1(r:AV):Prop:=∃x y:Int,r= .t [iv x,iv y]
def a6D{x b}:aWE (.t [iv x,bv b])=True:=bvx ⟨x,b,A⟩
def aO2{x y}:aQ1 (.t [iv x,iv y])=True:=bvx ⟨x,y,A⟩
def bd7{R Y x y}:aE R Y [iv x,iv y]=R (.t [iv x,iv y]):=bvl
def aTb{p n}: -1<=uo p n/\uo p n<n:=by grind [uo,List.mem_of_find?_eq_some]
def aXc(b):Ct 331 [bv b] (·=iv (if b then 1 else 0)):=bgS λs0 c a=>by cases b<;>simp[u1,ah]
def aOT:FT:=lH aXc
def bbU:=np aOT aXc
def aXa(i n):Ct 317 [iv i,iv n] (λr=>isI r):=bgQ λs0 b a=>by simp+contextual only[eQ,aPR,aP1,aPG];refine⟨λh=>trivial,λh=>⟨X,?_⟩⟩;simp+contextual only[qz 35,qz 33,eQ,aPG,J6,I6]
def aSe:FT:=aRd aXa
def bbS:=aWg aSe aXa
def aXg(o):Ct 287 [iv o] (·=bv (Q (1<=o)&&Q (o<=5))):=bgW λs0 b a=>by simp+contextual only[eQ]
def aSf:FT:=lH aXg
def bbY:=np aSf aXg
def aXk(i n):Ct 263 [iv i,iv n] (·=bv (dh i n)):=bg7 λs0 b a=>by simp+contextual only[eQ,dh]
def aN3:FT:=bsk aXk
def bb2:=f200 aN3 aXk
def aXm(l)(s)(f:L l<4611686018427387904):Ct 272 [sl dS.c l,st s] (λr=>isI r):=bg9 λs0 e a=>bid (L l) (λk=>True) trivial λk d b=>by simp+contextual only[qz 19,eQ,ix,rk,bh,aPG,J6,ni,aQd];grind [dJ,aL,bkg]
def aQE:FT:=pn aXm
def bb4:=f211 aQE aXm
def aXd(w:aOw)(s)(m:L w.cells<4611686018427387904):Ct 327 [.a w.c,st s] (·=iv (uo (λi=>Q<|(gd w.cells i).name=s)<|L w.cells)):=bgT A λn l b f=>bid (L w.cells) (λk=>∀j,j<k->Q ((gd w.cells j).name=s)=I) O λk g e=>by simp+contextual only[qz 19,eT,b,ix,bh];refine⟨λh=>⟨vp h,λd=>?_,btn⟩,λh=>?_⟩;rw[KW (aL h) d e];grind [KX,bpL,dge]
def aQD:FT:=aIc aXd
def bbV:=gX aQD aXd
def aOB(l:List bmK)(s:ByteArray):Int:=uo (λi=>Q<|(gd l i).name=s)<|L l
def aYi(l:List bj9)(s:ByteArray):Int:=uo (λi=>Q<|(gd l i).name=s)<|L l
def aWX(l)(s)(g:L l<4611686018427387904):Ct 295 [sl bmK.c l,st s] (·=iv (aOB l s)):=bgB λi f d=>bid (L l) (λk=>∀j,j<k->Q ((gd l j).name=s)=I) O λk e b=>by simp+contextual only[qz 19,eQ,ixv,rk,J9,bh];refine⟨λh=>⟨vp h,λa=>?_,btn⟩,λh=>?_⟩;rw[aOB,KW (aL h) a b];grind [aOB,KX,bpL,dge]
def aPO:FT:=aIc aWX
def bno{p:Prop}(h:p:=by simp+contextual only[Go.Ab.ij,Go.Ab.ijv]):p:=h
def bbF:=gX aPO aWX (j:=bno)
def aW2(l)(s)(g:L l<4611686018427387904):Ct 296 [sl bj9.c l,st s] (·=iv (aYi l s)):=bgG λi f d=>bid (L l) (λk=>∀j,j<k->Q ((gd l j).name=s)=I) O λk e b=>by simp+contextual only[qz 19,eQ,ixv,rk,J9,bh];refine⟨λh=>⟨vp h,λa=>?_,btn⟩,λh=>?_⟩;rw[aYi,KW (aL h) a b];grind [aYi,KX,bpL,dge]
def aP9:FT:=aIc aW2
def bbK:=gX aP9 aW2 (j:=bno)
def aXp(n):Ct 319 [iv n] (λr=>isI r):=bhe λs0 b a=>by simp+contextual only[eQ,aPG,J6,I6]
def aSh:FT:=aP7 aXp
def bb7:=aRM aSh aXp
def aWQ(n):Ct 338 [iv n] (λr=>isI r):=bgt λs0 b a=>by simp+contextual only[eQ,aPG,J6,I6]
def aTZ:FT:=aP7 aWQ
def bby:=aRM aTZ aWQ
def aW6(a b):Ct 323 [iv a,iv b] (·=iv (if a≠0 then a else b)):=bgK λs0 d c=>by simp+contextual only[eQ];simp_all
def aOi:FT:=bsk aW6
def bbO:=f200 aOi aW6
def aW5(b):Ct 326 [bv b] (·=iv (if b then 7 else 0)):=bgJ λs0 c a=>by cases b<;>simp[u1,ah]
def aOS:FT:=lH aW5
def bbN:=np aOS aW5
def aWU(e:aNK):Ct 333 [.a e.c] (λr=>isB r):=bgy aN9 λg f b d=>by simp+contextual only[eS,b,J9,aNP]
def aT2:FT:=aP7 aWU
def bbC:=aRM aT2 aWU (j:=bno)
def aWP(n):Ct 214 [iv n] (·= .a (aNK.mk 1 n ⟨#[]⟩ []).c):=by refine aDq (bgs λs0 d i=>?_);refine mo d λj e f=>?_;have b:bM bvA bst [(0,iv 1),(1,iv n)]=V (.a [iv 1,iv n,sv [], .l [] U U]):=A;simp only[qz 2,qy 4,b,aY];refine gN f (by rw[e.1,d];decide) A rfl λk h g=>?_;simp only[eS,g,aN,bZ,bhZ,dA,aO1,List.take_succ_cons,CE];exact aQ7 bsq bsq
def aQC:FT:=lH aWP
def bbx:=np aQC aWP
def bie(i:aRV):eu:=
 bif Q (i.op=1)||(Q (i.op=6)||(Q (i.op=10)||Q (i.op=27))) then[i.a]
 else bif Q (i.op=2)||Q (i.op=3) then[i.a,i.b]
 else bif Q (i.op=4) then[i.a,i.b,i.k]
 else bif Q (i.op=7) then[i.a,i.k]
 else bif Q (i.op=8)||Q (i.op=26) then[i.b]
 else bif Q (i.op=9) then[i.b,i.k]
 else[]
attribute[local irreducible] aX
def aRU(l:eu)(r:AV):Prop:=∃t o,r= .l (l.map ci) t o
def rLI{l Y t o}:aE (λr=>aRU l r) Y [.l (l.map ci) t o]=True:=bvx ⟨A,t,o,A⟩
def bd0{Y t o}:aE (λr=>aRU [] r) Y [.l [] t o]=True:=bvx ⟨A,t,o,A⟩
def aXf(i):Ct 210 [.a i.c] (λr=>aRU (bie i) r):=bgV A λf e b d=>by simp only[eS,b,J9];simp only[qz 23,iM,aY,sw];simp only[qz 21,qy 4,aI,au];simp only[bh0,qz 53,iM,aY,sw];simp only[qz 51,qy 6,qy 8,qy 10,aI,au];simp only[bh0,qz 95,iM,aY,sw];simp only[qz 93,qy 12,qy 14,aI,au];simp+contextual (maxSteps:=2000000) only[↓iS,eS,b,J9,a5Y,fi,xA,bie,aNR,aPI,rLI,bd0,J6,I6]
def aRj:FT:=aP7 aXf
def bbX:=aRM aRj aXf (j:=bno)
def aTp:eu:=[3,3,3,3,3,4,4,4,4,4,5,5,5,6,6,6,7,7,7,8,9,10,11,12,13,14,14,15,16,16,17,17,18,18,19,20,1,1,2,21,22,23,23]
def aXF:Ct 200 [] (λr=>aRU aTp r):=bhz λs0 c b=>by have a:∀R,aVS s0 R=aE R s0 [.l (aTp.map ci) U U]:=λR=>a7c;show aVS s0 _;rw[a];exact⟨A,U,U,A⟩
def aUt:FT:=BK aXF
def bcm:=al3 aUt aXF
def aWO(s):Ct 305 [st s] (·= .a (aNK.mk 2 0 s []).c):=by refine aDq (bgr λs0 d i=>?_);refine mo d λj e f=>?_;have b:bM bvA bst [(0,iv 2),(2,st s)]=V (.a [iv 2,iv 0,st s, .l [] U U]):=A;simp only[qz 2,qy 4,b,aY];refine gN f (by rw[e.1,d];decide) A rfl λk h g=>?_;simp only[eS,g,aN,bZ,bhZ,dA,aO1,List.take_succ_cons,CE];exact aQ7 bsq bsq
def aQB:FT:=lH aWO
def bbw:=np aQB aWO
def aXK:eu:=[3,3,4,4,5,6,7,8,9,10,11,12,13,14,15,16,18,19,20,21,22,23,2]
def aPY(o:Int):Int:=bif Q (o<6)||Q (28<o) then 0 else gd aXK (o-6).toNat
def aXv(o):Ct 289 [iv o] (·=iv (aPY o)):=bhn λs0 c b=>by have a:∀R,aVs (iv o) s0 R=aVt (iv o) R (.l (aXK.map ci) U U) s0:=λR=>a7c;show aVs (iv o) s0 _;rw[a];simp+contextual only[aVt,eQ,tf,rk,↓uL];refine⟨(by grind [aPY]),λh=>?_⟩;rw[aPY,h];simp only[cP,yk] at h;rw[eM Z Z];exact⟨⟨Z,by show o-6<23;omega⟩,A⟩
def aUm:FT:=lH aXv
def bcd:=np aUm aXv
def aNF:List bmK:=[⟨1,0,⟨#[120]⟩,0,0,⟨#[]⟩⟩,⟨1,0,⟨#[121]⟩,0,1,⟨#[]⟩⟩,⟨2,0,⟨#[118]⟩,0,0,⟨#[]⟩⟩,⟨1,0,⟨#[113]⟩,2,0,⟨#[]⟩⟩,⟨3,0,⟨#[109]⟩,0,0,⟨#[]⟩⟩,⟨3,0,⟨#[110]⟩,0,0,⟨#[]⟩⟩,⟨4,0,⟨#[114]⟩,0,0,⟨#[]⟩⟩,⟨5,0,⟨#[99]⟩,0,0,⟨#[109]⟩⟩,⟨6,0,⟨#[102]⟩,0,0,⟨#[]⟩⟩]
def aWN:Ct 211 [] (·=sl bmK.c aNF):=by refine aDq (bgk λs0 d b=>?_);have a:∀R,aUG s0 R=aE R s0 [.l (aNF.map bmK.c) U U]:=λR=>a7c;show aUG s0 _;rw[a];exact aQ7 A rfl
def aSd:FT:=BJ aWN
def bbv:=al2 aSd aWN
attribute[local semireducible] aX
def bqS(l:List aP)(t:Int)(j:Nat):Nat:=L ((l.take j).filter λe=>Q<|e.aq=t)
theorem aV8{l}{t:Int}{j:Nat}(h:j<L l):bqS l t (j+1)=bqS l t j+if(gd l j).aq=t then 1 else 0:=by grind [bqS,iJ,aNV,a6G]
theorem a6c{l t j}:bqS l t j<=j:=gl (List.length_filter_le _ _) NA
def aOE(l:List aP)(i:Nat)(t n:Int):Prop:=∃j,j<i/\(gd l j).aq=t/\((gd l j).kind=3\/(gd l j).kind=23)/\(bqS l t j:Int)=n
def aXy(l)(i:Nat)(t:Int)(ns)(u:i<=L l/\L l<1000000/\L ns<4611686018427387904):Ct 127 [sl aP.c l,iv i,iv t,sl ci ns] (λr=>∃b,r=bv b/\(b=U->∀n∈ns,aOE l i t n)):=by obtain⟨y,z,B⟩:=u;refine bhq λs0 E x=>?_;refine bid (L ns) (λk=>∀j,j<k->aOE l i t (gd ns j)) O λk D p=>?_;simp only[qz 19,eQ];refine⟨λh=>?_,λh=>⟨U,A,λ_=>?_⟩⟩;(focus refine yh (λs:Bool×Nat=>[iv<|bqS l t s.2,bv s.1,iv s.2]) 2 i (λs=>s.2<=i/\(s.1=U->aOE l i t (gd ns k))) (I,0) ⟨Z,O⟩ ?_;rintro⟨v,j⟩ ⟨C,F⟩;simp only[qz 67,au,eQ];refine⟨λh=>?_,λh=>⟨O,λd=>?_⟩⟩;(focus have g:=aL h;have f:j<L l:=Z;have e:=aV8 (t:=t) f;have w:=a6c (l:=l) (t:=t) (j:=j);have nx:∀(a b:Bool) (c:Int),c=((bqS l t (j+1):Nat):Int)->(b=U->aOE l i t (gd ns k))->tI (λs:Bool×Nat=>[iv<|bqS l t s.2,bv s.1,iv s.2]) (λs=>s.2<=i/\(s.1=U->aOE l i t (gd ns k))) [iv c,bv b,iv ((j+1:Nat):Int)]/\pM 2 i [iv c,bv b,iv ((j+1:Nat):Int)]<pM 2 i [iv<|bqS l t j,bv a,iv j]:=λa b c p h=>(by subst p;exact wN (enc:=λs:Bool×Nat=>[iv<|bqS l t s.2,bv s.1,iv s.2]) (s:=(a,j)) (s':=(b,j+1)) A rfl rfl g ⟨g,h⟩);(cases v<;>simp+contextual only[qz 89,ix,bh,eQ,rk,J9,jA,jN,qz 87,uO,aNR,aPI]);(all_goals refine⟨dJ f,λd=>?_,λd=>?_⟩;all_goals rw[fX Z]);simp_all;simp at d;rw[hY d] at e;rw[fX Z];refine⟨dJ<|aL ‹_›,λ_=>dJ f,λ_ _=>dJ f,?_⟩;(cases m:Q ((bqS l t j:Int)=gd ns k)<;>cases q:Q ((gd l j).kind=3)<;>simp only[aNR,aPI,qE,xM,ru,qc,fh,kN]);simp_all;simp_all;exact nx _ _ _ (by rw[e]) λo=>⟨j,g,d, .inr (by simpa using o),by simpa using m⟩;exact nx _ _ _ (by rw[e]) λo=>⟨j,g,d, .inl (by simpa using q),by simpa using m⟩;simp_all;simp at d;rw[hY d] at e;rw[fX Z];simp_all);grind [bkg,aL]);grind [ou,aNV,bpL,dge]
def aSi:FT:=ER aXy
def bcg:=axQ aSi aXy (j:=by simp+contextual only[ij,Int.natCast_inj])
section
variable{Q:J3}{Y:ae}{xs:dM}
def bd1:(∀r,isB r->Q r)=∀b,Q (bv b):=be7 ⟨λh b=>h _ ⟨b,A⟩,by rintro h r ⟨b,rfl⟩;exact h b⟩
def a65:(∀r,isI r->Q r)=∀x,Q (iv x):=be7 ⟨λh b=>h _ ⟨b,A⟩,by rintro h r ⟨b,rfl⟩;exact h b⟩
def bCc:(∀r,aWE r->Q r)=∀x b,Q (.t [iv x,bv b]):=be7 ⟨λh x b=>h _ ⟨x,b,A⟩,by rintro h r ⟨x,b,rfl⟩;exact h x b⟩
def bd4:(∀r,aQ1 r->Q r)=∀x y,Q (.t [iv x,iv y]):=be7 ⟨λh x b=>h _ ⟨x,b,A⟩,by rintro h r ⟨x,b,rfl⟩;exact h x b⟩
def bdO{v w}:lo Y xs (.t [.s v, .s w])=True:=by simp[lo,uN,btE,wD]
def bBH{α}[Nonempty α]{b}{P:α->Prop}{f:α->AV}{K}:gB b (λk=>∀x,P x->k (f x)) K=∀x,(b=U->P x)->K (gv b<|f x):=by(cases b);exact be7 ⟨λh x _=>h,λh=>h (Classical.choice ‹_›)<|λh=>by cases h⟩;exact be7 ⟨λh x a=>h x<|a A,λh x a=>h x<|λ_=>a⟩
def bBK{α}[Nonempty α]{b S}{P:α->Prop}{f:α->AV}{K}:gB b (λk=>S/\∀x,P x->k (f x)) K=((b=U->S)/\∀x,(b=U->P x)->K (gv b<|f x)):=by(cases b);exact be7 ⟨λh=>⟨(λh=>by cases h),λx _=>h⟩,λh=>h.2 (Classical.choice ‹_›)<|λh=>by cases h⟩;exact be7 ⟨λh=>⟨λ_=>h.1,λx a=>h.2 x<|a A⟩,λh=>⟨h.1 A,λx a=>h.2 x<|λ_=>a⟩⟩
def bcB{α}[Nonempty α]{b}{f:α->AV}{K}:gB b (λk=>∀x,k<|f x) K=∀x,K (gv b<|f x):=by(cases b);exact be7 ⟨λh x=>h,λh=>h<|Classical.choice ‹_›⟩;rfl
def bcD{α}[Nonempty α]{b S}{f:α->AV}{K}:gB b (λk=>S/\∀x,k<|f x) K=((b=U->S)/\∀x,K<|gv b<|f x):=by(cases b);exact be7 ⟨λh=>⟨(λh=>by cases h),λx=>h⟩,λh=>h.2<|Classical.choice ‹_›⟩;simp[gB,gv]
def bcC{b}{f:Bool->AV}{K}:gB b (λk=>∀x,k<|f x) K=∀x,K (gv b<|f x):=bcB
def bcE{b S}{f:Bool->AV}{K}:gB b (λk=>S/\∀x,k<|f x) K=((b=U->S)/\∀x,K<|gv b<|f x):=bcD
def bBG{b}{f:Int->AV}{K}:gB b (λk=>∀x,k<|f x) K=∀x,K (gv b<|f x):=bcB
def bBJ{b S}{f:Int->AV}{K}:gB b (λk=>S/\∀x,k<|f x) K=((b=U->S)/\∀x,K<|gv b<|f x):=bcD
def bBI{b}{P:Int->Prop}{f:Int->AV}{K}:gB b (λk=>∀x,P x->k (f x)) K=∀x,(b=U->P x)->K (gv b<|f x):=bBH
def bBL{b S}{P:Int->Prop}{f:Int->AV}{K}:gB b (λk=>S/\∀x,P x->k (f x)) K=((b=U->S)/\∀x,(b=U->P x)->K (gv b<|f x)):=bBK
def rg:=ai @bcC<|ai @bcE<|ai @bBG<|ai @bBJ<|ai @bBI<|@bBL
def rr:=ai @bd1<|ai @a65<|ai @bCc<|ai @bd4<|ai @bdO<|ai @AL<|ai @oJ<|ai @pG<|ai @bdJ<|@bd7
end
def a6n{a}{p:Int->Prop}:(∃k,iv a=iv k/\p k)=p a:=O
def aRB{a b:ByteArray}:bc4 .neq 0 [] (st a) (st b)=V (bv<|Q<|a≠b):=by have h:=@alq a b;simp only[bc4,zP,df,aOe,AV.s.injEq,Value.bool.injEq] at h;simp only[bc4,zP,df,h,decide_not]
def a7w:dO:=(331,aOT)::(317,aSe)::(287,aSf)::(263,aN3)::(272,aQE)::(327,aQD)::(295,aPO)::(296,aP9)::(319,aSh)::(338,aTZ)::(323,aOi)::(326,aOS)::(333,aT2)::(214,aQC)::(210,aRj)::(200,aUt)::(305,aQB)::(289,aUm)::(211,aSd)::(127,aSi)::apB
def aOh:eJ a7w:=asq (nH aXc) (asq (aYm aXa)<|asq (nH aXg)<|asq (nI aXk)<|asq (aN0 aXm)<|asq (aCb aXd)<|asq (aCb aWX)<|asq (aCb aW2)<|asq (aR6 aXp)<|asq (aR6 aWQ)<|asq (nI aW6)<|asq (nH aW5)<|asq (aR6 aWU<|λ_=>by simp only[Cs,aqG,aOW,Bool.and_self])<|asq (nH aWP)<|asq (aR6 aXf)<|asq (bF4 aXF)<|asq (nH aWO)<|asq (nH aXv)<|asq (apM aWN)<|asq (aM6 aXy)<|Rj)
def aOX:=ai @bbU<|ai @bbS<|ai @bbY<|ai @bb2<|ai @bb4<|ai @bbV<|ai @bbF<|ai @bbK<|ai @bb7<|ai @bby<|ai @bbO<|ai @bbN<|ai @bbC<|ai @bbx<|ai @bbX<|ai @bcm<|ai @bbw<|ai @bcd<|ai @bbv<|ai @bcg<|@amo
section
attribute[local irreducible] aX
def a9j:=I9 8 []
def bgR{a a1}:=y0 aOh func318 a9j [a,a1]
def a9h:=I9 36 []
def bgP{a a1 b}:=y0 aOh func320 a9h [a,a1,b]
def bgZ{c0 a1 b}:=y1 34 6 3 aOh func286 at1 c0 [.a c0,a1,b]
def a9B:=I9 15 [(3,([1,5],[0])),(6,([1],[0,5]))]
def bg8{a a1}:=y0 aOh func262 a9B [a,a1]
def a9P:=I9 18 [(3,([7],[2,3,6])),(10,([40],[2]))]
def bho{c0 b}:=y2 290 6 2 277 4 3 aOh func290 a9P c0 b [.a c0, .a b]
def bgz{c0}:=y1 347 6 1 aOh func293 a9j c0 [.a c0]
def a85:=I9 26 [(20,([56],[3,7]))]
def bgD{c0 a1 b}:=y1 217 2 3 aOh func334 a85 c0 [.a c0,a1,b]
def a89:=I9 33 [(4,([4,5,6,7,8],[0])),(7,([4,5,6,7],[0,8])),(15,([4,5,6,7],[0,8,9])),(17,([39],[0,4,5,6,7,8,9,36])),(19,([47],[0,4,5,6,7,8,9,36]))]
def bgH{a}:=y0 aOh func268 a89 [a]
def a9d:=I9 29 [(3,([4],[1])),(12,([6],[1])),(21,([8],[1,6,7]))]
def bgL{c0}:=y1 217 2 1 aOh func269 a9d c0 [.a c0]
def a8H:=I9 9 [(4,([3,4],[0]))]
def bgd{a}:=y0 aOh func62 a8H [a]
def bgi{c b}:=y1 298 4 3 aOh func213 at1 b [c, .a b]
def bgj{d b c}:=y2 298 4 4 298 4 5 aOh func304 at1 b c [d, .a b, .a c]
def a94:=I9 11 [(4,([3,10],[8,9])),(7,([3],[8,9,10]))]
def bhE{c0}:=y1 42 7 1 aOh func260 a94 c0 [.a c0]
end
def a5C{a b}:mL (bv U) a b=V a:=rfl
def a7i{a b}:mL (bv I) a b=V b:=rfl
def aXX{P:Int->Prop}{Q:J3}:(∀r,(∃k:Int,r=iv k/\P k)->Q r)=∀k,P k->Q (iv k):=X
def bd8{a b c d e f g h i j k}:aN (V 11) [a,b,c,d,e,f,g,h,i,j,k]=V (.a [a,b,c,d,e,f,g,h,i,j,k]):=rfl
def rkx{s}:aN (V 3) (aoC.c s)=V (.a<|aoC.c s):=rfl
def aXb(o a):Ct 318 [iv o,iv a] (λr=>aWE r):=bgR λs0 c b=>by simp+contextual only[eQ,aEn,aOX,ar,a6D,QV,J6,I6]
def aUb:FT:=aRd aXb
def bbT:=aWg aUb aXb
def aW9(o a b):Ct 320 [iv o,iv a,iv b] (λr=>aWE r):=bgP λs0 d c=>by simp+contextual only[eQ,aPR,a5N,aP1,aOX,ar,a6D,QV,J6,I6,aQd,yk,rn,bsC,not_false_iff]
def aUa:FT:=aSb aW9
def bbR:=a6o aUa aW9
def aXj(w:aOw)(b n):Ct 286 [.a w.c,iv b,iv n] (λr=>isB r):=bgZ A λg f d e=>by simp+contextual only[eT,d,ix,ar,aOX,DR,aNP];grind [dX]
def aSg:FT:=aSb aXj
def bb1:=a6o aSg aXj
def aXl(l)(a:Int)(n:L l<1000000):Ct 262 [sl aRV.c l,iv a] (λr=>isB r):=bg8 λs0 m i=>by have nx:∀(a b:Int) (k:Nat),k<L l+1->tI (λs:Int×Nat=>[iv s.1,iv s.2]) (λs=>s.2<=L l+1) [iv b,iv ((k+1:Nat):Int)]/\pM 1 (L l+1) [iv b,iv ((k+1:Nat):Int)]<pM 1 (L l+1) [iv a,iv k]:=λa b k e=>wN (enc:=λs:Int×Nat=>[iv s.1,iv s.2]) (s:=(a,k)) (s':=(b,k+1)) A rfl rfl e e;refine yh (λs:Int×Nat=>[iv s.1,iv s.2]) 1 (L l+1) (λs=>s.2<=L l+1) (a,0) O ?_;rintro⟨f,k⟩ e;simp+contextual only[qz 39,qz 41,qz 19,bh0,au,eQ,ixv,rk,J9,ar,aOX,aNP,J6,aQd,rr];intro j h;have g:k<L l+1:=X;have d:aF (L l) f:=(by simp at h;exact⟨Z,Z⟩);rw[fX Z];exact⟨d,λ_=>⟨d,λ_=>⟨d,nx _ _ _ g⟩,λ_=>nx _ _ _ g⟩⟩
def aUe:FT:=pn aXl
def bb3:=f211 aUe aXl (j:=bno)
def a8e(i:aRV)(s:bim):Prop:=i.op=7\/i.op=9->aF (L s.aO6) i.k
def aXw(i)(s)(b:a8e i s):Ct 290 [.a i.c, .a s.c] (λr=>isI r):=bho A rfl λj g d e f=>by simp+contextual only[qz 63,qz 65,qz 21,qz 23,bh0,au,eT,d,e,ix,J9,ar,aOX,aPG,J6,I6,aQd,rr];simp only[rn,yk,sr,awG,J6,ni];exactλ_ _=>⟨λh=>b<|.inl h,λ_ h=>b<|.inr h⟩
def aUn:FT:=pn aXw
def bce:=f211 aUn aXw (j:=bno)
def aWV(d:bmK):Ct 293 [.a d.c] (λr=>isB r):=bgz A λg f b e=>by simp+contextual only[eS,b,J9,ar,aOX,aRB,aNP,J6,I6]
def aT3:FT:=aP7 aWV
def bbD:=aRM aT3 aWV (j:=bno)
def slc{Y K}{i:Int}{l}:rV (fo 1 Y (sl cs l) J (V<|iv i) J) K=((0<=i/\i<=L l)/\K (sl cs<|l.take i.toNat)):=aIk λ_=>A
def aWZ(p)(t)(s)(e:PrB p):Ct 334 [.a p.c,iv t,st s] (λr=>∃k,r=iv k/\(k=5->0<=aOB p.brP s)):=by obtain⟨g,j,l⟩:=e;refine bgD A λo m b f=>?_;have d:=aTb (p:=λi=>Q<|(gd p.brP i).name=s) (n:=L p.brP);have:∀t:Int,L (gd p.ay t.toNat).locs<4611686018427387904:=λt=>(by by_cases h:t.toNat<L p.ay;grind [dB];rw[gd,List.getD_eq_getElem?_getD,List.getElem?_eq_none Z];decide);rw[<-aOB] at d;simp+contextual only[qz 123,qz 125,bh0,au,eT,b,ixv,J9,ar,aOX,a6n];simp only[aF];(try simp only[rn,yk,bN,bik,aNS,bsC]);grind
def aT5:FT:=vn aWZ
def bbH:=zZ aT5 aWZ (j:=bno)
def aW3(l)(P:L l<1000):Ct 268 [sl bmK.c l] (λr=>aQ1 r):=by
 refine bgH λs0 E M=>?_
 refine jD (α:=Int×Int×Int×Int) (λs i=>[iv s.1,iv s.2.1,iv s.2.2.1,iv s.2.2.2,iv i]) 4 (L l) (λ_ _ Y=>L Y=4096) (s0:=(0,0,0,0)) E ?_
 rintro k ⟨a,b,c,d⟩ Y N e
 have nx:∀(x y z u:Int) Y',L Y'=4096->k<L l->yI (λ(s:Int×Int×Int×Int) i=>[iv s.1,iv s.2.1,iv s.2.2.1,iv s.2.2.2,iv i]) (L l) (λ_ _ Y=>L Y=4096) [iv x,iv y,iv z,iv u,iv<|dq.wrap<|(k:Int)+1] Y'/\gM 4 (L l) [iv x,iv y,iv z,iv u,iv<|dq.wrap<|(k:Int)+1] Y'<gM 4 (L l) [iv a,iv b,iv c,iv d,iv k] Y:=λx y z u Y' m g=>
  dR (mk:=λ(s:Int×Int×Int×Int) i=>[iv s.1,iv s.2.1,iv s.2.2.1,iv s.2.2.2,iv i]) (s:=(a,b,c,d)) (s':=(x,y,z,u)) (λ_ _=>A) g Z m
 have t:∀{Y:ae} {K:J3} {i:Int},rV (fo 6 Y (sl bmK.c l) J (V<|iv i) J) K=((0<=i/\i<=L l)/\K (sl bmK.c<|l.take i.toNat)):=aIk λ_=>A
 simp only[qz 25,au,eQ,aO2,rr,J6,aQd,qz 47,qy 2,ixv,bh,J9]
 intro h
 have f:=aL h
 refine⟨dJ f,anu e λv G w F B=>?_⟩
 have o:=w.len.trans e
 have j:(0:Int)<=k/\(k:Int)<=L l:=Z
 have D:=aTb (p:=λi=>Q<|(gd (l.take k) i).name=(gd l k).on) (n:=L<|l.take k)
 have q:L (l.take k)<4611686018427387904:=NA
 have C:Q (aOB (l.take k) (gd l k).on<0)=I->aF (L l) (aOB (l.take k) (gd l k).on):=λh=>by
  simp only[yk] at h
  have:L (l.take k)<=L l:=by simp only[List.length_take];omega
  exact⟨Z,by have:=D.2;rw[aOB];omega⟩
 simp+contextual only[t,bh,eT,B,J9,ar,aOX,rr,aO2,J6,aQd,qz 45,qz 93,qz 117,qz 119,qz 105,qz 107,qz 95,qz 4,j,ixv,C,nx,f,o,q,aRW,I6]
def aT7:FT:=om aW3
def bbL:=aUy aT7 aW3 (j:=bno)
def aW7(p)(C:PrB p):Ct 269 [.a p.c] (λr=>aQ1 r):=bgL A λm t o D=>by obtain⟨E,G,y⟩:=C;have w:∀{Y:ae} {K:J3} {i:Int},rV (fo 4 Y (sl bj9.c p.ay) J (V<|iv i) J) K=((0<=i/\i<=L p.ay)/\K (sl bj9.c<|p.ay.take i.toNat)):=aIk λ_=>A;refine yV (L p.ay) (λ_ _ Y=>Fx m Y []) (Fx.refl _ _) ?_;rintro k _ Y B F;have e:=F.kq o;have f:=F.len.trans t;simp only[qz 19,qy 4,au,eT,e,J9,ixv,bh];refine⟨λh=>⟨vp h,anu f λv n d x g=>?_⟩,λh=>?_⟩;have b:=aL h;have l:=d.kq e;have q:(0:Int)<=k/\(k:Int)<=L p.ay:=Z;have u:L (p.ay.take k)<4611686018427387904:=NA;have nx:=dR (mk:=λ(_:Unit) i=>[iv i]) (p:=0) (s:=()) (s':=()) (Inv:=λ_ _ Y=>Fx m Y []) (Y:=Y) (Y':=n) (λ_ _=>A) b Z<|F.trans d;simp+contextual only[qz 6,w,bh,eS,l,g,J9,ar,aOX,rr,aO2,J6,aQd,q,u,nx];omega;refine yV (L p.ay) (λ_ _ Y=>Fx m Y []) F ?_;rintro k _ Y B F;have e:=F.kq o;have f:=F.len.trans t;simp only[qz 73,qy 8,au,eT,e,J9,ixv,bh,rr,aO2,J6,aQd];refineλh=>⟨vp h,anu f λv n d x g=>?_⟩;have b:=aL h;have l:=d.kq e;simp+contextual only[qz 10,eS,g,J9,rr,aO2,J6,ni];intro M;have:=y _<|dB b;refine bid (L (gd p.ay k).locs) (λ_=>True) trivial λj N _=>?_;simp+contextual only[qz 127,au,eT,l,g,J9,ix,bh,ar,aOX,rr,aO2,J6,slc];refine⟨λz=>?_,λz=>dR (mk:=λ(_:Unit) i=>[iv i]) (s:=()) (s':=()) (λ_ _=>A) b Z<|F.trans d⟩;grind [aL,dJ,bkg]
def aT9:FT:=om aW7
def bbP:=aUy aT9 aW7 (j:=bno)
def cu(x:Int):dM:=[.s<|.int .u8 x]
def a6E{Y K}{i:Int}{l}:rV (cz 1 Y (sl cu l)<|iv i) K=(aF (L l) i/\K (.q<|cu<|gd l i.toNat)):=aBz λ_=>A
theorem bcP{x y:Int}:(cu x=cu y)=(x=y):=by simp[cu]
def aQZ{l l'}:(sl cu l=sl cu l')=(l=l'):=(by grind [kL,bcP])
def aWH(l)(t:L l<1000):Ct 62 [sl cu l] (λr=>∃cs:List ot,r=sl ot.c cs/\L cs=L l):=by refine aDq (bgd λs0 n o=>?_);refine jD (α:=AV) (λa i=>[a,iv i]) 1 (L l) (λk a Y=>L Y=4096/\∃cs:List ot,L cs=k/\gi Y 113 2 a (cs.map ot.c)) (s0:= .l [] U U) ⟨n,[],A,gi.nil⟩ ?_;rintro k a Y q ⟨b,cs,m,d⟩;simp+contextual only[qz 25,qy 2,au,eQ,a6E,bh,cu,qM,aS6,aPR,a5N,aP1];refine⟨λh=>⟨vp h,H,vp h,H,H,?_⟩,λh=>?_⟩;generalize(dq.wrap<|gd l k).tmod 4=x;generalize dq.wrap ((dq.wrap<|(dq.wrap<|gd l k).tdiv 4).tmod 5-1)=y;have e:bM bcI bqW [(0,iv x),(1,iv y)]=V (.a<|ot.c ⟨x,y⟩):=A;have f:aX bjw 1 Y [(0, .a<|ot.c ⟨x,y⟩)]=V (.l ([(⟨x,y⟩:ot)].map ot.c) U U,Y):=ua A rfl rfl H A H;simp only[e,f,aY,bQ];refine apQ d.p b (by grind [ot.c]) (by grind [ot.c]) O NA λj Y' g F N=>?_;refine dT (by first|rfl|(simp[eL,okT,tok,lb,cq,Qh,aNG,dC,pP,dK];done)) ?_;simp only[eQ];refine dR (mk:=λa i=>[a,iv i]) (s:=a) (s':=j) (λ_ _=>A) (aL h) Z ⟨F.len.trans b,cs++[⟨x,y⟩],by simp[m],FA⟩;exact aOv (Q:=λr=>∃cs:List ot,r=sl ot.c cs/\L cs=L l) (aWs d.p) (by simp[iX,eN]) ⟨cs,A,X⟩
def aTT:FT:=om aWH
def bvf{p:Prop}(h:p:=by simp+contextual only[Go.Ab.ij,Go.Ab.aQZ]):p:=h
def bbp:=aUy aTT aWH (j:=bvf)
def aWL(s)(e):Ct 213 [st s, .a e.c] (·= .a (amt.mk 1 0 s ⟨#[]⟩ [] e [] []).c):=by refine aDq (bgi aN9 λp j f o=>?_);refine pz j λv q d m g=>?_;have i:=d.kq f;have b:bM bsW alz [(0,iv 1),(2,st s),(5, .a e.c)]=V (.a [iv 1,iv 0,st s,sv [], .l [] U U,iv e.op,iv e.n,st e.name,sl aNK.c e.l, .l [] U U, .l [] U U]):=bsq;simp only[qz 4,qy 6,eQ,i,J9,b];refine yv g A rfl λr k h=>?_;simp only[eQ,h,bd8];exact aQ7 bsd bsd
def aPN:FT:=bsk aWL
def bbt:=f200 aPN aWL (j:=bno)
def aWM(o)(a b):Ct 304 [iv o, .a a.c, .a b.c] (·= .a (aNK.mk o 0 ⟨#[]⟩ [a,b]).c):=by refine aDq (bgj aN9 aN9 λt p h i s=>?_);refine pz p λv g d r j=>?_;have m:=d.kq h;have n:=d.kq i;have f:aX bvY 2 g [(0, .a a.c),(1, .a b.c)]=V (.l [a.c,b.c] U U,g):=(by rw[aoH (x:=a),aoH (x:=b)];kernel_rfl);simp only[qz 6,eQ,m,n,J9,f];have e:bM bvA bst [(0,iv o),(3, .l [a.c,b.c] U U)]=V (.a [iv o,iv 0,sv [], .l [a.c,b.c] U U]):=A;simp only[qz 8,qy 10,e,aY];refine yv j A rfl λu q k=>?_;simp only[eQ,k,uS];exact aQ7 (by rw[aoH (x:= .mk o 0 ⟨#[]⟩ [a,b])];rfl) (by rw[aoH (x:= .mk o 0 ⟨#[]⟩ [a,b])];rfl)
def aRg:FT:=buC aWM
def bbu:=KP aRg aWM (j:=bno)
def aXG(s:aTo)(E:L s.cw.ay<1000):Ct 260 [.a s.c] (λr=>∃l:eu,r=sl ci l/\L l<=L s.cw.ay):=by refine aDq (bhE A λj w o B=>?_);simp only[eT,o];refine jD (α:=AV) (λa i=>[a,iv i]) 1 (L s.cw.ay) (λk a Y=>Fx j Y []/\∃l:eu,L l<=k/\gi Y 3 1 a (l.map ci)/\∀q∈aA a,bK j q) (s0:= .l [] U U) ⟨Fx.refl _ _,[],O,gi.nil,aBY⟩ ?_;rintro k a Y D ⟨F,l,C,f,u⟩;have d:=F.len.trans w;simp only[qz 25,au,eQ,qz 47,qy 4,ix,bh,rkx,rr];refine⟨λh=>⟨vp h,anu d λv z b y t=>?_⟩,λh=>?_⟩;have e:=aL h;have:=b.len.trans d;simp+contextual only[qz 6,qy 8,qy 10,eT,t,a5Y,qz 45];refine⟨λ_=>?_,λ_=>dR (mk:=λa i=>[a,iv i]) (s:=a) (s':=a) (λ_ _=>A) e Z ⟨F.trans b,l,Z,f.fx b O,u⟩⟩;refine qs (f.fx b O).p A H Z pU pU O NA λn Y' g m x=>?_;refine dR (mk:=λa i=>[a,iv i]) (s:=a) (s':=n) (λ_ _=>A) e Z ⟨((F.trans b).trans m).mono λq G=> .inr ?_,l++[(k:Int)],NA,FA,brE⟩;grind [bK.no];exact aOv (Q:=λr=>∃l:eu,r=sl ci l/\L l<=L s.cw.ay) (aWs f.p) (by simp[iX,eN]) ⟨l,A,Z⟩
def aSk:FT:=om aXG
def bcn:=aUy aSk aXG
def a7x:dO:=(318,aUb)::(320,aUa)::(286,aSg)::(262,aUe)::(290,aUn)::(293,aT3)::(334,aT5)::(268,aT7)::(269,aT9)::(62,aTT)::(213,aPN)::(304,aRg)::(260,aSk)::a7w
def aNH:eJ a7x:=asq (aYm aXb) (asq (a7W aW9)<|asq (a7W aXj)<|asq (aN0 aXl)<|asq (aN0 aXw)<|asq (aR6 aWV)<|asq (By aWZ)<|asq (rj aW3)<|asq (rj aW7)<|asq (rj aWH)<|asq (nI aWL<|λ_ _=>by simp only[Cs,aqG,aOW,Bool.and_self])<|asq (Rs aWM<|λ_ _ _=>by simp only[Cs,aqG,aOW,Bool.and_self])<|asq (rj aXG)<|aOh)
def aD6:=ai @bbT<|ai @bbR<|ai @bb1<|ai @bb3<|ai @bce<|ai @bbD<|ai @bbH<|ai @bbL<|ai @bbP<|ai @bbp<|ai @bbt<|ai @bbu<|ai @bcn<|@aOX
section
attribute[local irreducible] aX
def bgO{c0 a1 b c d}:=y1 217 2 5 aNH func324 a8V c0 [.a c0,a1,b,c,d]
def a86:=I9 10 [(4,([4,5,6],[1]))]
def bgE{c0}:=y1 298 4 1 aNH func335 a86 c0 [.a c0]
def bgA{a}:=y0 aNH func270 a8H [a]
def a8X:=I9 14 [(7,([4],[1]))]
def bgv{c0}:=y1 298 4 1 aNH func332 a8X c0 [.a c0]
def a9D:=I9 35 [(11,([59],[2,3,6])),(14,([78],[2,3,6])),(19,([98],[2,3,6])),(23,([108],[2,3,6]))]
def bha{c0 b}:=y2 34 6 2 290 6 3 aNH func261 a9D c0 b [.a c0, .a b]
end
def aW8(p)(t)(s)(a b)(e:PrB p):Ct 324 [.a p.c,iv t,st s,iv a,iv b] (λr=>∃k,r=iv k/\(k=0->a=5->b=5->0<=aOB p.brP s)):=bgO A λh g d f=>by simp+contextual only[eQ,d,J9,ar,Fa,aD6,e,aXX,a6n];grind
def aOd:FT:=aTQ aW8
def bbQ:=bbn aOd aW8 (j:=bno)
def aW0(e)(f:∃n,shE n e):Ct 335 [.a e.c] (λr=>aQ1 r):=by obtain⟨n,f⟩:=f;induction n generalizing e with|zero=>exact f.elim|succ n i=>have:=f.len;refine bgE aN9 λo m g j=>?_;refine yh (λs:Int×Int×Nat=>[iv s.1,iv s.2.1,iv s.2.2]) 2 (L e.l) (λ_=>True) (1,0,0) trivial ?_;rintro⟨a,b,k⟩ _;simp only[qz 25,au,eS,g,J9,ixv,bh,rr,jM,kU,jt,Fa,aO2,J6,aQd];intro h;have d:=aL h;refine⟨dJ d,aPW (i _<|f.2 _<|dB d) (aV2 a6h) ?_⟩;rintro r ⟨x,y,rfl⟩;simp only[eQ,rr,aRW,ni];exact wN (enc:=λs:Int×Int×Nat=>[iv s.1,iv s.2.1,iv s.2.2]) (s:=(a,b,k)) (s':=(_,_,k+1)) (by rw[fX Z]) A rfl d trivial
def aT6:FT:=om aW0
def bbI:=aUy aT6 aW0 (j:=bno)
def aWW(l)(d:∃n,shL n 8 l):Ct 270 [sl amt.c l] (λr=>isI r):=by obtain⟨n,d⟩:=d;induction n using Nat.strongRecOn generalizing l with|ind n f=>obtain⟨j,g⟩:=d;refine bgA λs0 o i=>?_;simp only[eQ];refine yh (λs:Int×Nat=>[iv s.1,iv s.2]) 1 (L l) (λ_=>True) (L l,0) trivial ?_;rintro⟨a,k⟩ _;simp only[qz 25,au,eQ,ixv,rr,J9,bh,jM,kU,jt,alg,aPG,J6,aQd];intro h;have b:=aL h;obtain⟨m,rfl,g1,e⟩:=(g _<|dB b).body;refine⟨dJ b,aPW (f m Z _ ⟨by have:=g1.1;omega,g1.2⟩) A ?_⟩;rintro r ⟨x,rfl⟩;simp only[eQ,AL,ni];refine⟨dJ b,aPW (f m Z _ ⟨by have:=e.1;omega,e.2⟩) A ?_⟩;rintro r ⟨y,rfl⟩;simp only[eQ,AL,ni];exact wN (enc:=λs:Int×Nat=>[iv s.1,iv s.2]) (s:=(a,k)) (s':=(_,k+1)) (by rw[fX Z]) A rfl b trivial
def aT4:FT:=om aWW
def bbE:=aUy aT4 aWW (j:=bno)
def aWS(e)(f:∃n,shE n e):Ct 332 [.a e.c] (λr=>isB r):=by obtain⟨n,f⟩:=f;induction n generalizing e with|zero=>exact f.elim|succ n o=>have:=f.len;refine bgv aN9 λt s g p=>?_;dsimp only;generalize m:@qp _ 43 ⟨_⟩=Lw;have d:lR [iv 0] Lw:=(by rw[<-m];refine bid (L e.l) (λ_=>True) trivial λk q _=>?_;simp only[qz 43,au,eS,g,J9,ixv,bh,rr,jM,kU,jt,Fa,aNP,J6,aQd];intro h;have i:=aL h;refine⟨dJ i,aPW (o _<|f.2 _<|dB i) (aV2 a6h) ?_⟩;rintro r ⟨x,rfl⟩;simp only[eQ,AL,ni,J6];grind [bkg]);have b:e.op=2\/e.op=3\/(e.op≠2/\e.op≠3):=Z;rcases b with b|b|⟨j,b⟩;simp+contextual only[eS,g,J9,ar,aD6,rr,aRB,aNP,J6,b,boV,d,a5C,Bool.and_self,↓jN];simp+contextual only[eS,g,J9,ar,aD6,rr,aRB,aNP,J6,b,boV,bmL,wY,d,Int.reduceEq,a5C,Bool.and_self,↓jA];simp+contextual only[eS,g,J9,ar,aD6,rr,aRB,aNP,J6,j,b,bmL,d,a7i,Bool.and_self,↓jA,↓jN]
def aRh:FT:=om aWS
def bbA:=aUy aRh aWS (j:=bno)
def aXn(w:aOw)(i:aRV):Ct 261 [.a w.c, .a i.c] (λr=>isB r):=bha A rfl λg f b d e=>by simp+contextual (maxSteps:=2000000) only[qz 141,qz 143,qz 117,qz 119,qz 87,qz 89,qz 69,qz 71,bh0,au,eT,b,d,ix,J9,ar,aD6,rr,aNP,DR,J6,I6];(try simp only[rn,yk,bN,bik,aNS,bsC]);(repeat' (first|apply ai|intro _));all_goals first|omega|trivial
def aUf:FT:=aRd aXn
def bb5:=aWg aUf aXn (j:=bno)
def a7y:dO:=(324,aOd)::(335,aT6)::(270,aT4)::(332,aRh)::(261,aUf)::a7x
def aR1:eJ a7y:=asq (bhJ aW8) (asq (rj aW0<|λ_=>by simp only[Cs,aqG,aOW,Bool.and_self])<|asq (rj aWW<|λ_=>by simp only[Cs,aqG,aOW,Bool.and_self])<|asq (rj aWS<|λ_=>by simp only[Cs,aqG,aOW,Bool.and_self])<|asq (aYm aXn)<|aNH)
def aRO:=ai @bbQ<|ai @bbI<|ai @bbE<|ai @bbA<|ai @bb5<|@aD6
section
attribute[local irreducible] aX
def a9a:=I9 13 [(2,([7],[1,3,5])),(8,([7,8],[1,3,5]))]
def bgI{c0 a1 b}:=y2 217 2 3 298 4 5 aR1 func336 a9a c0 b [.a c0,a1, .a b]
def a8Y:=I9 23 []
def bgw{c0}:=y1 300 11 1 aR1 func321 a8Y c0 [.a c0]
def a8Z:=I9 10 [(3,([3],[0]))]
def bgx{a}:=y0 aR1 func294 a8Z [a]
def a9F:=I9 30 [(7,([8],[1,3,5,7])),(23,([11],[1,3,5,7,8,10]))]
def bhb{c0 a1 b}:=y2 34 6 3 273 2 5 aR1 func204 a9F c0 b [.a c0,a1, .a b]
end
def aW4(p)(t)(e)(d:PrB p/\∃n,shE n e):Ct 336 [.a p.c,iv t, .a e.c] (λr=>isI r):=by obtain⟨j,n,d⟩:=d;induction n generalizing e with|zero=>exact d.elim|succ n o=>have:=d.len;refine bgI A aN9 λv u g i q=>?_;dsimp only;generalize m:@qp _ 49 ⟨_⟩=Lw;have f:∀x:Int,lR [iv x,iv 0] Lw:=(λx=>by rw[<-m];refine yh (λs:Int×Nat=>[iv s.1,iv s.2]) 1 (L e.l) (λ_=>True) (x,0) trivial ?_;rintro⟨a,k⟩ _;simp+contextual only[qz 49,au,eS,g,i,J9,ixv,bh,rr,jM,kU,jt,Fa,aPG,tW,J6,aQd];intro h;have b:k<L e.l:=FA;refine⟨dJ b,aPW (o _<|d.2 _<|dB b) (by simp only[Cs,aqG,aOW,Bool.and_self]) ?_⟩;rintro r ⟨y,rfl⟩;simp only[AL,ni];exact wN (enc:=λs:Int×Nat=>[iv s.1,iv s.2]) (s:=(a,k)) (s':=(y,k+1)) (by grind [fX]) A rfl b trivial);simp+contextual only[bh0,qz 17,qz 15,au,eS,g,i,J9,aRO,j,aXX,ar,Fa,f,J6,I6]
def aT8:FT:=vn aW4
def bbM:=zZ aT8 aW4 (j:=bno)
def aX1(n:Nat)(h:∀s,shS n s->Ct 321 [.a s.c] isB)(l)(i:L l<=8)(hs:∀s∈l,shS n s):Ct 294 [sl amt.c l] isB:=bgx λs0 e f=>bid (L l) (λ_=>True) trivial λk g _=>by simp only[qz 19,au,eQ,ixv,bh,rr,J9,jM,kU,jt,Fa,aNP,J6,aQd];intro d;have b:=aL d;refine⟨dJ b,aPW (h _<|hs _<|dB b) (aV2 aS7) ?_⟩;rintro r ⟨x,rfl⟩;simp only[eQ,AL,ni,J6];grind [bkg]
set_option maxHeartbeats 8000000 in
def a7f:∀(n:Nat) (s:amt),shS n s->Ct 321 [.a s.c] isB:=λn=>by induction n with|zero=>intro s h;exact h.elim|succ n o=>intro s l;have B:=l.at;obtain⟨m,D,g1,q⟩:=l.body;obtain rfl:n=m:=Z;refine bgw brR λd C f z=>?_;have hI:Q ((L s.index:Int)=1)=U->∃n,shE n (gd s.index 0):=bs5;have u:s.op=1\/s.op=2\/s.op=3\/s.op=14->∃n,shE n s.expr:=X;have k:fW (cX 294) [sl amt.c s.body] (lo d [sl amt.c s.body]) (λb=>gR (gP U b) (λg=>g<|AV.p (1,1) 0 10) λt=>gR (gP U b) (λg=>rV (sA J d t) λv=>g v) λe=>gR (gP U b) (λg=>fW (cX 294) [dG d e] (lo d [e]) λv=>g v) λi=>rV (mL b i<|bv I) λj=>aE isB d [j]):=(aPW (aX1 n o _ Z g1.2) A<|by rintro r ⟨x,rfl⟩;(cases x);simp only[eQ,AL,a7i,aNP,jN,ni];simp only[eQ,AL,ni,jA,f,J9,alg,a5C];refine aPW (aX1 n o _ Z q.2) A ?_;rintro r ⟨y,rfl⟩;simp only[AL,u1,aNP,ni]);have cs:(Q (s.op<1)||Q (15<s.op))=U\/s.op=1\/s.op=2\/s.op=3\/s.op=4\/s.op=5\/s.op=6\/s.op=7\/s.op=8\/s.op=9\/s.op=10\/s.op=11\/s.op=12\/s.op=13\/s.op=14\/s.op=15:=X;rcases cs with h|h|h|h|h|h|h|h|h|h|h|h|h|h|h|h;simp+contextual only[eS,f,J9,h,aNP,↓iC];trace_state;all_goals(try have w:=u Z);simp+contextual only[eT,f,J9,ar,Fa,aRO,rr,rg,ixv,Gx,aRB,aNP,h,k,boV,bmL,Int.reduceLT,Int.reduceEq,Int.reduceLE,bsC,bxg,bDG,a5C,a7i,↓jA,↓jN,Bool.and_self,J6,aQd];(try simp only[aF,rn,yk,bN,Bool.or_eq_true,cP,bik,aNS,eH,fK]);simp_all
def a6L(s)(b:∃n,shS n s):Ct 321 [.a s.c] (λr=>isB r):=by obtain⟨n,b⟩:=b;exact a7f n s b
def a8a:FT:=om a6L
def bzK:=aUy a8a a6L (j:=bno)
def aWT(l)(a:∃n,shL n 8 l):Ct 294 [sl amt.c l] (λr=>isB r):=by obtain⟨n,a⟩:=a;exact aX1 n (a7f n) l a.1 a.2
def aT1:FT:=om aWT
def bbB:=aUy aT1 aWT (j:=bno)
def aYh(c:bqI):Prop:=0<=c.aO6/\c.aO6<=32/\∀k,k<L c.boU->∀j∈bie (gd c.boU k),0<=j/\j<c.aO6
def aTv{P:Bool->Prop}{Q:J3}:(∀r,(∃b:Bool,r=bv b/\P b)->Q r)=∀b,P b->Q (bv b):=X
def aPA{a}{p:Bool->Prop}:(∃k,bv a=bv k/\p k)=p a:=O
def bd5{l}{Q:J3}:(∀r,aRU l r->Q r)=∀t o,Q (.l (l.map ci) t o):=QS
def bdN{Y}{x:aRV}{r}:lo Y [.a x.c] r=True:=by simp[lo,nA,aNN,iR,aRV.c]
def aXo(w:aOw)(t:Int)(c)(K:L c.boU<1000000):Ct 204 [.a w.c,iv t, .a c.c] (λr=>∃b,r=bv b/\(b=U->aYh c)):=bhb A rfl λM G z g S=>by simp+contextual only[eS,g,J9,ar,aPA,eE,awG,J6];intro f;refine yV (L c.boU) (λk _ Y=>Fx M Y []/\∀u,u<k->∀j∈bie (gd c.boU u),0<=j/\j<c.aO6) ⟨Fx.refl _ _,O⟩ ?_;rintro k _ Y hk ⟨F,hI⟩;have p:=F.len.trans G;have C:=F.kq z;have l:=F.kq g;simp only[qz 43,qy 6,au,eT,l,J9,ixv,bh,aPA];refine⟨λh=>⟨vp h,anu p λv R e P B=>?_⟩,λh _=>?_⟩;have q:=aL h;have D:=e.kq C;have m:=e.kq l;simp+contextual only[qz 8,au,eT,D,m,B,ix,J9,ar,Fa,aRO,rr,rg,aPA,bd5,bdN,K,eE,awG,J6];refineλx y _=>⟨bto,λ_ _ t' o=>?_⟩;refine bid (L<|bie<|gd c.boU k) (λi=>∀d,d<i->0<=gd (bie<|gd c.boU k) d/\gd (bie<|gd c.boU k) d<c.aO6) O λi W hJ=>?_;have:L (bie<|gd c.boU k)<=3:=(by grind [bie]);simp only[qz 139,au,eT,tf,J9,m,bh,ar,aRO,rr,aPA,eE,awG,J6];refine⟨(by grind [dJ,aL,bkg,dh]),λT=>?_⟩;refine dR (mk:=λ(_:Unit) i=>[iv i]) (s:=()) (s':=()) (λ_ _=>A) q Z ⟨F.trans e,a6p hI λj E=>?_⟩;obtain⟨d,N,rfl⟩:=ou E;grind [aNV,bpL,dge];simp at f;have n:k=L c.boU:=X;subst n;exact⟨Z,Z,hI⟩
def aUg:FT:=vn aXo
def bb6:=zZ aUg aXo (j:=bno)
def a7z:dO:=(336,aT8)::(321,a8a)::(294,aT1)::(204,aUg)::a7y
def aTB:eJ a7z:=asq (By aW4<|λ_ _ _=>by simp only[Cs,aqG,aOW,Bool.and_self]) (asq (rj a6L<|λ_=>by simp only[Cs,aqG,aOW,Bool.and_self])<|asq (rj aWT<|λ_=>by simp only[Cs,aqG,aOW,Bool.and_self])<|asq (By aXo)<|aR1)
def aQT:=ai @bbM<|ai @bzK<|ai @bbB<|ai @bb6<|@aRO
section
attribute[local irreducible] aX
def a8W:=I9 27 [(3,([3],[1])),(11,([4],[1])),(18,([6],[1,4,5]))]
def bgu{c0}:=y1 217 2 1 aTB func267 a8W c0 [.a c0]
def bgC{c0 a1 b}:=y2 217 2 3 298 4 5 aTB func325 a8V c0 b [.a c0,a1, .a b]
def a9p:=I9 13 [(6,([3],[1]))]
def bgX{c0}:=y1 150 7 1 aTB func122 a9p c0 [.a c0]
end
def aWR(p)(u:shP p):Ct 267 [.a p.c] (λr=>isB r):=by obtain⟨⟨B,C,D⟩,E,o⟩:=u;refine bgu A λw t e z=>?_;refine bid (L p.brP) (λ_=>True) trivial λk q _=>?_;simp+contextual only[qz 19,au,eT,e,J9,ixv,bh,ar,Fa,aQT,rr,aNP,J6];refine⟨λh=>⟨vp h,btn⟩,λ_=>?_⟩;refine yV (L p.ay) (λ_ _ Y=>Fx w Y []) (Fx.refl _ _) ?_;rintro k _ Y q F;have n:=F.kq e;have f:=F.len.trans t;simp only[qz 67,qy 4,qy 6,au,eT,n,J9,ixv,bh,aNP,J6,aQd];intro h;have d:=aL h;refine⟨dJ d,anu f λv y l x m=>?_⟩;have g:=o _<|dB d;refine bid (L (gd p.ay k).locs) (λ_=>True) trivial λj G _=>?_;simp+contextual only[qz 109,au,eT,m,J9,ix,bh,ar,aQT,rr,rg,aNP,J6];refine⟨λh=>⟨vp h,λ_=>bkg (aL h) (by have:=g.1;omega) trivial⟩,λ_=>⟨λ_=>⟨4,g.2⟩,λb _=>dR (mk:=λ(_:Unit) i=>[iv i]) (s:=()) (s':=()) (λ_ _=>A) d Z<|F.trans l⟩⟩
def aT0:FT:=om aWR
def bbz:=aUy aT0 aWR (j:=bno)
def aWY(p)(t)(e)(f:PrB p/\∃n,shE n e):Ct 325 [.a p.c,iv t, .a e.c] (λr=>isI r):=bgC A aN9 λi h b d g=>by simp+contextual only[eQ,b,d,J9,ar,Fa,aQT,f,rr,aPG,J6,I6]
def aP8:FT:=vn aWY
def bbG:=zZ aP8 aWY (j:=bno)
def aPU(c:bit):Prop:=mQ c.aQ=U/\L c.ay=L c.aQ.ay/\∀t∈c.ay,aYh t
def aOc(c:bit):Prop:=L c.ay<1000/\∀t∈c.ay,L t.boU<1000000
def aXh(c)(f:aOc c):Ct 122 [.a c.c] (λr=>∃b,r=bv b/\(b=U->aPU c)):=by obtain⟨i,e⟩:=f;refine bgX A λp n d g=>?_;simp+contextual only[eS,d,J9,ar,aQT,rr,aPA,eE,awG,J6];intro o;refine bid (L c.ay) (λk=>∀j,j<k->aYh (gd c.ay j)) O λk m l=>?_;simp+contextual only[qz 37,au,eT,d,J9,ixv,bh,ar,Fa,aQT,rr,aTv,aPA,eE,awG,J6];refine⟨λh=>⟨vp h,e _<|dB<|aL h,btn⟩,λh _=>⟨?_,?_,?_⟩⟩;simp_all;grind;grind [ou,aNV,bpL,dge]
def aRk:FT:=om aXh
def bbZ:=aUy aRk aXh (j:=bno)
def aYb:dO:=(267,aT0)::(325,aP8)::(122,aRk)::a7z
def aTC:eJ aYb:=asq (rj aWR) (asq (By aWY<|λ_ _ _=>by simp only[Cs,aqG,aOW,Bool.and_self])<|asq (rj aXh)<|aTB)
def aQU:=ai @bbz<|ai @bbG<|ai @bbZ<|@aQT
section
attribute[local irreducible] aX
def a9e:=I9 11 [(3,([9],[0,1,2,3]))]
def bgM{a a1 b c}:=yB aTC func322 a9e [a,a1,b,c]
def a9f:=I9 56 [(12,([67],[0,3,5,6,7,8,9,30])),(17,([91],[0,3,5,6,7,8,9,30])),(24,([119],[0,3,5,6,7,8,9,30])),(51,([14],[0,3,5,6]))]
def bgN{c b}:=yB1 300 11 3 aTC func297 a9f b [c, .a b]
def a5F:=I9 22 [(3,([6],[0,1])),(9,([8],[0,1,6,7])),(16,([8,9],[0,1,6]))]
def aRq a a1 s0 R:=(.mk _:NF<|zF GGV aYb a5F Tryz.f271 [a,a1] [] s0<|QDb Tryz.f271 R).p
def a7S{a a1:AV}{s0:ae}{R:be}(hs:L s0=4096)(h:aRq a a1 s0 R):EB 271 [a,a1] s0 R:=aTc<|zB a5F (aQ9 aTC) func271 h
end
def aV6{fn xs Y d K}{P:Value->Prop}(i:uQ.elem fn=U)(h:∃r b,((∃v,r= .s v/\P v)/\Fx Y b [])/\cZ aS GG fn xs Y r b)(g:∀v,P v->K (.s v) Y):cB fn xs Y d K:=by obtain⟨r,b,⟨⟨v,rfl,j⟩,c⟩,f⟩:=h;exact aS2 i ⟨_,b,⟨A,c⟩,f⟩<|g v j
section
variable{Y:ae}{e:TypeId}{z:Nat}{a:AV}{bA:List (dM)}
theorem ixG{i:Int}{K}(d:J7 Y e z a bA)(c:aF (L bA) i)(f:∀b m,a= .m b (L bA)->box Y b=V ⟨e,z,U,I,bA++m⟩->K (.p b i.toNat 0)):rV (cz z Y a<|iv i) K:=by have:=c.1;have:=c.2;rcases d with⟨rfl,rfl⟩|⟨b,m,rfl,g⟩;grind;grind [cz,rV]
theorem stG{b}{i:Nat}{cs K}(c:box Y b=V ⟨e,z,U,I,bA⟩)(l:i<L bA)(m:∀r∈bA,L r=z)(j:L cs=z)(k:cs.all eN=U)(h:nrm (eR Y<|.a cs)= .a cs)(hI:aNN (.a cs)=[])(g:∀Y',Fx Y Y' [b]->box Y' b=V ⟨e,z,U,I,bA.set i cs⟩->K Y'):sV (aK z Y (.p b i 0)<|.a cs) K:=by have d:bA[i]?=V bA[i]:=O;have:bA[i].length=z:=FA;have f:aK z Y (.p b i 0) (.a cs)=V (wr Y b ⟨e,z,U,I,bA.set i cs⟩):=(by simp only[aK,aBG,c,eE,bsi,hI,kills,aRl,h,pW,eY,d];grind);rw[f];exact g _ (wc c)<|lO c
theorem aQz{b}{i j:Nat}{x r K}(c:box Y b=V ⟨e,z,U,I,bA⟩)(h:bA[i]?=V r)(l:j<L r)(g:eY (nrm<|eR Y x)=V [nrm<|eR Y x])(k:eN (nrm<|eR Y x)=U)(hI:aNN x=[])(f:∀Y',Fx Y Y' [b]->box Y' b=V ⟨e,z,U,I,bA.set i<|r.set j<|nrm<|eR Y x⟩->K Y'):sV (aK 1 Y (.p b i j) x) K:=by have d:aK 1 Y (.p b i j) x=V (wr Y b ⟨e,z,U,I,bA.set i<|r.set j<|nrm<|eR Y x⟩):=(by simp only[aK,aBG,c,eE,bsi,hI,kills,aRl,pW,g,h,bZ,bhZ];grind [GP]);rw[d];exact f _ (wc c)<|lO c
end
def bxL{e}{z d:Nat}{cs Y K}(h:L cs=z)(g:0<z)(b:d<L Y)(f:∀v Y',Fx Y Y' []->bK Y (d,v)->box Y' (d,v)=V ⟨e,z,U,U,[cs]⟩->K (.p (d,v) 0 0) Y'):eV (bxA e z Y d<|.a cs) K:=by have c:bxA e z Y d (.a cs)=V (.p (lA Y d) 0 0,put Y d ⟨e,z,U,U,[cs]⟩):=(by grind [bxA,eY,vg]);rw[c];exact f _ _ (kH b) (qQ Y d)<|iy b
def gfP{Y b T e}{z ze j d by':Nat}{cs zs a bA new t o}{K:AV->be}(C:box Y b=V ⟨T,z,U,U,[cs]⟩)(M:j<L cs)(w:J7 Y e ze a bA)(i:b∉aA a)(S:L zs=ze)(k:0<ze)(E:d<L Y)(R:∀r∈bA,L r=ze)(P:∀r∈new,L r=ze)(v:new≠[])(h:(L bA+L new)*(by'+1)<=1099511627776)(D:b.1≠d)(B:∀c Y',box Y' b=V ⟨T,z,U,U,[cs.set j c]⟩->gi Y' e ze c (bA++new)->Fx Y Y' (b::aA a)->(∀q∈aA c,bK Y q/\q.1=d)->K (.p b 0 j) c Y'):eV (apA e zs by' Y d a<|.l new t o) λx s=>rV (iQ j s<|.p b 0 0) λy=>sV (aK 1 s y x) (K y x):=qs w S k E R P v h λc Y' g F N=>by have f:=F.keep _ _ i C;have G:iQ j Y' (.p b 0 0)=V (.p b 0 j):=(by simp[iQ,f]);simp only[G,aY];refine A0 f g.p.ce M λn m u=>?_;have:b∉aA c:=X;refine B c n u (by grind [gi.fx]) ((F.trans m).mono λq W=>?_) N;grind
def bfa{α:Type}{l}{x y:α}:(l++[x]).set (L l) y=l++[y]:=O
structure Wk(Y:ae)(b:Id)(p:bqH)(al:List amt)(n:Nat)(a s t:AV):Prop where
 bx:∃th:Int,box Y b=V ⟨344,6,U,U,[[sl bmK.c p.brP,sl bj9.c p.ay,iv th,a,s,t]]⟩
 ga:J7 Y 300 11 a (al.map amt.c)
 gs:∃l:List ByteArray,J7 Y 9 1 s (l.map cs)/\L l<=n
 gt:∃l:List ByteArray,J7 Y 9 1 t (l.map cs)/\L l<=n
 la:L al<=6
 le:L Y=4096
 sb:b.1=60
 sa:∀q∈aA a,q.1=42
 ss:∀q∈aA s,q.1=204
 st:∀q∈aA t,q.1=262
section
variable{Y Y':ae}{b:Id}{p:bqH}{al:List amt}{n:Nat}{a s t:AV}
theorem Wk.fx{ks}(W:Wk Y b p al n a s t)(F:Fx Y Y' ks)(d:b∉ks)(e:∀q∈aA a,q∉ks)(f:∀q∈aA s,q∉ks)(h:∀q∈aA t,q∉ks):Wk Y' b p al n a s t:=by obtain⟨o,i⟩:=W.bx;obtain⟨l,g,j⟩:=W.gs;obtain⟨m,c,k⟩:=W.gt;exact⟨⟨o,F.keep _ _ d i⟩,W.ga.fx F e,⟨l,g.fx F f,j⟩,⟨m,c.fx F h,k⟩,W.la,F.len.trans W.le,W.sb,W.sa,W.ss,W.st⟩
theorem Wk.fx0(W:Wk Y b p al n a s t)(F:Fx Y Y' []):Wk Y' b p al n a s t:=(by grind [Wk.fx])
theorem Wk.mono{m}(W:Wk Y b p al n a s t)(h:n<=m):Wk Y b p al m a s t:=by obtain⟨l,g,e⟩:=W.gs;obtain⟨k,c,d⟩:=W.gt;exact⟨W.bx,W.ga,⟨l,g,Z⟩,⟨k,c,Z⟩,W.la,W.le,W.sb,W.sa,W.ss,W.st⟩
theorem ixL{i:Int}{K α}[Inhabited α]{f}{l:List α}{z:Nat}{e}(d:J7 Y e z a<|l.map f)(c:aF (L l) i)(u:∀x,L (f x)=z)(g:∀y,(∀q,sA q Y y=aN q (f<|gd l i.toNat))->(∀j q,rV (iQ j Y y) q=q (match y with| .p b k o=> .p b k (o+j)|y=>y))->K y):rV (cz z Y a<|iv i) K:=by refine ixG d X λb m r h=>g _ (λq=>?_) (λj q=>?_);have:=c.1;have:=c.2;grind [gd,xe,eC,aNV,sA,iE];simp[iQ,h,rV]
def bdi(W:Wk Y b p al n a s t)(x y)(q):∃r c,((∃v,r= .s v/\∃u:Bool,v= .bool u)/\Fx Y c [])/\cZ aS GG 322 [.p b 0 0,iv x,iv y,st q] Y r c:=bgM W.le<|yV (L al) (λ_ _ Y'=>Fx Y Y' []) (Fx.refl _ _)<|by rintro k _ c B F;have e:=W.fx0 F;obtain⟨C,g⟩:=e.bx;have j:∀u Y',Fx Y Y' []->aRf (λr c=>(∃v,r= .s v/\∃u:Bool,v= .bool u)/\Fx Y c []) Y' [bv u]:=λu Y' d=>⟨⟨_,A,u,A⟩,d⟩;simp only[qz 19,qy 2,au,Oy g,eS,g,J9,e.ga.ln,bJ];refine⟨λh=>?_,λ_=>j _ _ F⟩;have f:=aL h;refine ixL e.ga (dJ f) (λ_=>brR) λD o _=>?_;simp only[o,bh,J9,aY];refine aRA A brR H (by rw[e.le];decide) λv z l w m=>?_;have d:=F.trans l;simp+contextual only[qz 4,au,eS,m,J9,j _ _ d,J6,ni];have:=W.la;exactλ_=>dR (mk:=λ(_:Unit) i=>[iv i]) (s:=()) (s':=()) (λ_ _=>A) f Z d
theorem aRE(W:Wk Y b p al n a s t){x y c d K}(e:∀u,K (bv u) Y):cB 322 [.p b 0 0,iv x,iv y,st c] Y d K:=aV6 A (bdi W x y c) FA
def aPr(Y:ae)(b:Id)(p:bqH)(al:List amt)(n:Nat)(a s t:AV)(r:AV)(c:ae):Prop:=∃(e:Int) (s' d:AV),r=iv e/\Wk c b p al (n+1) a s' d/\Fx Y c (b::(aA s++aA t))/\(∀q∈aA s',q∈aA s\/bK Y q)/\∀q∈aA d,q∈aA t\/bK Y q
theorem aPr.no(W:Wk Y b p al n a s t)(F:Fx Y Y' [])(e):aPr Y b p al n a s t (iv e) Y':=⟨e,s,t,A,(W.fx0 F).mono Z,F.mono O,λ_ h=> .inl h,λ_ h=> .inl h⟩
def bd6{Q:J3}:(∀r,(∃k:Int,r=iv k)->Q r)=∀k,Q (iv k):=a65
def a52{x}:aX zd9 1 Y [(0,st x)]=V (.l ([x].map cs) U U,Y):=iz
theorem bvg{p:Prop}(h:p:=by grind [Go.Ab.Wk.st]):p:=h
theorem bvh{p:Prop}(h:p:=by grind [Go.Ab.Wk.ss]):p:=h
set_option maxHeartbeats 8000000 in
theorem bdl(W:Wk Y b p al n a s t)(S:PrB p){m:Nat}{x:amt}(hx:shS m x)(hn:n<100000):∃r Y1,aPr Y b p al n a s t r Y1/\cZ aS GG 297 [.p b 0 0, .a x.c] Y r Y1:=by have hw:=W;have ha:=hx.at;obtain⟨b1,C⟩:=b;obtain rfl:b1=60:=W.sb;refine bgN W.le brR λs2 v3 K2 a4 nf2 b3=>?_;have F2:Fx Y s2 []:=K2.fx [];have W2:=W.fx0 F2;obtain⟨th,E⟩:=W2.bx;have rp:∀{l:dM},aN (V 2) (sl bmK.c p.brP::sl bj9.c p.ay::l)=V (.a p.c):=A;simp only[qy 4,Oy E,eS,E,rp,J9];refine anu W2.le λv5 B G aV b5=>?_;have f:=W2.fx0 G;have c3:=G.kq b3;have F:=F2.trans G;obtain⟨th,E⟩:=f.bx;have a3:cO B (.p (60,C) 0 0)=V (.p (60,C) 0 0):=Oy E;obtain⟨ls,R,a1⟩:=f.gs;obtain⟨lt,M,a2⟩:=f.gt;have aP:dG B s=sl Ab.cs ls:=R.ar;have aQ:dG B t=sl Ab.cs lt:=M.ar;refine dT (by first|rfl|(simp[eL,okT,tok,lb,cq,Qh,aNG,dC,pP,dK];done)) ?_;refine aRE f λtx=>?_;simp only[qz 8];refine aRE f λaW=>?_;simp only[qz 10];refine aRE f λlp=>?_;have dn:∀e:Int,aRf (aPr Y (60,C) p al n a s t) B [iv e]:=λe=>aPr.no W F e;have hI:∀y∈x.index,∃n,shE n y:=X;have hX:x.op=1\/x.op=2\/x.op=3\/x.op=14->∃n,shE n x.expr:=X;have av:=aTb (p:=λi=>Q<|(gd p.brP i).name=x.name) (n:=L p.brP);have ao:(x.op=1\/x.op=2\/x.op=3\/x.op=4\/x.op=5\/x.op=6\/x.op=7\/x.op=8\/x.op=9\/x.op=10\/x.op=11\/x.op=12\/x.op=13\/x.op=14)\/(x.op≠1/\x.op≠2/\x.op≠3/\x.op≠4/\x.op≠5/\x.op≠6/\x.op≠7/\x.op≠8/\x.op≠9/\x.op≠10/\x.op≠11/\x.op≠12/\x.op≠13/\x.op≠14):=Z;have lock:∀(i j:Int) (d:Nat) (k:Int),gF (!tx) (λk=>cB 322 [AV.p (60,C) 0 0,iv i,iv j,st x.name] B d λaD aB=>k aD aB) B λaE D=>rV (mL (bv tx) (bv U) aE) λaa=>fW aOS [dG D aa] (lo D [aa]) λab=>fW aOi [AV.s<|Value.int dq k,dG D ab] (lo D [iv k,ab]) λaF=>aRf (aPr Y (60,C) p al n a s t) D [aF]:=(λi j d k=>by(cases tx);simp only[kN,gF,aNR];refine aRE f λu=>?_;simp only[u0,ar,aQU,dn,I6];simp only[gF,aPI,a5C,u0,ar,aQU,dn,I6]);simp only[qz 12,eS,c3,J9];rcases ao with(h|h|h|h|h|h|h|h|h|h|h|h|h|h)|⟨g1,g2,g3,g4,g5,g6,g7,g8,g9,aX,aY,z,aZ,a0⟩;(all_goals(try have aq:=hX Z);simp+contextual only[qz 309,qy 26,qz 311,qz 147,qy 20,qz 149,qz 105,qz 107,qz 75,qz 77,bh0,au,eT,J9,ar,Fa,aQU,rr,ixv,Gx, *,boV,bmL,Int.reduceEq,bsC,↓iC,↓iB,aXX,bd6,J6,aQd,eE,sr,awG,aNQ]);intro h0 k;have:0<L x.index:=X;exact⟨⟨Z,Z⟩,hI _<|dB this⟩;(any_goals intro k hk h0;have ax:k=0:=FA;refine⟨by have:=S.1;omega,⟨hk ax,av.2⟩,aRE f λu=>?_⟩;cases tx<;>cases u<;>simp+contextual only[qz 18,eS,c3,J9,ar,aQU,dn,a5C,a7i,jA,jN,I6]);intro k hk;refine⟨by have:=S.2.1;omega,λ_=>⟨Z,λ_=>?_⟩⟩;simp only[a52,bQ];refine apQ R f.le oX oX O NA λs' az z o am=>?_;have w:=o.keep _ _ (λg=>by have:=f.ss _ g;simp at this) E;simp only[qz 22,Oy w,eS,w];refine A0 w z.p.ce O λT v K=>?_;refine dT (by first|rfl|(simp[eL,okT,tok,lb,cq,Qh,aNG,dC,pP,dK];done)) ?_;have P:∀q∈aA s',q∉[((60,C):Id)]:=X;refine⟨0,s',t,A,⟨⟨th,K⟩,(f.ga.fx o<|λq g N=>by grind [Wk.sa,Wk.ss]).fx v (λq g e=>by grind [Wk.sa]),⟨ls++[x.name],by rw[dg];exact z.p.fx v P,NA⟩,⟨lt,(M.fx o<|λq g N=>by grind [Wk.st,Wk.ss]).fx v<|λq g e=>bvg,Z⟩,f.la,v.len.trans<|o.len.trans f.le,A,f.sa,X,f.st⟩,((F.trans o).trans v).mono<|λq g=> .inl ?_,brE,λq g=> .inl g⟩;grind;intro k _;have:=S.2.1;omega;(focus refineλk=>⟨λ_=>Z,λ_=>?_,λ_=>?_⟩;all_goals simp only[a52,bQ];refine apQ M f.le oX oX O NA λt' az z o am=>?_;have w:=o.keep _ _ (λg=>by have:=f.st _ g;simp at this) E;have d3:=o.keep _ _ (λg=>by have:=f.st _ g;simp at this) c3;have d5:=o.keep _ _ (λg=>by have:=f.st _ g;simp at this) b5;simp only[qz 28,Oy w,eS,w];refine A0 w z.p.ce O λT v K=>?_;have d3:=v.kq d3;have d5:=v.kq d5;refine dT (by first|rfl|(simp[eL,okT,tok,lb,cq,Qh,aNG,dC,pP,dK];done)) ?_;have P:∀q∈aA t',q∉[((60,C):Id)]:=X;have ap:∀e:Int,aPr Y (60,C) p al n a s t (iv e) T:=(λe=>by refine⟨e,s,t',A,⟨⟨th,K⟩,(f.ga.fx o<|λq g N=>by grind [Wk.sa,Wk.st]).fx v (λq g e=>by grind [Wk.sa]),⟨ls,(R.fx o<|λq g N=>by grind [Wk.ss,Wk.st]).fx v<|λq g e=>bvh,Z⟩,⟨lt++[x.name],by rw[dg];exact z.p.fx v P,NA⟩,f.la,v.len.trans<|o.len.trans f.le,A,f.sa,f.ss,X⟩,((F.trans o).trans v).mono<|λq g=> .inl ?_,λq g=> .inl g,brE⟩;grind);simp only[eS,d3,d5,J9,ar,Fa,aQU,S,aq,rr,I6];exactλ_=>ap _)
theorem baX(W:Wk Y b p al n a s t)(h:PrB p){m x}(j:shS m x)(i:n<100000){d K}(v:∀(e) (s' g) f,Wk f b p al (n+1) a s' g->Fx Y f (b::(aA s++aA t))->(∀q∈aA s',q∈aA s\/bK Y q)->(∀q∈aA g,q∈aA t\/bK Y q)->K (iv e) f):cB 297 [.p b 0 0, .a x.c] Y d K:=jH A (bdl W h j i)<|by rintro r f ⟨e,s',g,rfl,k,l,o,u⟩;grind [Fx.len]
def bS:Nat->Nat|0=>0|m+1=>1+8*bS m
def aR9(Y:ae)(b:Id)(p:bqH)(al:List amt)(n:Nat)(a s t:AV)(r:AV)(c:ae):Prop:=∃(e l:Int) (d s' f:AV),r= .t [iv e,iv l]/\Wk c b p al n d s' f/\Fx Y c (b::(aA a++(aA s++aA t)))/\(∀q∈aA d,q∈aA a\/bK Y q)/\(∀q∈aA s',q∈aA s\/bK Y q)/\∀q∈aA f,q∈aA t\/bK Y q
theorem bc8(hB:PrB p):∀(m:Nat) {Y al} {n:Nat} {a s t l},Wk Y b p al n a s t->shL m 8 l->n+L l*bS m<100000->
  ∃r Y1,aR9 Y b p al (n+L l*bS m) a s t r Y1/\cZ aS GG 271 [.p b 0 0,sl amt.c l] Y r Y1:=by
 intro m
 induction m with
 |zero=>
  intro Y al n a s t l W hs hn
  have:=List.eq_nil_iff_forall_not_mem.2 λx hx=>hs.2 x hx
  subst this
  refine a7S W.le ?_
  simp only[aRq]
  refine yV 0 (λ_ _ Y'=>Y'=Y) A ?_
  rintro k _ Y1 hk rfl
  simp only[qz 19,qy 2,au,eQ,bhZ]
  refine⟨λh=>by simp at h;omega,λ_=>⟨0,0,a,s,t,A,W.mono Z,Fx.refl _ _,λ_ h=> .inl h,λ_ h=> .inl h,λ_ h=> .inl h⟩⟩
 |succ m ih=>
  intro Y al n a s t l W hs hn
  obtain⟨b1,g⟩:=b
  obtain rfl:b1=60:=W.sb
  refine a7S W.le ?_
  simp only[aRq]
  refine yV (L l) (λk _ Y'=>∃D s' F,Wk Y' (60,g) p al (n+k*bS (m+1)) D s' F/\Fx Y Y' ((60,g)::(aA a++(aA s++aA t)))/\(∀q∈aA D,q∈aA a\/bK Y q)/\(∀q∈aA s',q∈aA s\/bK Y q)/\∀q∈aA F,q∈aA t\/bK Y q) (by grind [Fx.refl]) ?_
  rintro k _ Y1 hk ⟨a1,s1,t1,W1,F1,i1,i2,i3⟩
  have cc:k*bS (m+1)<=L l*bS (m+1):=qo _ hk
  have aT:∀(e ln:Int) (D s' F:AV) Y',Wk Y' (60,g) p al (n+L l*bS (m+1)) D s' F->Fx Y Y' ((60,g)::(aA a++(aA s++aA t)))->(∀q∈aA D,q∈aA a\/bK Y q)->(∀q∈aA s',q∈aA s\/bK Y q)->(∀q∈aA F,q∈aA t\/bK Y q)->aRf (aR9 Y (60,g) p al (n+L l*bS (m+1)) a s t) Y' [iv e,iv ln]:=λe ln D s' F Y' h1 h2 h3 h4 h5=>⟨e,ln,D,s',F,A,h1,h2,h3,h4,h5⟩
  simp only[qz 19,qy 2,au,eQ,ixv,bh,rr,J9]
  refine⟨λh=>⟨vp h,aRA A brR H (by rw[W1.le];decide) λv s2 F2 N2 aQ=>?_⟩,X⟩
  have av:=aL h
  have W2:=W1.fx0 F2
  have hx:=hs.2 _<|dB av
  obtain⟨m',cq,g1,g2⟩:=hx.body
  obtain rfl:m=m':=Z
  have bG:n+k*bS (m+1)+(1+8*bS m)<=n+L l*bS (m+1):=by
   have h9:(k+1)*bS (m+1)<=L l*bS (m+1):=qo _ av
   grind [tN,bS]
  have n7:∀{D s' F:AV} {Y':ae} {bm:List amt} {n':Nat},Wk Y' (60,g) p bm n' D s' F->∀(v:Nat),((7,v):Id)∉((60,g):Id)::(aA D++(aA s'++aA F)):=λW v o=>by
   simp only[eW,dF,iK] at o
   rcases o with h|h|h|h
   ·omega
   ·have:=W.sa _ h;simp at this
   ·have:=W.ss _ h;simp at this
   ·have:=W.st _ h;simp at this
  generalize cs:gd l k=x at*
  simp only[qz 4,eQ,aQ,J9]
  refine baX W2 hB hx Z λe s3 t3 Y3 z F3 j2 j3=>?_
  have b3:=F3.keep _ _ (λo=>n7 W2 v<|by simp only[eW,dF] at o⊢;rcases o with h|h|h;exact .inl h;exact .inr<|.inr<|.inl h;exact .inr<|.inr<|.inr h) aQ
  have af:Fx Y Y3 ((60,g)::(aA a++(aA s++aA t))):=((F1.trans F2).trans F3).mono aUw
  have aW:∀q∈aA s3,q∈aA s\/bK Y q:=brE
  have aZ:∀q∈aA t3,q∈aA t\/bK Y q:=brE
  obtain⟨th,ao⟩:=z.bx
  have br:=z.la
  have ew:dq.wrap ((L al:Int)+1)=((L al+1:Nat):Int):=fX Z
  simp+contextual only[qz 6,bh0,qz 59,qz 57,qy 8,au,Oy ao,eS,ao,be3,bkl,bc5,z.ga.ln,bJ,b3,J9,ew,Int.reduceEq,bsC,bxg,boV,↓iC]
  have ah:=λe ln=>aT e ln _ _ _ _ (z.mono Z) af i1 aW aZ
  refine⟨λ_=>ah _ _,λh6=>⟨λ_=>ah _ _,λ_=>?_⟩⟩
  have cp:L al+1<=6:=X
  have bu:aX bs4 1 Y3 [(0,.a [iv 0,iv 0,sv [],sv [],.l [] U U,iv 0,iv 0,sv [],.l [] U U,.l [] U U,.l [] U U])]=V (.l [bs4] U U,Y3):=a7c
  simp only[bu,bQ]
  refine apQ z.ga z.le (qW λ_=>brR) O O NA λa4 Y4 g4 F4 N4=>?_
  rcases g4 with⟨h8,_⟩|⟨q,bq,o⟩
  ·simp at h8
  subst bq
  have aU:=(N4 q aBY).2
  have bA:=(N4 q aBY).1
  obtain⟨q1,q2⟩:=q
  simp only at aU
  subst aU
  have na:∀{u:Nat} {r:Nat},r≠42->((r,u):Id)∉aA a1:=λj o=>j<|z.sa _ o
  have b4:=F4.keep _ _ (na H) b3
  have bs:=F4.keep _ _ (na H) ao
  have aG:L (al.map amt.c++[bs4])=L al+1:=O
  have bv:∀{K:J3},K (.p (42,q2) (L al) 0)->rV (cz 11 Y4 (.m (42,q2)<|L<|al.map amt.c++[bs4])<|iv (L al:Int)) K:=λ{K} hK=>by
   simp only[cz,Int.natCast_nonneg,aO1,o,a6X,bh,aG,Nat.lt_succ_self,I6,rV]
   exact hK
  simp only[qz 10]
  refine bv ?_
  refine stG o O (λr j=>by simp only[dF,dN,cE] at j;rcases j with⟨y,_,rfl⟩|rfl;exact brR;rfl) brR bsd bsd bsd λY5 F5 aV=>?_
  have a5:(al.map amt.c++[bs4]).set (L al) (amt.c x)=(al++[x]).map amt.c:=by
   have:=bfa (l:=al.map amt.c) (x:=bs4) (y:=amt.c x)
   rw[bJ] at this
   rw[this];simp
  rw[a5] at aV
  have b5:=F5.kq b4
  have ac:=F5.kq bs
  simp only[qz 12,Oy ac,eS,ac]
  refine A0 ac A O λY6 F6 bt=>?_
  have b6:=F6.kq b5
  have cr:=F6.kq aV
  have bz:aNG (.a x.c)=[]:=bsd
  refine dT (by simp only[lbV,aBG,ac,o,aO1,eE,bsi,Cz,RN,bz];simp[eL,lb,aNG,dC,dK]) ?_
  have ag:Fx Y3 Y6 (aA a1++[(60,g)]):=((F4.trans F5).trans F6).mono λr j=>by
   simp only[dF,cE] at j⊢
   grind [bK.no]
  have bb:=(af.trans ag).mono λr j=>by
   rcases dF.1 j with h|h
   ·exact .inl h
   ·rcases dF.1 h with h|h
    ·rcases i1 r h with h|h
     ·grind
     ·exact .inr h.no
    grind
  have aR:∀r:Id,r.1≠42->r.1≠60->r∉aA a1++[((60,g):Id)]:=X
  obtain⟨ls,gs,ar⟩:=z.gs
  obtain⟨lt,an,ab⟩:=z.gt
  have W6:Wk Y6 (60,g) p (al++[x]) (n+k*bS (m+1)+1) (.m (42,q2)<|L<|al.map amt.c++[bs4]) s3 t3:=by
   refine⟨⟨th,bt⟩, .inr ⟨(42,q2),[],O,X⟩,⟨ls,gs.fx ag<|λr j=>aR r bvh bvh,ar⟩,⟨lt,an.fx ag<|λr j=>aR r bvg bvg,ab⟩,NA,F6.len.trans<|F5.len.trans<|F4.len.trans z.le,A,aBY,z.ss,z.st⟩
  have a6:=bA.old af
  have ak:∀{C:ae} {N:Nat} {R E G:AV} {l':List amt} {d:Nat} {K:be},Wk C (60,g) p (al++[x]) N R E G->shL m 4 l'->N<=n+k*bS (m+1)+(1+4*bS m)->Fx Y C ((60,g)::(aA a++(aA s++aA t)))->(∀q∈aA R,q∈aA a\/bK Y q)->(∀q∈aA E,q∈aA s\/bK Y q)->(∀q∈aA G,q∈aA t\/bK Y q)->
    (∀(e ln:Int) (P s9 t9:AV) (M:ae),Wk M (60,g) p (al++[x]) (N+4*bS m) P s9 t9->Fx C M ((60,g)::(aA R++(aA E++aA G)))->Fx Y M ((60,g)::(aA a++(aA s++aA t)))->(∀q∈aA P,q∈aA a\/bK Y q)->(∀q∈aA s9,q∈aA s\/bK Y q)->(∀q∈aA t9,q∈aA t\/bK Y q)->K (.t [iv e,iv ln]) M)->cB 271 [.p (60,g) 0 0,sl amt.c l'] C d K:=by
   intro C N R E G l' d K B aq hN F8 az S T hK
   have h4:L l'*bS m<=4*bS m:=qo _ aq.1
   refine jH A (ih B ⟨by have:=aq.1;omega,aq.2⟩ Z) ?_
   rintro r M ⟨e,ln,P,s9,t9,rfl,W9,w,v1,v2,v3⟩
   refine⟨w.len,hK e ln P s9 t9 M (W9.mono Z) w ((F8.trans w).mono λr j=>?_) (λq o=>(v1 q o).elim (az q) λh=> .inr<|h.old F8) (λq o=>(v2 q o).elim (S q) λh=> .inr<|h.old F8)<|λq o=>(v3 q o).elim (T q) λh=> .inr<|h.old F8⟩
   rcases dF.1 j with h|h
   ·exact .inl h
   ·simp only[eW,dF] at h⊢
    rcases h with h|h|h|h
    ·grind
    ·exact(az r h).elim X λh=> .inr h.no
    ·exact(S r h).elim X λh=> .inr h.no
    ·exact(T r h).elim X λh=> .inr h.no
  simp only[eS,b6,J9]
  refine ak W6 g1 Z bb (by simp[aA];exact .inr a6) aW aZ λe' ln P s9 t9 M W9 G9 w v1 v2 v3=>?_
  have b9:=G9.keep _ _ (n7 W6 v) b6
  simp only[qz 16,rr,aY]
  refine bpF (λf=>∀(e ln:Int) {C:ae} {N:Nat} {R E G:AV},Wk C (60,g) p (al++[x]) N R E G->N<=n+k*bS (m+1)+(1+8*bS m)->Fx Y C ((60,g)::(aA a++(aA s++aA t)))->(∀q∈aA R,q∈aA a\/bK Y q)->(∀q∈aA E,q∈aA s\/bK Y q)->(∀q∈aA G,q∈aA t\/bK Y q)->f [iv e,iv ln] C) ?_ λf aw=>?_
  ·intro e ln C N R E G B hN F8 az S T
   obtain⟨th,ap⟩:=B.bx
   have e1:dq.wrap (((L al+1:Nat):Int)-1)=(L al:Int):=bqK
   simp only[qz 99,Oy ap,eS,ap,be3,bkl,bc5,B.ga.ln,bJ,a6G,bZ,bhZ,e1]
   refine slP B.ga Z NA λP g9 i9=>?_
   have ht:((al++[x]).map amt.c).take ((L al:Int).toNat)=al.map amt.c:=O
   rw[ht] at g9
   refine A0 ap g9.ce O λM w b9=>?_
   have d9:∀r:Id,r.1≠60->r∉[((60,g):Id)]:=X
   obtain⟨ls,gs,ar⟩:=B.gs
   obtain⟨lt,an,ab⟩:=B.gt
   have W9:Wk M (60,g) p al N P E G:=⟨⟨th,b9⟩,g9.fx w<|λr j=>(by grind [Wk.sa]),⟨ls,gs.fx w<|λr j=>bvh,ar⟩,⟨lt,an.fx w<|λr j=>bvg,ab⟩,br,w.len.trans B.le,A,λr j=>B.sa r<|i9▸j,B.ss,B.st⟩
   have aP:=(F8.trans w).mono λr j=>by
    rcases dF.1 j with h|h
    ·exact .inl h
    ·exact .inl (by simp at h;simp[h])
   have u9:∀q∈aA P,q∈aA a\/bK Y q:=X
   simp only[qz 20,au,eQ]
   refine⟨λ_=>aT _ _ _ _ _ _ (W9.mono Z) aP u9 S T,λ_=>?_⟩
   refine dR (mk:=λ(_:Unit) i=>[iv i]) (s:=()) (s':=()) (λ_ _=>A) av (by have:=hs.1;omega) ⟨P,E,G,W9.mono ?_,aP,u9,S,T⟩
   grind [tN,bS]
  simp only[qz 101,eS,b9,J9]
  refine⟨λ_=>?_,λ_=>aw _ _ W9 Z w v1 v2 v3⟩
  refine ak W9 g2 Z w v1 v2 v3 λe2 ct co cu cv cn bi cm ba w1 w2 w3=>?_
  simp only[qz 18,rr,aY]
  exact aw _ _ bi Z ba w1 w2 w3
theorem baR(i:PrB p){m:Nat}{l}(W:Wk Y b p al n a s t)(hs:shL m 8 l)(j:n+L l*bS m<100000){d:Nat}{K}(x:∀(e ln:Int) (g s' h) f,Wk f b p al (n+L l*bS m) g s' h->Fx Y f (b::(aA a++(aA s++aA t)))->(∀q∈aA g,q∈aA a\/bK Y q)->(∀q∈aA s',q∈aA s\/bK Y q)->(∀q∈aA h,q∈aA t\/bK Y q)->K (.t [iv e,iv ln]) f):cB 271 [.p b 0 0,sl amt.c l] Y d K:=jH A (bc8 i m W hs j)<|by rintro r f ⟨e,ln,g,s',h,rfl,k,o,u,v,w⟩;grind [Fx.len]
end
def a7A:dO:=aYb
def a7k:eJ a7A:=aTC
def aWi:=@aQU
section
attribute[local irreducible] aX
def a87:=I9 37 [(18,([8,9],[1])),(28,([11],[1,10]))]
def bgF{c0}:=y1 217 2 1 a7k func206 a87 c0 [.a c0]
end
def bdo{p}(f:shP p):Ct 206 [.a p.c] aQ1:=by
 have g:=f.1
 have T:=g.1
 have h2:=g.2.1
 refine bgF A λs2 hl j h0=>?_
 simp+contextual only[eS,j,J9,ar,Fa,aWi,f,T,g,rr,aO2,J6]
 intros
 refine yh (λs:Int×Nat=>[iv s.1,iv s.2]) 1 (L p.ay) (λ_=>True) (0,0) trivial ?_
 rintro⟨c,k⟩ _
 simp+contextual only[qz 109,au,eT,j,J9,ixv,bh,ar,aWi,rr,aO2,J6]
 refine⟨λh=>⟨vp h,⟨4,(f.2.2 _<|dB<|aL h).2⟩,λx=>wN (enc:=λs:Int×Nat=>[iv s.1,iv s.2]) (s:=(c,k)) (s':=(_,k+1)) (by rw[fX X]) A rfl (aL h) trivial⟩,λ_ _=>?_⟩
 have z:bM byy [(0,2),(2,1),(3,1),(4,1),(5,1)] [(0, .a p.c)]=V (.a [sl bmK.c p.brP,sl bj9.c p.ay,iv 0, .l [] U U, .l [] U U, .l [] U U]):=A
 simp only[z,aY]
 refine bxL A H Z λv s3 o N3 P=>?_
 have B:=o.len.trans hl
 have W3:Wk s3 (60,v) p [] 0 (.l [] U U) (.l [] U U) (.l [] U U):=⟨⟨0,P⟩, .inl ⟨A,A⟩,⟨[], .inl ⟨A,A⟩,O⟩,⟨[], .inl ⟨A,A⟩,O⟩,O,B,A,aBY,aBY,aBY⟩
 have c3:=o.kq j
 refine yV (L p.ay) (λk _ Y=>∃a s t,Wk Y (60,v) p [] (k*10000) a s t/\box Y (1,1)=V ⟨217,2,U,U,[p.c]⟩) X ?_
 rintro k _ Y hk ⟨a,s,t,W,q⟩
 obtain⟨th,m⟩:=W.bx
 simp only[qz 169,au,eS,q,Oy m,m,J9,rr,aO2,J6,aQd]
 intro h
 have d:=aL h
 have F:=f.2.2 _<|dB d
 have af:=f.2.1
 refine A0 m A O λs4 b R=>?_
 have u:=b.kq q
 have K:Wk s4 (60,v) p [] (k*10000) a s t:=by
  obtain⟨ls,w,C⟩:=W.gs
  obtain⟨lt,y,n⟩:=W.gt
  have d9:∀r:Id,r.1≠60->r∉[((60,v):Id)]:=FA
  exact⟨⟨k,R⟩,W.ga.fx b<|λr E=>(by grind [Wk.sa]),⟨ls,w.fx b<|λr E=>bvh,C⟩,⟨lt,y.fx b<|λr E=>bvg,n⟩,W.la,b.len.trans W.le,A,W.sa,W.ss,W.st⟩
 simp only[qz 6,eT,u,J9,ixv,bh]
 have ae:bS 4=585:=A
 have hm:L (gd p.ay k).body*bS 4<=8*bS 4:=qo _ F.2.1
 refine⟨dJ d,baR g K F.2 Z λe ln N s' t' s5 M G _ _ _=>?_⟩
 have S:=G.keep _ _ (λD=>by
  simp only[eW,dF,iK] at D
  rcases D with h|h|h|h
  ·omega
  ·have:=W.sa _ h;simp at this
  ·have:=W.ss _ h;simp at this
  ·have:=W.st _ h;simp at this) u
 simp only[qz 8,au,eQ,rr,aO2,J6,ni]
 exactλ_=>dR (mk:=λ(_:Unit) i=>[iv i]) (s:=()) (s':=()) (λ_ _=>A) d Z ⟨N,s',t',M.mono Z,S⟩
def a59{p}(f:shP p):∃x:Int×Int,Ct 206 [.a p.c] (·= .t [iv x.1,iv x.2]):=by obtain⟨r,⟨e,l,rfl⟩,b,d⟩:=bdo f;exact⟨(e,l),_,A,b,d⟩
noncomputable def chk(p:bqH):Int×Int:=@dite _ (shP p) (Classical.propDecidable _) (λh=>Classical.choose<|a59 h) λ_=>(0,0)
def aW1(p)(b:shP p):Ct 206 [.a p.c] (·= .t [iv (chk p).1,iv (chk p).2]):=by rw[chk,dif_pos b];exact Classical.choose_spec<|a59 b
def aRi:FT:=mT aW1
def bbJ:=oK aRi aW1 (j:=bno)
def a7B:dO:=(206,aRi)::a7A
def aX4:eJ a7B:=asq (pg aW1)<|a7k
def aWj:=ai @bbJ<|@aWi
section
attribute[local irreducible] aX
def a9E:=I9 11 [(3,([0,2,10],[1,3]))]
def a7U{a a1 b c}:=yB aX4 func273 a9E [a,a1,b,c]
def a9q:=I9 32 [(8,([6],[1,2,3])),(11,([],[1,2,3,6])),(14,([39],[1,2,3,6,7,31])),(17,([8],[1,2,3,6,7])),(21,([65],[1,2,3,6,7,31])),(26,([9],[1,2,3]))]
def bgY{c0}:=y1 217 2 1 aX4 func207 a9q c0 [.a c0]
end
def SiR(Y:ae)(a:AV)(N:Nat)(r:AV)(d:ae):Prop:=∃(a':AV) (e:Int) (l':List dL),r= .t [a',iv e]/\J7 d 125 3 a' (l'.map dL.c)/\L l'<=N/\Fx Y d (aA a)/\(∀q∈aA a',q∈aA a\/bK Y q)/\∀q∈aA a',q∈aA a\/q.1=27
def bdu(u:Int):∀(m:Nat) {Y a} {n:Int} {l:List dL} {st},L Y=4096->J7 Y 125 3 a (l.map dL.c)->shL m 8 st->L l+L st*bS m<100000->
  ∃r f,SiR Y a (L l+L st*bS m) r f/\cZ aS GG 273 [a,iv u,iv n,sl amt.c st] Y r f:=by
 intro m
 induction m with
 |zero=>
  intro Y a n l st y g hs hn
  have:=List.eq_nil_iff_forall_not_mem.2 λx S=>hs.2 x S
  subst this
  refine a7U y ?_
  refine jD (α:=AV×Int) (λs i=>[s.1,iv s.2,iv i]) 2 0 (λ_ s Y'=>Y'=Y/\s.1=a) (s0:=(a,n)) ⟨A,A⟩ ?_
  rintro k ⟨a',n'⟩ f hk ⟨rfl,rfl⟩
  simp only[qz 19,qy 2,au,eQ,bhZ]
  exact⟨λh=>by simp at h;omega,λ_=>⟨_,_,l,A,g,Z,Fx.refl _ _,λ_ h=> .inl h,λ_ h=> .inl h⟩⟩
 |succ m ih=>
  intro Y a n l st y g hs hn
  refine a7U y ?_
  refine jD (α:=AV×Int) (λs i=>[s.1,iv s.2,iv i]) 2 (L st) (λk s Y'=>∃l':List dL,J7 Y' 125 3 s.1 (l'.map dL.c)/\L l'<=L l+k*bS (m+1)/\Fx Y Y' (aA a)/\(∀q∈aA s.1,q∈aA a\/bK Y q)/\∀q∈aA s.1,q∈aA a\/q.1=27) (s0:=(a,n)) (by grind [Fx.refl]) ?_
  rintro k ⟨a1,o⟩ f hk ⟨l1,g1,aG,P,i1,p1⟩
  simp only at g1 i1 p1
  have z:=P.len.trans y
  simp only[qz 19,qy 2,au,eQ,ixv,bh,rk,J9]
  refine⟨λh=>⟨vp h,?_⟩,λh=>⟨a1,o,l1,A,g1,X,P,i1,p1⟩⟩
  have e:=aL h
  have S:=hs.2 _<|dB e
  obtain⟨m',aM,b1,b2⟩:=S.body
  obtain rfl:m=m':=Z
  have am:L l+k*bS (m+1)+(1+8*bS m)<=L l+L st*bS (m+1):=by
   have h9:(k+1)*bS (m+1)<=L st*bS (m+1):=qo _ e
   grind [bS]
  generalize N:gd st k=x at*
  have ac:bM biY aM7 [(0,iv u),(1,iv o),(2,iv x.line)]=V (.a<|dL.c ⟨u,o,x.line⟩):=A
  have ad:aX bwK 1 f [(0, .a<|dL.c ⟨u,o,x.line⟩)]=V (.l ([(⟨u,o,x.line⟩:dL)].map dL.c) U U,f):=ua A rfl rfl H A H
  simp only[ac,aY,ad,bQ]
  refine apQ g1 z (by grind [dL.c]) (by grind [dL.c]) O NA λa2 Y2 g2 W N2=>?_
  have ay:=W.len.trans z
  rw[<-dg] at g2
  have T:Fx Y Y2 (aA a):=(P.trans W).mono aUw
  have v:∀{E:ae} {a3:AV} {n3:Int} {F:List dL} {M:List amt} {d:Nat} {K:be},J7 E 125 3 a3 (F.map dL.c)->shL m 4 M->L F<=L l+k*bS (m+1)+(1+4*bS m)->Fx Y E (aA a)->(∀q∈aA a3,q∈aA a\/bK Y q)->(∀q∈aA a3,q∈aA a\/q.1=27)->
    (∀(a4:AV) (G:Int) (C:List dL) (j:ae),J7 j 125 3 a4 (C.map dL.c)->L C<=L F+4*bS m->Fx Y j (aA a)->(∀q∈aA a4,q∈aA a\/bK Y q)->(∀q∈aA a4,q∈aA a\/q.1=27)->K (.t [a4,iv G]) j)->cB 273 [a3,iv u,iv n3,sl amt.c M] E d K:=by
   intro E a3 n3 F M d K g3 B aJ F3 i3 p3 hK
   have h4:L M*bS m<=4*bS m:=qo _ B.1
   refine jH A (ih (F3.len.trans y) g3 ⟨by have:=B.1;omega,B.2⟩ Z) ?_
   rintro r j ⟨a4,G,C,rfl,R,af,D,i4,p4⟩
   exact⟨D.len,hK a4 G C j R Z ((F3.trans D).mono aUw) brE X⟩
  simp only[qz 4,au,eQ,ixv,bh,rk,J9,N]
  refine⟨dJ e,v g2.p b1 NA T brE X λa4 G C j R af D i4 p4=>?_⟩
  simp only[qz 6,au,rr,eQ,ixv,bh,J9,N]
  refine⟨dJ e,v R b2 X D i4 p4 λa5 n5 l5 Y5 g5 aK F5 i5 p5=>?_⟩
  simp only[qz 8,au,rr,eQ]
  refine dR (mk:=λ(s:AV×Int) i=>[s.1,iv s.2,iv i]) (s:=(a1,o)) (s':=(a5,n5)) (λ_ _=>A) e (by have:=hs.1;omega) ⟨l5,g5,?_,F5,i5,p5⟩
  grind [bS]
structure Wo(Y:ae)(b:Id)(w:aOw)(a0 a1 a2 a3 a4 a5:AV):Prop where
 bx:box Y b=V ⟨34,6,U,U,[[a0,a1,a2,a3,a4,a5]]⟩
 g0:J7 Y 119 5 a0 (w.cells.map cA.c)
 g1:J7 Y 121 2 a1 (w.ak.map dS.c)
 g2:J7 Y 123 2 a2 (w.bC.map yp.c)
 g3:J7 Y 9 1 a3 (w.bU.map cs)
 g4:J7 Y 9 1 a4 (w.ay.map cs)
 g5:J7 Y 125 3 a5 (w.dU.map dL.c)
 p0:∀q∈aA a0,q.1=63
 p1:∀q∈aA a1,q.1=77
 p2:∀q∈aA a2,q.1=92
 p3:∀q∈aA a3,q.1=37
 p4:∀q∈aA a4,q.1=110
 p5:∀q∈aA a5,q.1=27
 sb:b.1=3
 le:L Y=4096
section
variable{Y Y':ae}{b:Id}{w:aOw}{a0 a1 a2 a3 a4 a5 a':AV}
theorem Wo.fx0(W:Wo Y b w a0 a1 a2 a3 a4 a5)(F:Fx Y Y' []):Wo Y' b w a0 a1 a2 a3 a4 a5:=⟨F.kq W.bx,W.g0.fx F O,W.g1.fx F O,W.g2.fx F O,W.g3.fx F O,W.g4.fx F O,W.g5.fx F O,W.p0,W.p1,W.p2,W.p3,W.p4,W.p5,W.sb,F.len.trans W.le⟩
theorem buj{p:Prop}(h:p:=by grind [Go.Ab.Wo.p1]):p:=h
theorem buk{p:Prop}(h:p:=by grind [Go.Ab.Wo.p2]):p:=h
theorem bul{p:Prop}(h:p:=by grind [Go.Ab.Wo.p3]):p:=h
theorem bvi{p:Prop}(h:p:=by grind [Go.Ab.Wo.p4]):p:=h
theorem bum{p:Prop}(h:p:=by grind [Go.Ab.Wo.p5]):p:=h
theorem Wo.up0{new}(W:Wo Y b w a0 a1 a2 a3 a4 a5)(d:box Y' b=V ⟨34,6,U,U,[[a',a1,a2,a3,a4,a5]]⟩)(g:gi Y' 119 5 a'<|(w.cells++new).map cA.c)(F:Fx Y Y' (b::aA a0))(N:∀q∈aA a',bK Y q/\q.1=63):Wo Y' b {w with cells:=w.cells++new} a' a1 a2 a3 a4 a5:=by have:∀q:Id,q.1≠3->q.1≠63->q∉b::aA a0:=λq e f a=>(by grind [Wo.sb,Wo.p0]);exact⟨d,g.p,W.g1.fx F<|λq a=>buj,W.g2.fx F<|λq a=>buk,W.g3.fx F<|λq a=>bul,W.g4.fx F<|λq a=>bvi,W.g5.fx F<|λq a=>bum,X,W.p1,W.p2,W.p3,W.p4,W.p5,W.sb,F.len.trans W.le⟩
theorem bun{p:Prop}(h:p:=by grind [Go.Ab.Wo.p0]):p:=h
theorem Wo.up1{new}(W:Wo Y b w a0 a1 a2 a3 a4 a5)(d:box Y' b=V ⟨34,6,U,U,[[a0,a',a2,a3,a4,a5]]⟩)(g:gi Y' 121 2 a'<|(w.ak++new).map dS.c)(F:Fx Y Y' (b::aA a1))(N:∀q∈aA a',bK Y q/\q.1=77):Wo Y' b {w with ak:=w.ak++new} a0 a' a2 a3 a4 a5:=by have:∀q:Id,q.1≠3->q.1≠77->q∉b::aA a1:=λq e f a=>(by grind [Wo.sb,Wo.p1]);exact⟨d,W.g0.fx F<|λq a=>bun,g.p,W.g2.fx F<|λq a=>buk,W.g3.fx F<|λq a=>bul,W.g4.fx F<|λq a=>bvi,W.g5.fx F<|λq a=>bum,W.p0,X,W.p2,W.p3,W.p4,W.p5,W.sb,F.len.trans W.le⟩
theorem Wo.up2{new}(W:Wo Y b w a0 a1 a2 a3 a4 a5)(d:box Y' b=V ⟨34,6,U,U,[[a0,a1,a',a3,a4,a5]]⟩)(g:gi Y' 123 2 a'<|(w.bC++new).map yp.c)(F:Fx Y Y' (b::aA a2))(N:∀q∈aA a',bK Y q/\q.1=92):Wo Y' b {w with bC:=w.bC++new} a0 a1 a' a3 a4 a5:=by have:∀q:Id,q.1≠3->q.1≠92->q∉b::aA a2:=λq e f a=>(by grind [Wo.sb,Wo.p2]);exact⟨d,W.g0.fx F<|λq a=>bun,W.g1.fx F<|λq a=>buj,g.p,W.g3.fx F<|λq a=>bul,W.g4.fx F<|λq a=>bvi,W.g5.fx F<|λq a=>bum,W.p0,W.p1,X,W.p3,W.p4,W.p5,W.sb,F.len.trans W.le⟩
theorem Wo.up3{new}(W:Wo Y b w a0 a1 a2 a3 a4 a5)(c:box Y' b=V ⟨34,6,U,U,[[a0,a1,a2,a',a4,a5]]⟩)(g:gi Y' 9 1 a'<|(w.bU++new).map cs)(F:Fx Y Y' (b::aA a3))(N:∀q∈aA a',bK Y q/\q.1=37):Wo Y' b {w with bU:=w.bU++new} a0 a1 a2 a' a4 a5:=by have:∀q:Id,q.1≠3->q.1≠37->q∉b::aA a3:=λq d e a=>(by grind [Wo.sb,Wo.p3]);exact⟨c,W.g0.fx F<|λq a=>bun,W.g1.fx F<|λq a=>buj,W.g2.fx F<|λq a=>buk,g.p,W.g4.fx F<|λq a=>bvi,W.g5.fx F<|λq a=>bum,W.p0,W.p1,W.p2,X,W.p4,W.p5,W.sb,F.len.trans W.le⟩
theorem Wo.up4{new}(W:Wo Y b w a0 a1 a2 a3 a4 a5)(c:box Y' b=V ⟨34,6,U,U,[[a0,a1,a2,a3,a',a5]]⟩)(g:gi Y' 9 1 a'<|(w.ay++new).map cs)(F:Fx Y Y' (b::aA a4))(N:∀q∈aA a',bK Y q/\q.1=110):Wo Y' b {w with ay:=w.ay++new} a0 a1 a2 a3 a' a5:=by have:∀q:Id,q.1≠3->q.1≠110->q∉b::aA a4:=λq d e a=>(by grind [Wo.sb,Wo.p4]);exact⟨c,W.g0.fx F<|λq a=>bun,W.g1.fx F<|λq a=>buj,W.g2.fx F<|λq a=>buk,W.g3.fx F<|λq a=>bul,g.p,W.g5.fx F<|λq a=>bum,W.p0,W.p1,W.p2,W.p3,X,W.p5,W.sb,F.len.trans W.le⟩
end
def WBd(w:aOw):Prop:=L w.cells<100000/\L w.ak<100000/\L w.bC<100000/\L w.bU<100000/\L w.ay<100000/\L w.dU<100000
def bbe:∀k,k<9->(gd aNF k).size<=4:=H
def rwW{a b c d e f}:aN (V 6) [a,b,c,d,e,f]=V (.a [a,b,c,d,e,f]):=rfl
def aXi(p)(hp:shP p/\p.brP=aNF):Ct 207 [.a p.c] (λr=>∃w:aOw,r= .a w.c/\WBd w/\((chk p).1=0->∃c∈w.cells,c.name=qN)):=by
 obtain⟨hp,hd⟩:=hp
 refine aDq (bgY A λs2 hl b1 h0=>?_)
 simp only[qy 4]
 refine pz hl λv2 s4 F4 N4 b2=>?_
 have aJ:=F4.len.trans hl
 refine pz aJ λD s6 F6 N6 N=>?_
 have c1:=F6.kq<|F4.kq b1
 have c2:=F6.kq b2
 have bG:=F6.len.trans aJ
 have W6:Wo s6 (3,D) ⟨[],[],[],[],[],[]⟩ (.l [] U U) (.l [] U U) (.l [] U U) (.l [] U U) (.l [] U U) (.l [] U U):=⟨N, .inl ⟨A,A⟩, .inl ⟨A,A⟩, .inl ⟨A,A⟩, .inl ⟨A,A⟩, .inl ⟨A,A⟩, .inl ⟨A,A⟩,aBY,aBY,aBY,aBY,aBY,aBY,A,bG⟩
 have aZ:∀{Y:ae} {w:aOw} {a0 a1 a2 a3 a4 a5:AV} {r:dM},Wo Y (3,D) w a0 a1 a2 a3 a4 a5->box Y (2,v2)=V ⟨34,6,U,U,[r]⟩->L r=6->WBd w->((chk p).1=0->∃c∈w.cells,c.name=qN)->
   aw 6 Y (.p (3,D) 0 0) λt=>sV (aK 6 Y (.p (2,v2) 0 0) t) λaN=>aw 6 aN (.p (2,v2) 0 0) λbi=>aE (λr=>∃w:aOw,bqE r= .a w.c/\WBd w/\((chk p).1=0->∃c∈w.cells,c.name=qN)) aN [bi]:=by
  intro Y w a0 a1 a2 a3 a4 a5 r W hb hr hB y
  simp only[aC5,W.bx,aww,aBF,df,axE,awx,rwW,aY,↓uL]
  refine yv hb hr A λY' F b'=>?_
  simp only[b',aww,aBF,df,awx,rwW,aY]
  have d:∀q:Id,q.1≠2->q∉[((2,v2):Id)]:=FA
  refine aOv (Q:=λr=>∃w:aOw,r= .a w.c/\WBd w/\((chk p).1=0->∃c∈w.cells,c.name=qN)) (v':= .a w.c) ?_ A ⟨w,A,hB,y⟩
  simp only[fzT,ji,mU,aBr<|W.g0.fx F λq y=>bun,aBr<|W.g1.fx F λq y=>buj,aBr<|W.g2.fx F λq y=>buk,aBr<|W.g3.fx F λq y=>bul,aBr<|W.g4.fx F λq y=>bvi,aBr<|W.g5.fx F λq y=>bum]
  rfl
 simp+contextual only[qz 6,qy 8,eQ,c1,J9,ar,Fa,aWj,hp,rr]
 refine⟨λbH=>aZ W6 c2 A (by simp[WBd]) (λh=>by simp[h] at bH),λcn=>?_⟩
 have h9:L p.brP=9:=by rw[hd];rfl
 obtain⟨Inv,aF⟩:∃g:Nat->Unit->ae->Prop,g=λk _ Y=>∃(w:aOw) (a0 a1 a2 a3 a4 a5:AV) (r:dM),Wo Y (3,D) w a0 a1 a2 a3 a4 a5/\box Y (1,1)=V ⟨217,2,U,U,[p.c]⟩/\box Y (2,v2)=V ⟨34,6,U,U,[r]⟩/\L r=6/\L w.cells<=4*k/\L w.ak<=k/\L w.bC<=k/\L w.bU<=k/\w.ay=[]/\w.dU=[]/\(3<k->∃c∈w.cells,c.name=qN):=⟨_,A⟩
 refine yV (L p.brP) Inv (by rw[aF];exact⟨_,_,_,_,_,_,_,_,W6,c1,c2,A,O,O,O,O,A,A,O⟩) ?_
 rintro k _ Y hk hi
 rw[aF] at hi
 obtain⟨w,a0,a1,a2,a3,a4,a5,r,W,d1,d2,hr,n0,n1,n2,n3,n4,n5,y⟩:=hi
 simp only[qz 49,au,eS,d1,J9]
 refine⟨λh=>bsf (λe=>∀{Y':ae} {w':aOw} {x0 x1 x2 x3 x4 x5:AV},Wo Y' (3,D) w' x0 x1 x2 x3 x4 x5->box Y' (1,1)=V ⟨217,2,U,U,[p.c]⟩->box Y' (2,v2)=V ⟨34,6,U,U,[r]⟩->L w'.cells<=4*(k+1)->L w'.ak<=k+1->L w'.bC<=k+1->L w'.bU<=k+1->w'.ay=[]->w'.dU=[]->(3<k+1->∃c∈w'.cells,c.name=qN)->e [] Y') ?_ λe an=>?_,λh=>?_⟩
 ·intro Y' w' x0 x1 x2 x3 x4 x5 g1 g2 B g4 g5 g6 g7 g8 g9 ck
  simp only[qz 69,au,eQ]
  exact dR (mk:=λ(_:Unit) i=>[iv i]) (s:=()) (s':=()) (λ_ _=>A) (aL h) Z X
 ·simp only[qz 71,qy 10,eT,d1,J9,ixv,bh]
  refine⟨vp h,anu W.le λv7 Y1 F1 N1 e7=>?_⟩
  have al:=aL h
  have o:=W.fx0 F1
  have e1:=F1.kq d1
  have e2:=F1.kq d2
  have ct:(gd p.brP k).size<=4:=by rw[hd];exact bbe k Z
  have cr:k=3->(gd p.brP k).kind=1/\(gd p.brP k).name=qN:=by rintro rfl;rw[hd];exact⟨A,A⟩
  generalize cm:gd p.brP k=m at*
  have ep:∀{Y':ae} {j:Nat} {a:AV} {T z:Nat} {bq:Bool} {rs:List (dM)} {q:Id},Fx Y1 Y' ((3,D)::aA a)->(∀q∈aA a,q.1=j)->q.1≠3->q.1≠j->box Y1 q=V ⟨T,z,U,bq,rs⟩->box Y' q=V ⟨T,z,U,bq,rs⟩:=λF hj G co hb=>F.keep _ _ X hb
  have nb:∀{a:AV} {j:Nat},(∀q∈aA a,q.1=j)->j≠3->((3,D):Id)∉aA a:=X
  have am:k≠3->3<k+1->∃c∈w.cells,c.name=qN:=X
  have bz:dG Y1 a1=sl dS.c w.ak:=o.g1.ar
  have R:∀{a:AV} {j:Nat},(∀q∈aA a,q.1=j)->∀q:Id,q.1≠3->q.1≠j->q∉((3,D):Id)::aA a:=X
  have kc:(m.kind=1\/m.kind=2)\/(m.kind=3\/m.kind=4)\/m.kind=5\/(m.kind≠1/\m.kind≠2/\m.kind≠3/\m.kind≠4/\m.kind≠5):=Z
  have aG:m.kind≠1->k≠3:=Z
  rcases kc with h|h|h|⟨h1,h2,G,h4,h5⟩
  ·rcases h with h|h
   all_goals
    simp only[qz 12,bh0,qz 89,qz 87,qz 131,qz 129,qy 20,qy 32,au,eS,e7,o.bx,J9,ar,eE,sr,awG,aNQ,aQd,h,boV,bmL,Int.reduceEq,↓iC,↓iB]
    obtain⟨M,hM⟩:∃M:Int,M=if 1>m.size then 1 else m.size:=⟨_,A⟩
    have cl:1<=M/\M<=4:=Z
    refine yV M.toNat (λk2 _ Y'=>∃(new:List cA) (x0:AV),Wo Y' (3,D) {w with cells:=w.cells++new} x0 a1 a2 a3 a4 a5/\box Y' (1,1)=V ⟨217,2,U,U,[p.c]⟩/\box Y' (2,v2)=V ⟨34,6,U,U,[r]⟩/\box Y' (7,v7)=V ⟨347,6,U,U,[m.c]⟩/\L new=k2/\(0<k2->∃c∈new,c.name=m.name)) ⟨[],a0,by simpa using o,e1,e2,e7,A,O⟩ ?_
    rintro k2 _ Y2 cp ⟨new,x0,v,f1,f2,f7,bf,bI⟩
    simp only[qz 103,qy 14,au,eS,f7,v.bx,J9,aRW,<-hM]
    refine⟨λh2=>?_,λh2=>?_⟩
    ·have be:k2<M.toNat:=X
     have af:bM buA aOG [(0,st m.name),(1,iv k2),(2,iv m.size),(3,bv<|Q<|m.kind=2),(4,iv m.init)]=V (.a<|cA.c ⟨m.name,k2,m.size,Q<|m.kind=2,m.init⟩):=A
     have E:∀{x:cA},aX bwH 1 Y2 [(0, .a<|cA.c x)]=V (.l ([x].map cA.c) U U,Y2):=λ{x}=>ua A rfl rfl H A H
     simp only[af,aY,E,bQ]
     refine gfP (j:=0) v.bx O v.g0 (nb v.p0 H) A H (by rw[v.le];decide) (qW (f:=cA.c) (z:=5) λ_=>A) (qW (f:=cA.c) (z:=5) λ_=>A) O NA O λa' Y3 N B u N3=>?_
     simp only[qz 18,au,eQ]
     rw[<-dg] at B
     have R:∀{q:Id},q.1≠3->q.1≠63->q∉((3,D):Id)::aA x0:=λG bw y=>by
      rcases eW.1 y with h|h
      ·rw[h] at G;exact G A
      ·exact bw (v.p0 _ h)
     have C:=v.up0 (new:=[⟨m.name,k2,m.size,Q<|m.kind=2,m.init⟩]) N B u N3
     refine dR (mk:=λ(_:Unit) i=>[iv i]) (s:=()) (s':=()) (λ_ _=>A) be Z ⟨new++[⟨m.name,k2,m.size,Q<|m.kind=2,m.init⟩],a',X,u.keep _ _ X f1,u.keep _ _ X f2,u.keep _ _ X f7,by simp[bf],O⟩
    ·have cg:k2=M.toNat:=X
     refine an v f1 f2 NA X X X n4 n5 λG=>?_
     by_cases h4:k=3
     ·obtain⟨c,hc,bA⟩:=bI Z
      grind
     ·obtain⟨c,hc,bA⟩:=am h4 G
      grind
  ·have G:=aG Z
   rcases h with h|h
   all_goals
    simp only[qz 12,bh0,qz 89,qz 87,qz 131,qz 129,qy 20,qy 32,au,eS,e7,o.bx,J9,ar,eE,sr,awG,aNQ,aQd,h,boV,bmL,Int.reduceEq,↓iC,↓iB]
    have af:∀{rw:Bool},bM aqd bqW [(0,st m.name),(1,bv rw)]=V (.a<|dS.c ⟨m.name,rw⟩):=λ{rw}=>A
    have E:∀{x:dS},aX bwI 1 Y1 [(0, .a<|dS.c x)]=V (.l ([x].map dS.c) U U,Y1):=λ{x}=>ua A rfl rfl H A H
    simp only[af,aY,E,bQ]
    refine gfP (j:=1) o.bx O o.g1 (nb o.p1 H) A H (by rw[o.le];decide) (qW (f:=dS.c) (z:=2) λ_=>A) (qW (f:=dS.c) (z:=2) λ_=>A) O NA O λa' Y3 N B u N3=>?_
    rw[<-dg] at B
    exact an (o.up1 (new:=[⟨m.name,_⟩]) N B u N3) (u.keep _ _ (R o.p1 _ O O) e1) (u.keep _ _ (R o.p1 _ O O) e2) X NA X X n4 n5<|am G
  ·have G:=aG Z
   simp only[qz 12,bh0,qz 89,qz 87,qz 131,qz 129,qy 20,qy 26,au,eS,e7,o.bx,J9,bz,ar,aWj,rr,eE,awG,aNQ,h,boV,bmL,Int.reduceEq,↓iC,↓iB]
   refine⟨Z,λx=>?_⟩
   have af:bM aqe bqW [(0,st m.name),(1,iv x)]=V (.a<|yp.c ⟨m.name,x⟩):=A
   have E:∀{x:yp},aX bwJ 1 Y1 [(0, .a<|yp.c x)]=V (.l ([x].map yp.c) U U,Y1):=λ{x}=>ua A rfl rfl H A H
   simp only[af,aY,E,bQ]
   refine gfP (j:=2) o.bx O o.g2 (nb o.p2 H) A H (by rw[o.le];decide) (qW (f:=yp.c) (z:=2) λ_=>A) (qW (f:=yp.c) (z:=2) λ_=>A) O NA O λa' Y3 N B u N3=>?_
   rw[<-dg] at B
   simp only[qz 30]
   refine dT (by first|rfl|(simp[eL,okT,tok,lb,cq,Qh,aNG,dC,pP,dK];done)) ?_
   exact an (o.up2 (new:=[⟨m.name,x⟩]) N B u N3) (u.keep _ _ (R o.p2 _ O O) e1) (u.keep _ _ (R o.p2 _ O O) e2) X X NA X n4 n5<|am G
  ·simp only[qz 12,bh0,qz 89,qz 87,qz 131,qz 129,qy 20,qy 32,au,eS,e7,o.bx,J9,ar,eE,awG,aNQ,h1,h2,G,h4,h5,bmL,↓iB]
   have G:=aG h1
   have E:aX zd9 1 Y1 [(0,st m.name)]=V (.l ([m.name].map cs) U U,Y1):=iz
   simp only[E,bQ]
   refine gfP (j:=3) o.bx O o.g3 (nb o.p3 H) A H (by rw[o.le];decide) oX oX O NA O λa' Y3 N B u N3=>?_
   rw[<-dg] at B
   exact an (o.up3 (new:=[m.name]) N B u N3) (u.keep _ _ (R o.p3 _ O O) e1) (u.keep _ _ (R o.p3 _ O O) e2) X X X NA n4 n5<|am G
 ·have bE:k=9:=X
  subst bE
  clear hk h
  refine yV (L p.ay) (λk _ Y=>∃(S:aOw) (a4 a5:AV),Wo Y (3,D) S a0 a1 a2 a3 a4 a5/\S.cells=w.cells/\S.ak=w.ak/\S.bC=w.bC/\S.bU=w.bU/\box Y (1,1)=V ⟨217,2,U,U,[p.c]⟩/\box Y (2,v2)=V ⟨34,6,U,U,[r]⟩/\L S.ay<=k/\L S.dU<=k*5000) X ?_
  rintro k _ Y2 hk ⟨S,x4,x5,v,w0,w1,w2,w3,f1,f2,m4,m5⟩
  have cu:=hp.2.1
  simp only[qz 157,qy 38,qy 48,au,eT,f1,v.bx,J9,ixv,bh]
  refine⟨λh=>⟨vp h,?_⟩,λh=>?_⟩
  rotate_left
  ·have:=aZ v f2 hr (by simp only[WBd,w0,w1,w2,w3];omega) (λ_=>by rw[w0];exact y Z)
   simp only[u1,v.bx,J9,↓uL] at this
   exact this
  have al:=aL h
  have aW:=(hp.2.2 _<|dB al).2
  generalize bK:gd p.ay k=tk at*
  have E:aX zd9 1 Y2 [(0,st tk.name)]=V (.l ([tk.name].map cs) U U,Y2):=iz
  simp only[E,bQ]
  have nb:∀{a:AV} {j:Nat},(∀q∈aA a,q.1=j)->j≠3->((3,D):Id)∉aA a:=X
  have R:∀{a:AV} {j:Nat},(∀q∈aA a,q.1=j)->∀q:Id,q.1≠3->q.1≠j->q∉((3,D):Id)::aA a:=X
  refine gfP (j:=4) v.bx O v.g4 (nb v.p4 H) A H (by rw[v.le];decide) oX oX O NA O λa' Y3 N B u N3=>?_
  rw[<-dg] at B
  have C:=v.up4 (new:=[tk.name]) N B u N3
  have h1:=u.keep _ _ (R v.p4 _ O O) f1
  have h2:=u.keep _ _ (R v.p4 _ O O) f2
  have cb:bS 4=585:=A
  have hm:L tk.body*bS 4<=8*bS 4:=qo _ aW.1
  simp only[qz 42]
  refine dT (by first|rfl|(simp[eL,okT,tok,lb,cq,Qh,aNG,dC,pP,dK];done)) ?_
  simp only[eT,C.bx,h1,J9,ixv,bh,bK]
  refine⟨dJ al,jH A (bdu k 4 (n:=0) C.le C.g5 aW X) ?_⟩
  rintro cv Y4 ⟨aP,n',l',rfl,g4,aJ,F4,i4,p4⟩
  refine⟨F4.len,?_⟩
  have p5:∀q∈aA aP,q.1=27:=λq y=>bum
  have bt:∀q:Id,q.1≠27->q∉aA x5:=λq h y=>h<|C.p5 q y
  have b4:=F4.keep _ _ (bt _ O) C.bx
  simp only[qz 44,rr,aY,u1,b4,aj]
  refine A0 b4 g4.ce O λY5 F5 b5=>?_
  simp only[qz 46]
  refine dT (by first|rfl|(simp[eL,okT,tok,lb,cq,Qh,aNG,dC,pP,dK];done)) ?_
  have cj:∀q:Id,q.1≠3->q∉[((3,D):Id)]:=X
  have K:Fx Y3 Y5 (aA x5++[(3,D)]):=F4.trans F5
  have P:∀q:Id,q.1≠27->q.1≠3->q∉aA x5++[((3,D):Id)]:=X
  have W5:Wo Y5 (3,D) {S with ay:=S.ay++[tk.name],dU:=l'} a0 a1 a2 a3 a' aP:=⟨b5,C.g0.fx K<|λq y=>P q bun bun,C.g1.fx K<|λq y=>P q buj buj,C.g2.fx K<|λq y=>P q buk buk,C.g3.fx K<|λq y=>P q bul bul,C.g4.fx K<|λq y=>P q X X,g4.fx F5 X,C.p0,C.p1,C.p2,C.p3,C.p4,p5,A,F5.len.trans<|F4.len.trans C.le⟩
  simp only[eQ]
  refine dR (mk:=λ(_:Unit) i=>[iv i]) (s:=()) (s':=()) (λ_ _=>A) al Z ⟨_,a',aP,W5,w0,w1,w2,w3,K.keep _ _ X h1,K.keep _ _ X h2,NA,?_⟩
  grind
def aUd:FT:=om aXi
def bb0:=aUy aUd aXi (j:=bno)
def aYc:dO:=(207,aUd)::a7B
def aX5:eJ aYc:=asq (rj aXi)<|aX4
def aQV:=ai @bb0<|@aWj
section
attribute[local irreducible] aX
def a5E:=I9 28 [(7,([7],[2,3,4,5,6])),(13,([],[2,3,4,5,6,7,8])),(16,([9],[2,3,4,5,6,7,8])),(21,([],[2,3,4,5,6,7,8]))]
def aUA a s0 R:=(.mk _:NF<|zF GGV aYc a5E Tryz.f126 [a] [] s0<|I3 Tryz.f126 R).p
def bgf{a:AV}{R:J3}(h:∀s0:ae,L s0=4096->(∀k,aZ s0 k=mO)->aUA a s0 R):Fn aS GG 126 [a] R:=by refine fnV (uq ready (aQ9 aX5) func126 (an:=a5E) a7c<|Eq.mpr (show ZF aS GGV aYc a5E Tryz.f126 [a] R=(aUA a (ly Tryz.f126) R) by kernel_rfl) ?_);exact h _ uB<|i8 _
def a9m:=I9 32 [(9,([8,9],[1,2,7])),(21,([12],[1,2,7,8,9,10,11])),(27,([14],[1,2,7,8,9,10,11,12,13]))]
def bgU{c0}:=y1 217 2 1 aX5 func125 a9m c0 [.a c0]
end
section
attribute[local irreducible] aX
def bgg{a a1}:=yB aNH func119 ato [a,a1]
def bgo{a a1}:=yB aNH func306 at1 [a,a1]
def bgm{a a1}:=yB aNH func303 atB [a,a1]
def bgl{a a1 b}:=yB aNH func307 auF [a,a1,b]
def a8R:=I9 47 [(13,([],[4,7]))]
def bgp{a a1}:=yB aNH func275 a8R [a,a1]
def a8S:=I9 9 [(4,([7,8],[0,1,2]))]
def aZ9 d(I1:aG)(m1:bu) e b a:=aV (gt d 1) (iv 1) λc=>I1 [b,c] a/\m1 [b,c] a<m1 d e
def aUQ a I1 m1 f d b:=eV (aX bs4 1 b [(0,d)]) λe c=>eV (apA 300 bsW 176 c 30 (gt a 0) e)<|aZ9 a I1 m1 f
def aRp k d a1 R I1 m1 b c:=Rg->aU (gt b 1) k λt3=>Qct t3 (gt b 1) λl=>Qot t3 (QbE l<|iv 0) λm=>Qct t3 m λa=>bX a d λe=>aC a (rV<|cO c e) λf=>Qlf a 2 c f λg=>aC a (aO .gtr g<|iv 0) λh=>Qot t3 (aD a (bv U) h) λi=>aD t3 i (bv I) λj=>ah j (cB 275 [d,a1] c 28<|aUQ b I1 m1 c)<|aRf R c [gt b 0]
def aUP a a1 b s0 R:=lV [.l [] U U,iv 0] s0<|aRp b a a1 R
def bgq{a a1 b:AV}{s0:ae}{R:be}(hs:L s0=4096)(h:aUP a a1 b s0 R):EB 212 [a,a1,b] s0 R:=zB a8S aNH func212 h
end
structure Tp(Y:ae)(b:Id)(l:eu)(at':Nat):Prop where
 bx:box Y b=V ⟨140,2,U,U,[[sl cu l,iv at']]⟩
 le:at'<=L l
 ok:∀x∈l,0<=x/\x<256
 ll:L l<4611686018427387904
theorem Tp.fx{Y Y' b l a ks}(T:Tp Y b l a)(F:Fx Y Y' ks)(h:b∉ks):Tp Y' b l a:=⟨F.keep _ _ h T.bx,T.le,T.ok,T.ll⟩
def a6S{Y l}:fS Y (sl cu l)=V (iv<|L l):=cT
def aWF{Y b l}{a:Nat}(q:L Y=4096)(T:Tp Y b l a)(n:Int):∃r Y1,(∃(x:Int) (f:Nat),r=iv x/\0<=x/\(1<=n->x<n)/\Tp Y1 b l f/\a<=f/\(a<L l->1<=n->f=a+1)/\Fx Y Y1 [b])/\cZ aS GG 119 [.p b 0 0,iv n] Y r Y1:=bgg q<|by have i:=T.bx;have:=T.ll;simp+contextual only[Oy i,eS,i,be3,bkl,bc5];refine⟨λh=>?_,λh=>?_⟩;refine⟨0,a,A,Z,λh=>Z,T,Z,λh1 h2=>?_,Fx.refl _ _⟩;grind;simp only[cP,yk] at h;have c:a<L l:=Z;rw[fX Z];refine A0 i A O λY1 j g=>?_;have s:=T.ok _<|dB c;simp only[qz 2,Oy g,eS,g,be3,bkl,bc5,List.set_cons_succ,List.set_cons_zero,a6E,cu,qM,aS6,aPR,aP1];have k:dq.wrap (((a+1:Nat):Int)-1)=(a:Int):=bqK;rw[k,bh,eM (x:=gd l a) Z Z];refine⟨dJ c,Z,_,a+1,A,Int.tmod_nonneg _ s.1,λh1=>Int.tmod_lt_of_pos _ Z,⟨g,c,T.ok,T.ll⟩,Z,λ_ _=>A,j⟩
def a55{Y b l}{a:Nat}(f:L Y=4096)(T:Tp Y b l a){n:Int}{d:Nat}{K}(g:∀(x:Int) (c:Nat) Y1,0<=x->(1<=n->x<n)->Tp Y1 b l c->a<=c->(a<L l->1<=n->c=a+1)->Fx Y Y1 [b]->K (iv x) Y1):cB 119 [.p b 0 0,iv n] Y d K:=jH A (aWF f T n)<|by grind [Fx.len]
structure w7(Y:ae)(m b:Id)(hs:List ByteArray)(h:AV):Prop where
 mx:∃(th lf:Int) (s tx at' lp:Bool),box Y m=V ⟨294,8,U,U,[[.p b 0 0,iv th,iv lf,bv s,bv tx,bv at',bv lp,h]]⟩
 tp:∃l a,Tp Y b l a
 gh:J7 Y 9 1 h (hs.map cs)
 le:L Y=4096
 sm:m.1=16
 sb:b.1=14
 sh:∀q∈aA h,q.1=15
section
variable{Y Y':ae}{m b:Id}{hs:List ByteArray}{h:AV}{d:Nat}{K:be}
theorem w7.ne(M:w7 Y m b hs h):m≠b:=(by grind [w7.sm,w7.sb])
theorem w7.fx{ks}(M:w7 Y m b hs h)(F:Fx Y Y' ks)(h1:m∉ks)(h2:b∉ks)(c:∀q∈aA h,q∉ks):w7 Y' m b hs h:=by obtain⟨k,i,s,tx,f,j,g⟩:=M.mx;obtain⟨l,a,T⟩:=M.tp;exact⟨brU,⟨l,a,T.fx F h2⟩,M.gh.fx F c,F.len.trans M.le,M.sm,M.sb,M.sh⟩
theorem w7.fx0(M:w7 Y m b hs h)(F:Fx Y Y' []):w7 Y' m b hs h:=(by grind [w7.fx])
theorem w7.nb(M:w7 Y m b hs h):∀q∈aA h,q∉[b]:=(by grind [w7.sh,w7.sb])
theorem w7.nm(M:w7 Y m b hs h):∀q∈aA h,q∉[m]:=(by grind [w7.sh,w7.sm])
theorem aO4(M:w7 Y m b hs h){n}(g:∀(x) Y1,0<=x->(1<=n->x<n)->w7 Y1 m b hs h->Fx Y Y1 [b]->K (iv x) Y1):cB 119 [.p b 0 0,iv n] Y d K:=by obtain⟨r,k,s,tx,i,q,j⟩:=M.mx;obtain⟨l,a,T⟩:=M.tp;refine a55 M.le T λx c Y1 h1 h2 f _ _ F=>g x Y1 h1 h2 ⟨(by grind [Fx.keep,w7.ne]),⟨l,c,f⟩,M.gh.fx F M.nb,F.len.trans M.le,M.sm,M.sb,M.sh⟩ F
theorem aPJ(M:w7 Y m b hs h){j x K}(c:(j=1\/j=2)/\(∃n:Int,x=iv n)\/(3<=j/\j<=6)/\∃u:Bool,x=bv u)(f:∀Y1,w7 Y1 m b hs h->Fx Y Y1 [m]->K Y1):sV (aK 1 Y (.p m 0 j) x) K:=by obtain⟨w,r,s,tx,k,v,g⟩:=M.mx;obtain⟨l,a,T⟩:=M.tp;have i:eY x=V [x]:=(by rcases c with⟨_,n,rfl⟩|⟨_,u,rfl⟩<;>rfl);refine A0 g i NA λY1 F q=>f Y1 ⟨?_,⟨l,a,T.fx F<|by simpa using M.ne.symm⟩,M.gh.fx F M.nm,F.len.trans M.le,M.sm,M.sb,M.sh⟩ F;rcases c with⟨h1|h1,n,rfl⟩|⟨h1,u,rfl⟩;simp_all;simp_all;obtain rfl|rfl|rfl|rfl:j=3\/j=4\/j=5\/j=6:=Z;simp_all;simp_all;simp_all;simp_all
def bdh(M:w7 Y m b hs h)(g:L hs<1000)(s):∃r Y1,((∃v,r= .s v/\∃u:Bool,v= .bool u)/\Fx Y Y1 [])/\cZ aS GG 306 [.p m 0 0,st s] Y r Y1:=bgo M.le<|by obtain⟨k,i,s,tx,f,j,a⟩:=M.mx;have c:dG Y h=sl cs hs:=M.gh.ar;simp only[Oy a,eS,a,be3,bkl,bc5,jM,kU,jt,c,tW,aD6,AL,ni];exact⟨Z,⟨_,A,_,A⟩,Fx.refl _ _⟩
theorem aQP(M:w7 Y m b hs h)(a:L hs<1000){s}(c:∀u,K (bv u) Y):cB 306 [.p m 0 0,st s] Y d K:=aV6 A (bdh M a s) FA
def isE(k:Nat)(r:AV):Prop:=∃(e:aNK) (t o:Bool),shE k e/\r= .a [iv e.op,iv e.n,st e.name, .l (e.l.map aNK.c) t o]
theorem isE.mono{k n r}(h:isE k r)(a:k<=n):isE n r:=by obtain⟨e,t,o,h1,h2⟩:=h;exact⟨e,t,o,h1.mono a,h2⟩
def ExR(Y:ae)(m b:Id)(hs:List ByteArray)(h:AV)(k:Nat)(r:AV)(Y1:ae):Prop:=isE k r/\w7 Y1 m b hs h/\Fx Y Y1 [b]
theorem aTx{q T}{z:Nat}{r cs R}(f:box Y q=V ⟨T,z,U,U,[r]⟩)(i:L r=z)(g:L cs=z)(c:∀Y1,Fx Y Y1 [q]->R (.a cs) Y1):sV (aK z Y (.p q 0 0)<|.a cs) λs=>rV (sA (V z) s<|.p q 0 0) λt=>aRf R s [t]:=yv f i g λY1 F j=>by have:sA (V z) Y1 (.p q 0 0)=V (.a cs):=(by grind [sA,iE,aN]);rw[this];exact c Y1 F
def baK{Y}:aX zd9 7 Y [(0,sv [97]),(1,sv [98]),(2,sv [120]),(3,sv [121]),(4,sv [118]),(5,sv [120]),(6,sv [121])]=V (.l ([⟨#[97]⟩,⟨#[98]⟩,⟨#[120]⟩,⟨#[121]⟩,⟨#[118]⟩,⟨#[120]⟩,⟨#[121]⟩].map cs) U U,Y):=a7c
def baN{Y}:aX bH 6 Y [(0,iv 6),(1,iv 7),(2,iv 8),(3,iv 11),(4,iv 13),(5,iv 17)]=V (.l ([6,7,8,11,13,17].map ci) U U,Y):=a7c
def aSY{e:aNK}{t o}:dG Y (.a [iv e.op,iv e.n,st e.name, .l (e.l.map aNK.c) t o])= .a e.c:=bsq
theorem aXO{x c d r}(h:aNN (.a c)=[])(f:aNN (.a d)=[]):lo Y [.s x, .a c, .a d] r=True:=by have:aNN (.s x)=[]:=A;grind [lo,nA]
def aXP{x c r}(h:aNN (.a c)=[]):lo Y [.s x, .a c] r=True:=by have e:aNN (.s x)=[]:=A;simp[lo,nA,h,e]
def a6T{x r}:lo Y [.s x] r=True:=by simp[lo,nA,aNN,iR]
def aWC{k e}(h:shE k e):isE k (.a e.c):=⟨e,I,I,h,bsq⟩
theorem buI{p:Prop}(h:p:=by grind [Go.Ab.w7.sh]):p:=h
def buJ{p:Prop}(h:p:=by simp[Go.Ab.aNK.l]):p:=h
theorem a6K{n}(hn:n<=1)(ih:n=1->∀{Y},w7 Y m b hs h->∃r Y1,ExR Y m b hs h 1 r Y1/\cZ aS GG 303 [.p m 0 0,iv 0] Y r Y1)(M:w7 Y m b hs h):
  ∃r Y1,ExR Y m b hs h (n+1) r Y1/\cZ aS GG 303 [.p m 0 0,iv n] Y r Y1:=by
 obtain⟨m1,G⟩:=m
 obtain rfl:m1=16:=M.sm
 obtain⟨b1,z⟩:=b
 obtain rfl:b1=14:=M.sb
 refine bgm M.le ?_
 refine pz M.le λv s1 W N1 q1=>?_
 simp only[qz 2,baK,bQ]
 have M1:=M.fx0 W
 obtain⟨th,lf,s,tx,ad,lp,R⟩:=M1.mx
 simp only[qz 4,Oy R,eS,R,be3,bc5]
 refine aO4 M1 λx s2 h1 h2 E F2=>?_
 have h2:=h2 H
 obtain⟨th,lf,s,tx,ad,lp,D⟩:=E.mx
 have P:=F2.kq q1
 have N:Fx Y s2 [(14,z)]:=(W.trans F2).mono O
 have C:∀{g k:ae} {r:AV},isE (n+1) r->w7 g (16,G) (14,z) hs h->Fx Y g [(14,z)]->Fx g k [(4,v)]->ExR Y (16,G) (14,z) hs h (n+1) r k:=λF j f i=>
  ⟨F,j.fx i O O<|λq hq e=>buI,(f.trans i).mono aUw⟩
 have T:∀{g:ae} {d:Nat} {K:be},n=1->w7 g (16,G) (14,z) hs h->(∀r k,isE 1 r->w7 k (16,G) (14,z) hs h->Fx g k [(14,z)]->K r k)->cB 303 [.p (16,G) 0 0,iv 0] g d K:=λh1 j hK=>by
  refine jH A (ih h1 j) ?_
  rintro r k ⟨g1,u,g3⟩
  grind [Fx.len]
 simp+contextual only[qz 6,qy 16,Oy D,eS,D,be3,bc5,gT]
 refine⟨λ_=>?_,λhc=>⟨λ_=>?_,λh7=>⟨λh8=>?_,λh8=>?_⟩⟩⟩
 ·refine aO4 E λy g g1 u j f=>?_
  have B:=f.kq P
  simp only[qz 8,qy 10,jM,kU,jt,tW,aD6,a6T,ni]
  exact aTx B A aN9 λk i=>C (aWC ⟨.inl ⟨.inl A,A⟩,buJ⟩) j ((N.trans f).mono O) i
 ·refine aO4 E λy g g1 u j f=>?_
  have B:=f.kq P
  have u:=u H
  simp only[qz 12,qy 14,amZ,eQ,rk,J9,jM,kU,jt,tW,aD6,a6T,ni]
  exact⟨⟨g1,u⟩,aTx B A aN9 λk i=>C (aWC ⟨.inl ⟨.inr A,A⟩,buJ⟩) j ((N.trans f).mono O) i⟩
 ·have w:n=1:=X
  refine T w E λr g F j f=>?_
  have B:=f.kq P
  obtain⟨e,t,o,he,rfl⟩:=F
  have ag:aX bvY 1 g [(0, .a [iv e.op,iv e.n,st e.name, .l (e.l.map aNK.c) t o])]=V (.l [e.c] U U,g):=aQm bsq aN9 H bsq H
  simp only[ag,bQ,qz 18,qy 20]
  have af:bM bvA bst [(0,iv 3),(2,sv [113]),(3, .l [e.c] U U)]=V (.a [iv 3,iv 0,sv [113], .l [e.c] U U]):=A
  simp only[af,aY]
  refine aTx B A rfl λk i=>C ⟨aNK.mk 3 0 ⟨#[113]⟩ [e],U,U,⟨.inr<|.inl ⟨A,A,A⟩,?_⟩,A⟩ j ((N.trans f).mono O) i
  grind [aNK.l]
 ·have w:n=1:=X
  have e0:dq.wrap ((n:Int)-1)=0:=by subst w;rfl
  simp only[baN,bQ,qz 22,Oy D,eS,D,be3,bc5,gT]
  refine aO4 E λy g g1 u j f=>?_
  have u:=u H
  have B:=f.kq P
  simp only[qz 24,tf,eQ,rk,J9,e0]
  refine⟨⟨g1,u⟩,T w j λr k F M4 i=>?_⟩
  have q4:=i.kq B
  simp only[qz 26,eQ,e0]
  refine T w M4 λr' s5 ah M5 F5=>?_
  have q5:=F5.kq q4
  obtain⟨e,t,o,he,rfl⟩:=F
  obtain⟨e',t',o',aC,rfl⟩:=ah
  have S:6<=gd [(6:Int),7,8,11,13,17] y.toNat:=by
   grind [dB]
  generalize gd [(6:Int),7,8,11,13,17] y.toNat=op at S
  simp only[qz 28,jM,kU,jt,tW,aSY,aD6]
  rw[aXO A rfl]
  refine⟨trivial,yv q5 A aN9 λs6 F6 b6=>?_⟩
  refine dT (by simp[eL,lb,cq,Qh,aNG,dC,dK]) ?_
  have:sA (V 4) s6 (.p (4,v) 0 0)=V (.a (aNK.mk op 0 ⟨#[]⟩ [e,e']).c):=by grind [aC5,a69]
  (try rw[art]);rw[this]
  refine C (aWC ⟨.inr<|.inr ⟨S,A⟩,?_⟩) M5 ((((N.trans f).trans i).trans F5).mono O) F6
  grind [aNK.l]
def a6J(M:w7 Y m b hs h):∃r Y1,ExR Y m b hs h 1 r Y1/\cZ aS GG 303 [.p m 0 0,iv 0] Y r Y1:=a6K (n:=0) Z (λh=>Z) M
def bdg(M:w7 Y m b hs h):∃r Y1,ExR Y m b hs h 2 r Y1/\cZ aS GG 303 [.p m 0 0,iv 1] Y r Y1:=a6K (n:=1) Z (λ_ {Y} M=>a6J M) M
theorem baU(M:w7 Y m b hs h)(f:∀r Y1,isE 2 r->w7 Y1 m b hs h->Fx Y Y1 [b]->K r Y1):cB 303 [.p m 0 0,iv 0] Y d K:=jH A (a6J M)<|by rintro r g ⟨g1,a,c⟩;grind [Fx.len,isE.mono]
theorem aQO(M:w7 Y m b hs h)(f:∀r Y1,isE 2 r->w7 Y1 m b hs h->Fx Y Y1 [b]->K r Y1):cB 303 [.p m 0 0,iv 1] Y d K:=jH A (bdg M)<|by rintro r g ⟨g1,a,c⟩;grind [Fx.len]
structure RH(m b:Id)(Y:ae)(h:AV)(Y1:ae)(h1:AV):Prop where
 f:Fx Y Y1 (m::b::aA h)
 i:∀q∈aA h1,q∈aA h\/bK Y q
section
variable{Y2 Y1:ae}{h1 h2:AV}
theorem RH.refl:RH m b Y h Y h:=⟨Fx.refl _ _,λ_ g=> .inl g⟩
theorem RH.trans(a:RH m b Y h Y1 h1)(c:RH m b Y1 h1 Y2 h2):RH m b Y h Y2 h2:=by refine⟨(a.f.trans c.f).mono λq j=>?_,λq j=>(c.i q j).elim (a.i q) λg=> .inr<|g.old a.f⟩;grind [RH.i,bK.no]
theorem RH.of{ks}(F:Fx Y Y1 ks)(a:∀q∈ks,q=m\/q=b\/bK Y q):RH m b Y h Y1 h:=⟨(by grind [Fx.mono,bK.no]),λ_ g=> .inl g⟩
theorem RH.ofb(F:Fx Y Y1 [b]):RH m b Y h Y1 h:= .of F O
def RH.ofm(F:Fx Y Y1 [m]):RH m b Y h Y1 h:= .of F O
def RH.of0(F:Fx Y Y1 []):RH m b Y h Y1 h:= .of F O
theorem RH.new(a:RH m b Y h Y1 h1){q}(F:Fx Y1 Y2 [q])(c:bK Y q):RH m b Y h Y2 h1:=⟨(a.f.trans F).mono aUw,a.i⟩
theorem w7.out(M:w7 Y m b hs h):∀q,q.1≠14->q.1≠15->q.1≠16->q∉m::b::aA h:=λq g1 a c f=>by
 grind [w7.sm,w7.sb,w7.sh]
end
def aTj{x:amt}:aNN (.a x.c)=[]:=bsd
def aYy{a}{x:amt}:Lv a Y x.c x.c:=⟨bsd,by rw[aTj];simp⟩
def aPq{f op nm i index e t o u o' bd a body els}(k:J7 Y 300 11 bd<|body.map amt.c)(p:J7 Y 300 11 a<|els.map amt.c)(r:∀q∈aA bd,bK f q)(s:∀q∈aA a,bK f q):Lv f Y [iv op,iv 0,st nm,st i, .l (index.map aNK.c) u o',iv e.op,iv e.n,st e.name, .l (e.l.map aNK.c) t o,bd,a] (amt.mk op 0 nm i index e body els).c:=by refine⟨?_,λq j=>?_⟩;rw[apT];simp only[ji,mU,aOb k,aOb p,aQ5,aXQ];rfl;simp only[aNN,Cz,RN,iR,dW,cL,dF] at j;rcases j with g|g;(exact r q<|by cases bd<;>first|exact g|simp[iR] at g);exact s q (by cases a<;>first|exact g|simp[iR] at g)
def aPB{op nm j}{index:List aNK}{e:aNK}{t o r o' bd f}{P:Id->Prop}(k:∀q∈aA bd,P q)(p:∀q∈aA f,P q):∀q∈aNN (.a [iv op,iv 0,st nm,st j, .l (index.map aNK.c) r o',iv e.op,iv e.n,st e.name, .l (e.l.map aNK.c) t o,bd,f]),P q:=λq i=>by
 simp only[aNN,Cz,RN,iR,dW,cL,dF] at i
 rcases i with g|g
 ·exact k q (by cases bd<;>first|exact g|simp[iR] at g)
 ·exact p q (by cases f<;>first|exact g|simp[iR] at g)
def SmR(Y:ae)(m b:Id)(hs:List ByteArray)(h:AV)(d:Nat)(r:AV)(Y1:ae):Prop:=∃cs x f,r= .a cs/\Lv Y Y1 cs (amt.c x)/\(∀q∈aNN (.a cs),q.1=30\/q.1=126)/\shS (d+1) x/\w7 Y1 m b hs f/\RH m b Y h Y1 f
def SsR(Y:ae)(m b:Id)(hs:List ByteArray)(h:AV)(d:Nat)(n:Int)(r:AV)(Y1:ae):Prop:=∃(l:List amt) (a:AV),J7 Y1 300 11 r (l.map amt.c)/\L l<=n/\(∀x∈l,shS (d+1) x)/\(∀q∈aA r,bK Y q/\q.1=30)/\w7 Y1 m b hs a/\RH m b Y h Y1 a
def aQH(m b:Id)(d:Nat):Prop:=∀{Y:ae} {hs:List ByteArray} {h:AV} {n:Int},w7 Y m b hs h->L hs+d<=500->0<=n->n<=3->∃r Y1,SsR Y m b hs h d n r Y1/\cZ aS GG 212 [.p m 0 0,iv d,iv n] Y r Y1
theorem aQQ{D:Nat}(w:aQH m b D)(M:w7 Y m b hs h)(v:L hs+D<=500){i n:Int}(u:i=D)(k:0<=n)(s:n<=3)(E:∀(a) (l:List amt) (g) Y1,J7 Y1 300 11 a (l.map amt.c)->(L l:Int)<=n->(∀x∈l,shS (D+1) x)->(∀q∈aA a,bK Y q/\q.1=30)->w7 Y1 m b hs g->RH m b Y h Y1 g->K a Y1):cB 212 [.p m 0 0,iv i,iv n] Y d K:=by subst u;refine jH A (w M v k s) ?_;rintro r Y1 ⟨l,g,g1,y,z,B,C,j⟩;exact⟨j.f.len,X⟩
def baO{Y x}:aX zd9 1 Y [(0,st x)]=V (.l ([x].map cs) U U,Y):=iz
theorem bdS(M:w7 Y m b hs h){h1 c K}(g:J7 Y 9 1 h1<|c.map cs)(j:∀q∈aA h1,q.1=15)(f:∀Y1,w7 Y1 m b c h1->Fx Y Y1 [m]->K Y1):sV (aK 1 Y (.p m 0 7) h1) K:=by obtain⟨v,r,s,tx,k,u,i⟩:=M.mx;obtain⟨l,a,T⟩:=M.tp;refine A0 i g.ce O λY1 F n=>f Y1 ⟨FA,⟨l,a,T.fx F<|by simpa using M.ne.symm⟩,(by grind [J7.fx,w7.sm]),F.len.trans M.le,M.sm,M.sb,j⟩ F
theorem bdd{D:Nat}(ih:aQH m b D)(M:w7 Y m b hs h)(hl:L hs+D+1<=500){s}{S:Int}(hd:S=D):∃r Y1,SsR Y m b hs h D 2 r Y1/\cZ aS GG 307 [.p m 0 0,st s,iv S] Y r Y1:=bgl M.le<|by obtain⟨N,C,s',tx,j,E,B⟩:=M.mx;simp only[qy 2,Oy B,eS,B,be3,bkl,bc5,baO];refine apQ M.gh M.le O O O NA λy G z u N4=>?_;rw[<-dg] at z;have n:=u.keep _ _ (λc=>by have:=M.sh _ c;have:=M.sm;omega) B;have M4:∀{Y':ae} {K:ae->Prop},(∀Y1,w7 Y1 m b (hs++[s]) y->Fx G Y1 [m]->K Y1)->sV (aK 1 G (.p m 0 7) y) K:=λ{Y' K} hK=>(by obtain⟨l,a,T⟩:=M.tp;refine A0 n z.p.ce O λY1 F b1=>hK Y1 ⟨⟨N,C,s',tx,j,E,b1⟩,⟨l,a,(T.fx u<|by grind [w7.sh,w7.sb]).fx F<|by simpa using M.ne.symm⟩,z.p.fx F (by grind [w7.sm]),F.len.trans<|u.len.trans M.le,M.sm,M.sb,λq c=>(N4 q c).2⟩ F);simp only[qz 4,Oy n,eS,n];refine M4 (Y':=G) λs5 R F5=>?_;obtain⟨N,C,s',tx,j,E,v⟩:=R.mx;simp only[qz 6,Oy v,eS,v,be3,bc5];refine aO4 R λx s6 h1 h2 M6 F6=>?_;have h2:=h2 H;simp only[qz 8,eQ,eM (x:=1+x) Z Z];refine aQQ ih M6 NA hd Z Z λa l h' s7 g1 g2 g3 k g R7=>?_;obtain⟨N,C,s',tx,j,E,w⟩:=g.mx;simp only[qz 10,qy 12,Oy w,eS,w,be3,bkl,bc5,g.gh.ln,bJ,a6G,bZ,bhZ];have e1:dq.wrap (((L hs+(0+1):Nat):Int)-1)=(L hs:Int):=bqK;rw[e1];refine slP g.gh Z NA λa8 W e8=>?_;rw[bh,dg,List.take_left' O] at W;refine bdS g W (λq c=>g.sh q<|e8▸c) λs9 M9 P=>?_;have R4:RH m b Y h s6 y:=⟨((u.trans F5).trans F6).mono X,FA⟩;have R9:=(R4.trans R7).trans<|.ofm P;exact⟨l,a8,g1.fx P (λq c e=>by have:=(k q c).2;have:=M.sm;simp at e;subst e;omega),Z,g3,λq c=>⟨(k q c).1.old R4.f,(k q c).2⟩,M9,⟨R9.f,by grind [RH.i]⟩⟩
def aPh{a K}:gF U a Y K=a K:=rfl
def aOq{a K}:gF I a Y K=K (.t []) Y:=rfl
def baJ:aX zd9 4 Y [(0,sv [120]),(1,sv [121]),(2,sv [120]),(3,sv [118])]=V (.l ([⟨#[120]⟩,⟨#[121]⟩,⟨#[120]⟩,⟨#[118]⟩].map cs) U U,Y):=a7c
def aV4:aX zd9 2 Y [(0,sv [97]),(1,sv [98])]=V (.l ([⟨#[97]⟩,⟨#[98]⟩].map cs) U U,Y):=a7c
def a5Z:aX zd9 2 Y [(0,sv [109]),(1,sv [110])]=V (.l ([⟨#[109]⟩,⟨#[110]⟩].map cs) U U,Y):=a7c
def baH{e:aNK}{t o:Bool}:aX bvY 1 Y [(0, .a [iv e.op,iv e.n,st e.name, .l (e.l.map aNK.c) t o])]=V (.l ([e].map aNK.c) U U,Y):=aQm bsq aN9 H bsq H
def a50{x:amt}:aX bs4 1 Y [(0, .a x.c)]=V (.l ([x].map amt.c) U U,Y):=ua bsd aTj brR H bsd H
section
variable{o:Int}{nm:ByteArray}{x:AV}{e:aNK}{t o':Bool}{body:List amt}{bA:List (dM)}
def a5O(f:J7 Y 300 11 x bA):bM bsW alz [(0,iv o),(5, .a [iv e.op,iv e.n,st e.name, .l (e.l.map aNK.c) t o']),(6,x)]=V (.a [iv o,iv 0,st ⟨#[]⟩,st ⟨#[]⟩, .l (([]:List aNK).map aNK.c) U U,iv e.op,iv e.n,st e.name, .l (e.l.map aNK.c) t o',x, .l [] U U]):=by rcases f with⟨_,rfl⟩|⟨q,m,rfl,_⟩<;>rfl
def aSZ(f:J7 Y 300 11 x bA):bM bsW alz [(0,iv o),(2,st nm),(6,x)]=V (.a [iv o,iv 0,st nm,st ⟨#[]⟩, .l (([]:List aNK).map aNK.c) U U,iv (aNK.mk 0 0 ⟨#[]⟩ []).op,iv (aNK.mk 0 0 ⟨#[]⟩ []).n,st (aNK.mk 0 0 ⟨#[]⟩ []).name, .l ((aNK.mk 0 0 ⟨#[]⟩ []).l.map aNK.c) U U,x, .l [] U U]):=by rcases f with⟨_,rfl⟩|⟨q,m,rfl,_⟩<;>rfl
def a5P(f:J7 Y 300 11 x bA):bM bsW alz [(0,iv o),(6,x)]=V (.a [iv o,iv 0,st ⟨#[]⟩,st ⟨#[]⟩, .l (([]:List aNK).map aNK.c) U U,iv (aNK.mk 0 0 ⟨#[]⟩ []).op,iv (aNK.mk 0 0 ⟨#[]⟩ []).n,st (aNK.mk 0 0 ⟨#[]⟩ []).name, .l ((aNK.mk 0 0 ⟨#[]⟩ []).l.map aNK.c) U U,x, .l [] U U]):=by rcases f with⟨_,rfl⟩|⟨q,m,rfl,_⟩<;>rfl
def bam{E:aNK}(f:J7 Y 300 11 x bA):bM bsW alz [(0,iv o),(5, .a E.c),(6,x)]=V (.a [iv o,iv 0,st ⟨#[]⟩,st ⟨#[]⟩, .l (([]:List aNK).map aNK.c) U U,iv E.op,iv E.n,st E.name, .l (E.l.map aNK.c) I I,x, .l [] U U]):=by rw[aoH];exact a5O f
def a5Q:bM bsW alz [(0,iv o),(2,st nm),(6, .l (body.map amt.c) t o')]=V (.a [iv o,iv 0,st nm,st ⟨#[]⟩, .l (([]:List aNK).map aNK.c) U U,iv (aNK.mk 0 0 ⟨#[]⟩ []).op,iv (aNK.mk 0 0 ⟨#[]⟩ []).n,st (aNK.mk 0 0 ⟨#[]⟩ []).name, .l ((aNK.mk 0 0 ⟨#[]⟩ []).l.map aNK.c) U U, .l (body.map amt.c) t o', .l (([]:List amt).map amt.c) U U]):=rfl
end
def aRm{f op nm a index e t o j o' k i t3 o3 body els}:Lv f Y [iv op,iv 0,st nm,st a, .l (index.map aNK.c) j o',iv e.op,iv e.n,st e.name, .l (e.l.map aNK.c) t o, .l (body.map amt.c) k i, .l (els.map amt.c) t3 o3] (amt.mk op 0 nm a index e body els).c:=by refine⟨?_,λq g=>?_⟩;rw[apT];simp only[ji,mU,aQ5,aXQ];rfl;simp[aNN,iR] at g
theorem aOJ{n:Nat}{op:Int}{nm f index e body els}(h1:(op=1\/op=2\/op=3\/op=14)->shE 2 e)(h2:index=[]\/∃y,index=[y]/\shE 2 y/\nm=qN)(i:L e.l<=2)(j:L body<=4)(a:∀x∈body,shS n x)(k:L els<=4)(c:∀x∈els,shS n x)(p:1<=op/\op<=15):shS (n+1) (amt.mk op 0 nm f index e body els):=by refine⟨h1,?_,?_,?_,i,j,a,k,c,p⟩;show L index<=1;grind;show∀x∈index,shE 2 x;grind;intro h;rcases h2 with rfl|⟨y,rfl,_,g⟩;exact aOx A h;exact g
theorem aOI{n:Nat}{op:Int}{nm a index e}(h1:(op=1\/op=2\/op=3\/op=14)->shE 2 e)(h2:index=[]\/∃y,index=[y]/\shE 2 y/\nm=qN)(c:L e.l<=2)(f:1<=op/\op<=15):shS (n+1) (amt.mk op 0 nm a index e [] []):=(by grind [aOJ])
theorem aS4{D:Nat}(u:aQH m b D)(M:w7 Y m b hs h)(n:L hs+D+1<=500){s}{i:Int}(k:i=D)(B:∀(a) (l:List amt) (g) Y1,J7 Y1 300 11 a (l.map amt.c)->(L l:Int)<=2->(∀x∈l,shS (D+1) x)->(∀q∈aA a,bK Y q/\q.1=30)->w7 Y1 m b hs g->RH m b Y h Y1 g->K a Y1):cB 307 [.p m 0 0,st s,iv i] Y d K:=jH A (bdd u M n k)<|by rintro r Y1 ⟨l,g,g1,v,w,y,z,j⟩;exact⟨j.f.len,X⟩
theorem aEa{q T}{z:Nat}{o u r}(c:box Y q=V ⟨T,z,o,u,[r]⟩)(f:L r=z):sA (V z) Y (.p q 0 0)=V (.a r):=by grind [sA,iE,aN]
theorem aP2{D}(h:D+1<1000):dq.wrap (((D+1:Nat):Int)-1)=(D:Int):=bqK
def baQ:aX bs4 2 Y [(0, .a [iv 9,iv 0,sv [99],sv [], .l [] U U,iv 0,iv 0,sv [], .l [] U U, .l [] U U, .l [] U U]),(1, .a (amt.mk 1 0 ⟨#[97]⟩ ⟨#[]⟩ [] (aNK.mk 2 0 ⟨#[120]⟩ []) [] []).c)]=V (.l ([amt.mk 9 0 ⟨#[99]⟩ ⟨#[]⟩ [] (aNK.mk 0 0 ⟨#[]⟩ []) [] [],amt.mk 1 0 ⟨#[97]⟩ ⟨#[]⟩ [] (aNK.mk 2 0 ⟨#[120]⟩ []) [] []].map amt.c) U U,Y):=a7c
def baL{o:Int}:aX bs4 1 Y [(0, .a [iv o,iv 0,sv [99],sv [], .l [] U U,iv 0,iv 0,sv [], .l [] U U, .l [] U U, .l [] U U])]=V (.l ([amt.mk o 0 ⟨#[99]⟩ ⟨#[]⟩ [] (aNK.mk 0 0 ⟨#[]⟩ []) [] []].map amt.c) U U,Y):=a7c
def buK{p:Prop}(h:p:=by simp[Go.Ab.aNN,Go.Ab.iR]):p:=h
theorem btN{p:Prop}(h:p:=by grind [Go.Ab.brR]):p:=h
theorem bvj{p:Prop}(h:p:=by grind [Go.Ab.bK.no,Go.Ab.bK.old]):p:=h
theorem bdy{D:Nat}(ih:∀j,j<D->aQH m b j)(M:w7 Y m b hs h)(hl:L hs+D<=500):∃r Y1,SmR Y m b hs h D r Y1/\cZ aS GG 275 [.p m 0 0,iv D] Y r Y1:=by
 obtain⟨m1,m2⟩:=m
 obtain rfl:m1=16:=M.sm
 obtain⟨b1,b2⟩:=b
 obtain rfl:b1=14:=M.sb
 refine bgp M.le ?_
 refine pz M.le λv s1 F1 N1 q1=>?_
 have M1:=M.fx0 F1
 obtain⟨th,lf,s,tx,a1,lp,ak⟩:=M1.mx
 simp only[qz 2,Oy ak,eS,ak,be3,bkl,bc5]
 refine aPJ M1 O λs2 M2 F2=>?_
 have q2:=F2.kq q1
 obtain⟨th,lf,s,tx,a1,lp,bj⟩:=M2.mx
 simp only[qz 4,Oy bj,eS,bj,be3,bc5]
 refine aO4 M2 λx s3 h1 h2 N F3=>?_
 have h2:=h2 H
 have q3:=F3.kq q2
 have T:RH (16,m2) (14,b2) Y h s3 h:=((RH.of0 F1).trans<|.ofm F2).trans<|.ofb F3
 have S:∀{C:ae} {cs r:dM} {x:amt} {h4:AV},w7 C (16,m2) (14,b2) hs h4->RH (16,m2) (14,b2) Y h C h4->box C (4,v)=V ⟨300,11,U,U,[r]⟩->L r=11->Lv Y C cs x.c->(∀q∈aNN (.a cs),q.1=30\/q.1=126)->shS (D+1) x->
   sV (aK 11 C (.p (4,v) 0 0)<|.a cs) λs=>rV (sA (V 11) s<|.p (4,v) 0 0) λt=>aRf (SmR Y (16,m2) (14,b2) hs h D) s [t]:=λ{C cs r x h4} B R4 q4 hr L4 hi a7=>
  aTx q4 hr (by have:=bqD L L4.eq;grind [brR]) λs5 F5=>⟨cs,x,h4,A,L4.fx F5 X aS7,hi,a7,B.fx F5 O O<|λq w e=>buI,R4.new F5 N1⟩
 have out:∀{C s5:ae} {h4 h5:AV} {q:Id} {x:bY},w7 C (16,m2) (14,b2) hs h4->RH (16,m2) (14,b2) C h4 s5 h5->(q.1≠14/\q.1≠15/\q.1≠16)->box C q=V x->box s5 q=V x:=λB R g w=>R.f.keep _ _ (B.out _ g.1 g.2.1 g.2.2) w
 have a6:∀{C s6:ae} {x:amt} {h4:AV},w7 C (16,m2) (14,b2) hs h4->RH (16,m2) (14,b2) Y h C h4->Fx C s6 [(4,v)]->box s6 (4,v)=V ⟨300,11,U,U,[x.c]⟩->shS (D+1) x->aw 11 s6 (.p (4,v) 0 0) λt=>aRf (SmR Y (16,m2) (14,b2) hs h D) s6 [t]:=λ{C s6 x h4} B R4 F b6 a7=>by
  rw[art,aEa b6 brR]
  exact⟨_,x,h4,A,aYy,by rw[aTj];simp,a7,B.fx F O O<|λq w e=>buI,R4.new F N1⟩
 simp only[qz 6,qy 22,qy 126]
 generalize hE:@qp _ 128 ⟨_⟩=E
 have bi:∀{C:ae} {d:Nat},w7 C (16,m2) (14,b2) hs h->RH (16,m2) (14,b2) Y h C h->box C (4,v)=V ⟨300,11,U,U,[bsW]⟩->cB 303 [.p (16,m2) 0 0,iv 1] C d E:=λ{C d} B R4 q4=>by
  refine aQO B λr s5 hr P F5=>?_
  obtain⟨e,t,o,he,rfl⟩:=hr
  have q5:=F5.kq q4
  simp only[<-hE,qz 128,qy 130,jM,kU,jt,tW,aSY,aD6]
  refine⟨by simp[lo,nA,aNN,iR],S P (R4.trans<|.ofb F5) q5 A aYy (by rw[aTj];simp) ?_⟩
  exact⟨λ_=>he,by simp[amt.index],by simp[amt.index],by simp[amt.index],he.len,by simp[amt.body],by simp[amt.body],by simp[amt.els],by simp[amt.els],by simp[amt.op],by simp[amt.op]⟩
 obtain⟨th,lf,s,tx,a1,lp,k⟩:=N.mx
 have hx:(x<4/\0<=x)\/x=4\/x=5\/x=6\/x=7\/x=8\/x=9\/x=10\/x=11\/x=12\/x=13\/x=14\/x=15\/x=16\/x=17:=Z
 have bz:∀K:J3,(∀nb:Bool,(nb=U->0<D)->K (bv nb))->aO .gtr (iv D) (iv 0) λaN=>Qct aN (.p (16,m2) 0 0) λcd=>Qot aN (rV<|cO s3 cd) λcg=>aT aN 2 s3 cg λch=>Qot aN (aO .gtr ch<|iv 0) λci=>aD aN ci (bv I) λaP=>Qct aP (.p (16,m2) 0 0) λcj=>Qot aP (rV<|cO s3 cj) λck=>aT aP 4 s3 ck λcl=>Qot aP (cf cl) λcm=>aD aP cm (bv I) λcn=>K cn:=by
  intro K hK
  rcases oD D with h0|h0
  ·have e:Q ((0:Int)<(D:Int))=I:=by simp[h0]
   simp only[e,eQ,↓jN,a7i,↓uL]
   grind
  ·have e:Q ((0:Int)<(D:Int))=U:=by simp[h0]
   rcases bm:Q (0<lf) with _|_
   ·simp only[e,Oy k,eS,k,be3,bkl,bc5,bm,↓jN,↓jA,a7i,a5C,↓uL]
    grind
   ·simp only[e,Oy k,eS,k,be3,bkl,bc5,bm,↓jA,a5C,↓uL]
    grind
 refine bz _ λnb cG=>?_
 have W:∀{d:Nat},cB 303 [.p (16,m2) 0 0,iv 1] s3 d E:=bi N T q3
 rcases hx with hx|rfl|rfl|rfl|rfl|rfl|rfl|rfl|rfl|rfl|rfl|rfl|rfl|rfl|rfl
 all_goals
  simp only[Oy k,eS,k,be3,bkl,bc5,boV,bmL,Int.reduceEq,Int.reduceLT,↓iC,↓iB,↓jA,↓jN,↓aOq,a5C,a7i,Bool.false_or]
 ·refine⟨λ_=>?_,λg=>aOx hx.1<|by simpa using g⟩
  simp only[baJ,bQ,qz 8,amZ,u0,rk,J9]
  refine⟨⟨hx.2,hx.1⟩,aQO N λr s5 hr P F5=>?_⟩
  obtain⟨e,t,o,he,rfl⟩:=hr
  have q5:=F5.kq q3
  simp only[qz 10,jM,kU,jt,tW,aSY,aD6]
  refine⟨by simp[lo,nA,aNN,iR],yv q5 A brR λs6 F6 b6=>?_⟩
  refine dT (by simp[eL,lb,cq,Qh,aNG,dC,dK]) ?_
  exact a6 P (T.trans<|.ofb F5) F6 b6 (aOI (λ_=>he) (.inl A) he.len H)
 ·simp only[aV4,bQ,qz 14,Oy k,eS,k,be3,bc5]
  refine aO4 N λy C y1 y2 B G=>?_
  have y2:=y2 H
  have q4:=G.kq q3
  simp only[qz 16,amZ,u0,rk,J9]
  refine⟨⟨y1,y2⟩,aQO B λr s5 hr P F5=>?_⟩
  obtain⟨e,t,o,he,rfl⟩:=hr
  have q5:=F5.kq q4
  simp only[qz 18,jM,kU,jt,tW,aSY,aD6]
  refine⟨by simp[lo,nA,aNN,iR],yv q5 A brR λs6 F6 b6=>?_⟩
  refine dT (by simp[eL,lb,cq,Qh,aNG,dC,dK]) ?_
  exact a6 P ((T.trans<|.ofb G).trans<|.ofb F5) F6 b6 (by grind [aOI,shE.len])
 ·refine baU N λr C hr B G=>?_
  obtain⟨e,t,o,he,rfl⟩:=hr
  have q4:=G.kq q3
  simp only[baH,bQ,qz 24]
  refine aQO B λr s5 hr P F5=>?_
  obtain⟨e',t',o',cF,rfl⟩:=hr
  have q5:=F5.kq q4
  have bU:bM bsW alz [(0,iv 1),(2,sv [113]),(4, .l ([e].map aNK.c) U U),(5, .a [iv e'.op,iv e'.n,st e'.name, .l (e'.l.map aNK.c) t' o'])]=V (.a [iv 1,iv 0,st qN,st ⟨#[]⟩, .l ([e].map aNK.c) U U,iv e'.op,iv e'.n,st e'.name, .l (e'.l.map aNK.c) t' o', .l (([]:List amt).map amt.c) U U, .l (([]:List amt).map amt.c) U U]):=A
  simp only[qz 26,qy 28,bU,aY]
  exact S P ((T.trans<|.ofb G).trans<|.ofb F5) q5 A aRm buK (by grind [aOI,shE.len])
 ·refine⟨λhD=>?_,λ_=>W⟩
  obtain⟨j,rfl⟩:∃j,D=j+1:=⟨D-1,X⟩
  refine aQO N λr C hr B G=>?_
  obtain⟨e,t,o,he,rfl⟩:=hr
  have q4:=G.kq q3
  simp only[qz 30,eQ,aP2 (D:=j) Z]
  refine aQQ (ih j Z) B Z A Z Z λa l h' s5 g1 g2 g3 g4 P R5=>?_
  have q5:=out B R5 O q4
  simp only[qz 32,qy 34,a5O g1,aY]
  refine anu P.le λv7 s7 F7 N7 b7=>?_
  have M7:=P.fx0 F7
  have q7:=F7.kq q5
  have G7:=g1.fx F7 O
  have R7:=((T.trans<|.ofb G).trans R5).trans<|.of0 F7
  have na:∀q∈aA a,bK Y q:=brE
  obtain⟨cp,b0,s',cr,bs,b3,bl⟩:=M7.mx
  simp only[qz 36,di,qz 83,Oy bl,eS,bl,be3,bc5]
  refine aO4 M7 λy s8 y1 y2 M8 F8=>?_
  have q8:=F8.kq q7
  have b8:=F8.kq b7
  have G8:=G7.fx F8 (λq w e=>by have:=(g4 q w).2;simp at e;subst e;simp at this)
  have R8:=R7.trans<|.ofb F8
  simp only[qz 38,eQ,aP2 (D:=j) Z]
  refine⟨λ_=>?_,λ_=>?_⟩
  ·refine aQQ (ih j Z) M8 Z A Z Z λa' l' h9 s9 k1 k2 k3 k4 M9 R9=>?_
   have q9:=out M8 R9 O q8
   have b9:=out M8 R9 O b8
   have G9:=G8.fx R9.f (by grind [w7.out])
   simp only[qz 40,qy 42,eS,b9]
   refine A0 b9 k1.ce O λcH aE bS=>?_
   have b4:=λq w=>(k4 q w).1.old R8.f
   have ca:=aE.kq q9
   simp only[qz 81,qy 44,aI,aEa bS A,aY]
   have p9:∀{q:Id},q.1=30->q∉[((7,v7):Id)]:=λh e=>by simp at e;grind
   refine S (M9.fx aE O O (λq w e=>by have:=M9.sh q w;simp at e;grind)) ((R8.trans R9).new aE<|((N7.old R5.f).old G).old T.f) ca A
    (aPq (index:=[]) (e:=e) (G9.fx aE λq w=>p9 (g4 q w).2) (k1.fx aE λq w=>p9 (k4 q w).2) na b4) (aPB (index:=[]) X X) ?_
   exact aOJ (λ_=>he) (.inl A) he.len Z g3 Z k3 H
  ·simp only[qz 81,qy 44,aI,aEa b8 A,aY]
   exact S M8 R8 q8 A (aPq (index:=[]) (e:=e) (els:=[]) G8 (.inl ⟨A,A⟩) na aBY) (aPB (index:=[]) X aBY) (aOJ (λ_=>he) (.inl A) he.len Z g3 O O H)
 ·refine⟨λhD=>?_,λ_=>W⟩
  obtain⟨j,rfl⟩:∃j,D=j+1:=⟨D-1,X⟩
  refine aPJ N O λC B G=>?_
  have q4:=G.kq q3
  simp only[qz 46,jM,kU,jt,tW,aD6,Fa,eQ,aP2 (D:=j) Z]
  refine⟨by simp[lo,nA,aNN,iR],by simp[lo,nA,aNN,iR],by rw[aXO A rfl];trivial,?_⟩
  refine aQQ (ih j Z) B Z A Z Z λa l h' s5 g1 g2 g3 g4 P R5=>?_
  have q5:=out B R5 O q4
  simp only[qz 48,qy 50,jM,kU,jt,tW,aD6,Fa,a50,u0]
  refine⟨by simp[lo,nA,aNN,iR],by simp[lo,nA,aNN,iR],by rw[aXO A rfl];trivial,by rw[aXP A];trivial,?_⟩
  have na:=λq w=>(g4 q w).2
  refine apQ g1 P.le btN btN O NA λa' s6 g6 F6 N6=>?_
  rw[<-dg] at g6
  have q6:=F6.keep _ _ (λw=>by have:=na _ w;simp at this) q5
  have M6:=P.fx F6 X X (λq w e=>buI)
  have a3:=T.trans<|.ofm G
  have R6:RH (16,m2) (14,b2) Y h s6 h':=⟨((a3.trans R5).f.trans F6).mono bvj,(a3.trans R5).i⟩
  simp only[qz 52,qy 54,bam g6.p,aY]
  refine anu M6.le λv7 s7 F7 N7 b7=>?_
  have M7:=M6.fx0 F7
  have q7:=F7.kq q6
  have G7:=g6.p.fx F7 O
  obtain⟨bp,bn,s8,bq,bg,bo,ar⟩:=M7.mx
  simp only[qz 56,Oy ar,eS,ar]
  refine aPJ M7 O λs9 M9 F9=>?_
  have q9:=F9.kq q7
  have b9:=F9.kq b7
  have G9:=G7.fx F9 (λq w e=>by have:=(N6 q w).2;simp at e;subst e;simp at this)
  simp only[qz 58,qy 60,aEa b9 A,aY]
  refine S M9 ((R6.trans<|.of0 F7).trans<|.ofm F9) q9 A (aPq (index:=[]) (els:=[]) G9 (.inl ⟨A,A⟩) (λq w=>(N6 q w).1.old (a3.trans R5).f) aBY) (aPB (index:=[]) X aBY) ?_
  have e1:∀{z:Int} {s:ByteArray},shE 1 (aNK.mk 2 z s []):=λ{z s}=>⟨.inl ⟨.inr A,A⟩,buJ⟩
  have e2:∀{z:Int} {s:ByteArray},shE 1 (aNK.mk 1 z s []):=λ{z s}=>⟨.inl ⟨.inl A,A⟩,buJ⟩
  refine aOJ (λ_=>⟨.inr<|.inr ⟨H,A⟩,?_⟩) (.inl A) H NA ?_ O O H
  ·grind [aNK.l]
  ·intro y hy
   rcases dF.1 hy with hy|hy
   ·exact g3 y hy
   ·simp only[cE] at hy
    subst hy
    refine aOI (λ_=>⟨.inr<|.inr ⟨H,A⟩,?_⟩) (.inl A) H H
    grind [aNK.l]
 ·cases nb
  ·simp only[u0,aOq,↓jN,a7i,↓iB]
   exact W
  obtain⟨j,rfl⟩:∃j,D=j+1:=⟨D-1,X⟩
  simp only[a5Z,amZ,rk,J9,eQ,aPh,↓jA,a5C]
  refine⟨⟨H,H⟩,aQP N Z λu=>?_⟩
  cases u
  ·simp only[eQ,↓iC]
   simp only[qz 66,amZ,rk,J9,aP2 (D:=j) Z,eQ]
   refine⟨⟨H,H⟩,aS4 (ih j Z) N Z A λa l h' s5 g1 g2 g3 g4 P R5=>?_⟩
   simp only[qz 68,qy 70,aSZ g1,aY]
   exact S P (T.trans R5) (out N R5 O q3) A (aPq (index:=[]) (els:=[]) g1 (.inl ⟨A,A⟩) (λq w=>(g4 q w).1.old T.f) aBY) (aPB (index:=[]) X aBY)<|aOJ Z (.inl A) H Z g3 O O H
  ·simp only[eQ,↓iB]
   exact W
 ·cases nb
  ·simp only[u0,aOq,↓jN,a7i,↓iB]
   exact W
  obtain⟨j,rfl⟩:∃j,D=j+1:=⟨D-1,X⟩
  simp only[a5Z,amZ,rk,J9,eQ,aPh,↓jA,a5C]
  refine⟨⟨H,H⟩,aQP N Z λu=>?_⟩
  cases u
  ·simp only[eQ,↓iC]
   simp only[qz 66,amZ,rk,J9,aP2 (D:=j) Z,eQ]
   refine⟨⟨H,H⟩,aS4 (ih j Z) N Z A λa l h' s5 g1 g2 g3 g4 P R5=>?_⟩
   simp only[qz 68,qy 70,aSZ g1,aY]
   exact S P (T.trans R5) (out N R5 O q3) A (aPq (index:=[]) (els:=[]) g1 (.inl ⟨A,A⟩) (λq w=>(g4 q w).1.old T.f) aBY) (aPB (index:=[]) X aBY)<|aOJ Z (.inl A) H Z g3 O O H
  ·simp only[eQ,↓iB]
   exact W
 ·cases nb
  ·simp only[u0,aOq,↓jN,a7i,↓iB]
   exact W
  obtain⟨j,rfl⟩:∃j,D=j+1:=⟨D-1,X⟩
  simp only[u0,aPh,↓jA,a5C]
  refine aQP N Z λu=>?_
  cases u
  ·simp only[aP2 (D:=j) Z,eQ,↓iC]
   refine aS4 (ih j Z) N Z A λa l h' s5 g1 g2 g3 g4 P R5=>?_
   simp only[qz 74,qy 76,aSZ g1,aY]
   exact S P (T.trans R5) (out N R5 O q3) A (aPq (index:=[]) (els:=[]) g1 (.inl ⟨A,A⟩) (λq w=>(g4 q w).1.old T.f) aBY) (aPB (index:=[]) X aBY) (aOJ (λh=>aOx h H) (.inl A) H Z g3 O O H)
  ·simp only[eQ,↓iB]
   exact W
 ·cases nb
  ·simp only[u0,aOq,↓jN,a7i,↓iB]
   exact W
  obtain⟨j,rfl⟩:∃j,D=j+1:=⟨D-1,X⟩
  simp only[u0,aPh,↓jA,a5C]
  refine aQP N Z λu=>?_
  cases u
  ·simp only[aP2 (D:=j) Z,eQ,↓iC]
   refine aS4 (ih j Z) N Z A λa l h' s5 g1 g2 g3 g4 P R5=>?_
   simp only[qz 74,qy 76,aSZ g1,aY]
   exact S P (T.trans R5) (out N R5 O q3) A (aPq (index:=[]) (els:=[]) g1 (.inl ⟨A,A⟩) (λq w=>(g4 q w).1.old T.f) aBY) (aPB (index:=[]) X aBY) (aOJ (λh=>aOx h H) (.inl A) H Z g3 O O H)
  ·simp only[eQ,↓iB]
   exact W
 ·refine⟨λhn=>?_,λ_=>W⟩
  obtain⟨j,rfl⟩:∃j,D=j+1:=⟨D-1,X⟩
  refine aPJ N O λC B G=>?_
  have q4:=G.kq q3
  obtain⟨cp,b0,s',cr,bs,b3,bk⟩:=B.mx
  simp only[qz 78,Oy bk,eS,bk,be3,bc5]
  refine aO4 B λy s5 y1 y2 P F5=>?_
  have y2:=y2 H
  have q5:=F5.kq q4
  simp only[qz 80,eQ,eM (x:=1+y) Z Z]
  refine aQQ (ih 0 Z) P Z A Z Z λa l h' s6 g1 g2 g3 g4 M6 R6=>?_
  have q6:=out P R6 O q5
  simp only[qz 82,qy 84,a5P g1,aY]
  refine anu M6.le λv7 s7 F7 N7 b7=>?_
  have M7:=M6.fx0 F7
  have q7:=F7.kq q6
  have G7:=g1.fx F7 O
  have a4:=(T.trans<|.ofm G).trans<|.ofb F5
  obtain⟨bp,bn,s8,bq,bg,bo,ar⟩:=M7.mx
  simp only[qz 86,Oy ar,eS,ar]
  refine aPJ M7 O λs9 M9 F9=>?_
  have q9:=F9.kq q7
  have b9:=F9.kq b7
  have G9:=G7.fx F9 (λq w e=>by have:=(g4 q w).2;simp at e;subst e;simp at this)
  simp only[qz 88,qy 90,aEa b9 A,aY]
  exact S M9 (((a4.trans R6).trans<|.of0 F7).trans<|.ofm F9) q9 A (aPq (index:=[]) (els:=[]) G9 (.inl ⟨A,A⟩) brE aBY) (aPB (index:=[]) X aBY) (aOJ Z (.inl A) H Z (by grind [shS.mono]) O O H)
 ·cases nb
  ·simp only[u0,↓jN,a7i,↓iB]
   exact W
  cases a1
  ·obtain⟨j,rfl⟩:∃j,D=j+1:=⟨D-1,X⟩
   simp only[Oy k,eS,k,be3,bkl,bc5,↓jA,a5C,↓iC]
   refine aPJ N O λC B G=>?_
   have q4:=G.kq q3
   simp only[qz 92,eQ,aP2 (D:=j) Z]
   refine aQQ (ih j Z) B Z A Z Z λa l h' s6 g1 g2 g3 g4 M6 R6=>?_
   have q6:=out B R6 O q4
   simp only[qz 94,qy 96,a5P g1,aY]
   refine anu M6.le λv7 s7 F7 N7 b7=>?_
   have M7:=M6.fx0 F7
   have q7:=F7.kq q6
   have G7:=g1.fx F7 O
   have a4:=T.trans<|.ofm G
   obtain⟨bp,bn,s8,bq,bg,bo,ar⟩:=M7.mx
   simp only[qz 98,Oy ar,eS,ar]
   refine aPJ M7 O λs9 M9 F9=>?_
   have q9:=F9.kq q7
   have b9:=F9.kq b7
   have G9:=G7.fx F9 (λq w e=>by have:=(g4 q w).2;simp at e;subst e;simp at this)
   simp only[qz 100,qy 102,aEa b9 A,aY]
   exact S M9 (((a4.trans R6).trans<|.of0 F7).trans<|.ofm F9) q9 A (aPq (index:=[]) (els:=[]) G9 (.inl ⟨A,A⟩) brE aBY) (aPB (index:=[]) X aBY)<|aOJ Z (.inl A) H Z g3 O O H
  ·simp only[Oy k,eS,k,be3,bkl,bc5,↓jA,a5C,↓iB]
   exact W
 ·cases nb
  ·simp only[u0,aOq,↓jN,a7i,↓iB]
   exact W
  cases a1
  ·simp only[Oy k,eS,k,be3,bkl,bc5,aPh,↓jA,a5C]
   refine aQP N Z λu=>?_
   cases u
   ·have ak:bM bsW alz [(0,iv 9),(2,sv [99])]=V (.a [iv 9,iv 0,sv [99],sv [], .l [] U U,iv 0,iv 0,sv [], .l [] U U, .l [] U U, .l [] U U]):=A
    simp only[ak,jM,kU,jt,tW,aD6,Fa,eQ,↓iC]
    simp only[baQ,bQ,qz 106,qy 108,a5Q,aY]
    refine⟨by simp[lo,nA,aNN,iR],by rw[aXP A];trivial,S N T q3 A aRm buK<|aOJ Z (.inl A) H H ?_ O O H⟩
    obtain⟨j,rfl⟩:∃j,D=j+1:=⟨D-1,X⟩
    intro y hy
    simp only[eW,ql,bj5] at hy
    rcases hy with rfl|rfl
    ·exact aOI Z (.inl A) H H
    ·exact aOI (λ_=>⟨.inl ⟨.inr A,A⟩,buJ⟩) (.inl A) H H
   ·simp only[eQ,↓iB]
    exact W
  ·simp only[Oy k,eS,k,be3,bkl,bc5,aOq,↓jA,↓jN,a5C,a7i,↓iB]
   exact W
 ·cases nb
  ·simp only[Oy k,eS,k,be3,bc5,aOq,↓jN,a7i,↓iB]
   exact W
  simp only[u0,aPh,↓jA,a5C]
  refine aQP N Z λu=>?_
  cases u
  ·simp only[Oy k,eS,k,be3,bc5,↓iC]
   refine aO4 N λy C y1 y2 B G=>?_
   have y2:=y2 H
   have q4:=G.kq q3
   have ak:∀o:Int,bM bsW alz [(0,iv o),(2,sv [99])]=V (.a [iv o,iv 0,sv [99],sv [], .l [] U U,iv 0,iv 0,sv [], .l [] U U, .l [] U U, .l [] U U]):=λ_=>A
   simp only[qz 112,ak,baL,bQ,qz 114,qy 116,a5Q,eM (x:=10+y) Z Z,eQ]
   refine S B (T.trans<|.ofb G) q4 A aRm buK<|aOJ Z (.inl A) H O ?_ O O H
   obtain⟨j,rfl⟩:∃j,D=j+1:=⟨D-1,X⟩
   intro z hz
   simp only[eW,ql,bj5] at hz
   subst hz
   exact aOI (λh=>Z) (.inl A) H Z
  ·simp only[eQ,↓iB]
   exact W
 ·cases tx
  ·cases lp
   ·cases s
    ·simp only[Oy k,eS,k,be3,bkl,bc5,↓jA,a5C,Bool.and_self,↓iC]
     refine aPJ N O λC B G=>?_
     have q4:=G.kq q3
     simp only[qz 118]
     refine aQO B λr s5 hr P F5=>?_
     obtain⟨e,t,o,he,rfl⟩:=hr
     have q5:=F5.kq q4
     have ak:bM bsW alz [(0,iv 14),(2,sv [102]),(5, .a [iv e.op,iv e.n,st e.name, .l (e.l.map aNK.c) t o])]=V (.a [iv 14,iv 0,st ⟨#[102]⟩,st ⟨#[]⟩, .l (([]:List aNK).map aNK.c) U U,iv e.op,iv e.n,st e.name, .l (e.l.map aNK.c) t o, .l (([]:List amt).map amt.c) U U, .l (([]:List amt).map amt.c) U U]):=A
     simp only[qz 120,qy 122,ak,aY]
     exact S P ((T.trans<|.ofm G).trans<|.ofb F5) q5 A aRm buK (by grind [aOI,shE.len])
    ·simp only[Oy k,eS,k,be3,bkl,bc5,↓jA,a5C,Bool.and_self,↓iB]
     exact W
   ·simp only[Oy k,eS,k,be3,bkl,bc5,↓jN,a7i,qc,↓iB]
    exact W
  ·simp only[u0,↓jN,a7i,↓iB]
   exact W
 ·cases tx
  ·simp only[Oy k,eS,k,be3,bc5,aPh,↓jA,a5C]
   refine aO4 N λy C y1 y2 B G=>?_
   have q4:=G.kq q3
   have ak:bM bsW alz [(0,iv 15),(2,sv [97]),(3,sv [102])]=V (.a [iv 15,iv 0,st ⟨#[97]⟩,st ⟨#[102]⟩, .l (([]:List aNK).map aNK.c) U U,iv (aNK.mk 0 0 ⟨#[]⟩ []).op,iv (aNK.mk 0 0 ⟨#[]⟩ []).n,st (aNK.mk 0 0 ⟨#[]⟩ []).name, .l ((aNK.mk 0 0 ⟨#[]⟩ []).l.map aNK.c) U U, .l (([]:List amt).map amt.c) U U, .l (([]:List amt).map amt.c) U U]):=A
   simp only[ak,eQ]
   exact⟨λ_=>S B (T.trans<|.ofb G) q4 A aRm buK<|aOI Z (.inl A) H H,λ_=>bi B (T.trans<|.ofb G) q4⟩
  ·simp only[u0,aOq,↓jN,a7i,↓iB]
   exact W
theorem ba1{D:Nat}(l:∀i,i<D->aQH m b i)(M:w7 Y m b hs h)(k:L hs+D<=500)(w:∀cs x g Y1,Lv Y Y1 cs (amt.c x)->(∀q∈aNN (.a cs),q.1=30\/q.1=126)->shS (D+1) x->w7 Y1 m b hs g->RH m b Y h Y1 g->K (.a cs) Y1):cB 275 [.p m 0 0,iv D] Y d K:=jH A (bdy l M k)<|by rintro r Y1 ⟨cs,x,g,rfl,n,s,u,v,j⟩;exact⟨j.f.len,X⟩
theorem J7.bx{e z a bA}(g:J7 Y e z a bA):∀q∈aA a,∃x,box Y q=V x:=by rcases g with⟨_,rfl⟩|⟨b,m,rfl,c⟩;simp[aA];grind [aA]
theorem bdw:∀D,aQH m b D:=by
 intro D
 induction D using Nat.strongRecOn with
 |ind D ih=>
 intro Y hs h n M hl P h3
 have:=M.sm
 have:=M.sb
 refine bgq M.le ?_
 simp only[aUP]
 refine jD (α:=AV×List amt×AV) (λx i=>[x.1,iv i]) 1 n.toNat (λk x Y'=>J7 Y' 300 11 x.1 (x.2.1.map amt.c)/\L x.2.1<=k/\(∀y∈x.2.1,shS (D+1) y)/\(∀q∈aA x.1,bK Y q/\q.1=30)/\w7 Y' m b hs x.2.2/\RH m b Y h Y' x.2.2)
  (s0:=(.l [] U U,[],h)) ⟨.inl ⟨A,A⟩,O,O,aBY,M,RH.refl⟩ ?_
 rintro k ⟨a1,l1,h1⟩ Y1 hk ⟨g1,g2,g3,g4,C,v⟩
 simp only at g1 g2 g3 g4 C v
 obtain⟨th,lf,s,tx,aw,lp,r⟩:=C.mx
 have G:aRf (SsR Y m b hs h D n) Y1 [a1]:=⟨l1,h1,g1,Z,g3,g4,C,v⟩
 have F:k<n.toNat->∀d I1 m1 vs,vs=[a1,iv k]->(I1=yI (λ(x:AV×List amt×AV) i=>[x.1,iv i]) n.toNat λk x Y'=>J7 Y' 300 11 x.1 (x.2.1.map amt.c)/\L x.2.1<=k/\(∀y∈x.2.1,shS (D+1) y)/\(∀q∈aA x.1,bK Y q/\q.1=30)/\w7 Y' m b hs x.2.2/\RH m b Y h Y' x.2.2)->m1=gM 1 n.toNat->cB 275 [.p m 0 0,iv D] Y1 d (aUQ vs I1 m1 Y1):=by
  rintro j d I1 m1 vs rfl rfl rfl
  refine ba1 ih C hl λcs x h' S Lw k1 k2 M2 E=>?_
  have:L cs=11:=by have:=bqD L Lw.eq;grind [brR]
  have ae:aX bs4 1 S [(0, .a cs)]=V (.l ([x].map amt.c) U U,kills S<|aNN<|.a cs):=aQm Lw.eq brR H aS7 H
  simp only[aUQ,ae,bQ,au]
  have B:=aOp (aNN<|.a cs) S
  have ka:∀q∈aA a1,q∉aNN (.a cs):=λq z R=>by
   obtain⟨x,hx⟩:=g1.bx q z
   exact(Lw.nw q R).ne hx A
  have G3:=(g1.fx E.f<|by grind [w7.out]).fx B ka
  have W:=M2.fx B X X (λq z R=>buI)
  refine apQ G3 W.le btN btN O NA λa' s6 g6 T N6=>?_
  rw[<-dg] at g6
  have M6:=W.fx T X X (λq z R=>buI)
  have:=(v.f.trans E.f).trans B
  have R6:RH m b Y h s6 h':=⟨((v.trans E).f.trans<|B.trans T).mono λq z=>by
   rcases dF.1 z with g|g
   ·exact .inl g
   rcases dF.1 g with g|g
   ·exact .inr ((Lw.nw q g).old v.f).no
   grind [bK.no],(v.trans E).i⟩
  simp only[aZ9,au,eQ,↓uL]
  refine dR (mk:=λ(x:AV×List amt×AV) i=>[x.1,iv i]) (p:=1) (s:=(a1,l1,h1)) (s':=(a',l1++[x],h')) (λ_ _=>A) j Z ⟨g6.p,NA,?_,brE,M6,R6⟩
  grind
 rcases Decidable.em ((k:Int)<n) with j|j
 ·have w:=bm2 j
  have F:=F Z
  rcases oD k with P|P
  ·have u:Q ((k:Int)=0)=U:=by simp[P]
   simp only[aRp,au,w,u,eQ,↓jA,↓jN,a5C,↓iC,↓uL]
   exact F _ _ _ _ A rfl rfl
  ·have u:Q ((k:Int)=0)=I:=NA
   rcases N:Q (0<lf) with _|_
   ·simp only[aRp,au,w,u,N,Oy r,eS,r,be3,bkl,bc5,↓jA,a5C,a7i,↓iB,↓uL]
    exact G
   ·simp only[aRp,au,w,u,N,Oy r,eS,r,be3,bkl,bc5,↓jA,a5C,a7i,↓iC,↓uL]
    exact F _ _ _ _ A rfl rfl
 ·have w:=bio j
  simp only[aRp,au,w,eQ,↓jN,a7i,↓iB,↓uL]
  exact G
end
section
attribute[local irreducible] aX
def bg4{c b}:=yB1 290 6 3 aNH func209 at1 b [c, .a b]
def bg6{c b d}:=yB1 298 4 4 aNH func302 atB b [c, .a b,d]
def a9t:=I9 11 []
def bg1{c b}:=yB1 300 11 3 aNH func298 a9t b [c, .a b]
def a9u:=I9 19 []
def bg2{c b}:=yB1 300 11 3 aNH func299 a9u b [c, .a b]
def bg0{c b d e f}:=yB1 300 11 6 aNH func300 auF b [c, .a b,d,e,f]
def a9x:=I9 21 [(6,([31],[0,3,4,25]))]
def bg5{c b}:=yB1 300 11 3 aNH func274 a9x b [c, .a b]
def a9y:=I9 5 [(1,([4],[0,1]))]
def a7T{a a1}:=yB aNH func208 a9y [a,a1]
end
structure Gn(κ:Int)(Y:ae)(b:Id)(w:aOw)(loc:List ByteArray)(a:AV)(n:Nat):Prop where
 bx0:∃s nx:Int,(0<=nx/\nx<=n+κ)/\box Y b=V ⟨286,10,U,U,[[sl cA.c w.cells,sl dS.c w.ak,sl yp.c w.bC,sl cs w.bU,sl cs w.ay,sl dL.c w.dU,sl cs loc,a,iv s,iv nx]]⟩
 ga:∃out:List aRV,J7 Y 290 6 a (out.map aRV.c)/\L out=n
 le:L Y=4096
 sb:b.1=45
 sa:∀q∈aA a,q.1=16
 wb:WBd w
 lb:L loc<1000
 hq:∃c∈w.cells,c.name=qN
theorem Gn.bx{κ Y b w loc a n}(G:Gn κ Y b w loc a n):∃s nx:Int,box Y b=V ⟨286,10,U,U,[[sl cA.c w.cells,sl dS.c w.ak,sl yp.c w.bC,sl cs w.bU,sl cs w.ay,sl dL.c w.dU,sl cs loc,a,iv s,iv nx]]⟩:=by grind [Gn.bx0]
def aRZ{w:aOw}{l}:aN (V 6) (sl cA.c w.cells::sl dS.c w.ak::sl yp.c w.bC::sl cs w.bU::sl cs w.ay::sl dL.c w.dU::l)=V (.a w.c):=rfl
structure R4(b:Id)(Y:ae)(a:AV)(Y1:ae)(a1:AV):Prop where
 f:Fx Y Y1 (b::aA a)
 i:∀q∈aA a1,q∈aA a\/bK Y q
section
variable{κ:Int}{Y Y0 Y1 Y2:ae}{b:Id}{w:aOw}{loc:List ByteArray}{a a0 a1 a2:AV}{n N:Nat}{d:Nat}{K:be}{ol:List aRV}
theorem R4.refl:R4 b Y a Y a:=⟨Fx.refl _ _,λ_ h=> .inl h⟩
theorem R4.trans(h:R4 b Y a Y1 a1)(c:R4 b Y1 a1 Y2 a2):R4 b Y a Y2 a2:=by refine⟨(h.f.trans c.f).mono λq e=>?_,λq e=>(c.i q e).elim (h.i q) λg=> .inr<|g.old h.f⟩;grind [R4.i,bK.no]
def R4.of0(F:Fx Y Y1 []):R4 b Y a Y1 a:=⟨F.mono O,λ_ h=> .inl h⟩
theorem R4.ofb(F:Fx Y Y1 [b]):R4 b Y a Y1 a:=⟨(by grind [Fx.mono]),λ_ h=> .inl h⟩
theorem Gn.fx(G:Gn κ Y b w loc a n){ks}(F:Fx Y Y1 ks)(f:b∉ks)(c:∀q∈aA a,q∉ks):Gn κ Y1 b w loc a n:=by obtain⟨s,nx,i,h⟩:=G.bx0;obtain⟨out,g,e⟩:=G.ga;exact⟨brU,⟨out,g.fx F c,e⟩,F.len.trans G.le,G.sb,G.sa,G.wb,G.lb,G.hq⟩
theorem Gn.mono(G:Gn κ Y b w loc a n){κ'}(h:κ<=κ'):Gn κ' Y b w loc a n:=by obtain⟨s,nx,e,c⟩:=G.bx0;exact⟨X,G.ga,G.le,G.sb,G.sa,G.wb,G.lb,G.hq⟩
theorem Gn.fx0(G:Gn κ Y b w loc a n)(F:Fx Y Y1 []):Gn κ Y1 b w loc a n:=G.fx F O O
theorem Gn.out(G:Gn κ Y b w loc a n):∀q,q.1≠45->q.1≠16->q∉b::aA a:=λq c e f=>by
 grind [Gn.sb,Gn.sa]
def GR(κ:Int)(N:Nat)(Y:ae)(b:Id)(w:aOw)(loc:List ByteArray)(a:AV)(n:Nat)(r:AV)(Y1:ae):Prop:=∃e c,r= .t []/\Gn κ Y1 b w loc e c/\n<=c/\c<=n+N/\R4 b Y a Y1 e
theorem aPv{fn xs}(i:uQ.elem fn=I)(h:∃r Y1,GR κ N Y b w loc a n r Y1/\cZ aS GG fn xs Y r Y1)(m:∀e c Y1,Gn κ Y1 b w loc e c->n<=c->c<=n+N->R4 b Y a Y1 e->K (.t []) Y1):cB fn xs Y d K:=jH i h<|by rintro r Y1 ⟨e,c,rfl,j,k,l,g⟩;exact⟨g.f.len,X⟩
theorem bdp(G:Gn κ Y b w loc a n)(hn:n<100000)(x:aRV):∃r Y1,(∃h,r= .t []/\Gn (κ-1) Y1 b w loc h (n+1)/\R4 b Y a Y1 h)/\cZ aS GG 209 [.p b 0 0, .a x.c] Y r Y1:=by obtain⟨W,b2⟩:=b;obtain rfl:W=45:=G.sb;refine bg4 G.le A λs2 v3 S ag nf2 P=>?_;have B:=S.fx [];have G2:=G.fx0 B;obtain⟨s,nx,E⟩:=G2.bx;simp only[Oy E,eS,E,P,be3,bkl,bc5];refine A0 P A (by show 5<6;decide) λy C q3=>?_;have R:box y (3,v3)=V ⟨290,6,U,U,[aRV.c {x with site:=s}]⟩:=q3;have j:=G2.fx C O (λq i e=>by grind [Gn.sa]);obtain⟨s',ah,M,k⟩:=j.bx0;have F:∀{x:aRV},aX byn 1 y [(0, .a<|aRV.c x)]=V (.l ([x].map aRV.c) U U,y):=λ{x}=>ua A rfl rfl H A H;simp only[qz 4,qy 6,Oy k,eS,k,R,J9,F];obtain⟨out,g,hl⟩:=j.ga;refine apQ g j.le (qW (f:=aRV.c) (z:=6) λ_=>A) (by grind [aRV.c]) O NA λh s4 v o T=>?_;rw[<-dg] at v;have m:=o.keep _ _ (λi=>by have:=j.sa _ i;simp at this) k;simp only[qz 8,Oy m,eS,m];refine A0 m v.p.ce O λs5 u b5=>?_;refine dT (by first|rfl|(simp[eL,okT,tok,lb,cq,Qh,aNG,dC,pP,dK,aRV.c];done)) ?_;have D:∀q∈aA h,q∉[((45,b2):Id)]:=X;have ad:∀q∈aA h,bK Y q:=brE;refine⟨h,A,⟨⟨_,_,⟨M.1,Z⟩,b5⟩,⟨out++[_],v.p.fx u D,by simp[hl]⟩,u.len.trans<|o.len.trans j.le,A,λq i=>(T q i).2,G.wb,G.lb,G.hq⟩,⟨(((B.trans C).trans o).trans u).mono λq i=>?_,FA⟩⟩;grind
theorem aPw(G:Gn κ Y b w loc a n)(i:n<100000){x:aRV}(k:∀e Y1 g,Gn (κ-1) Y1 b w loc e g->n+1<=g->g<=n+1->R4 b Y a Y1 e->K (.t []) Y1):cB 209 [.p b 0 0, .a x.c] Y d K:=jH A (bdp G i x)<|by rintro r Y1 ⟨e,rfl,j,h⟩;exact⟨h.f.len,X⟩
theorem a58(h:∃c∈w.cells,c.name=qN):aF (L w.cells) (uo (λi=>Q<|(gd w.cells i).name=qN)<|L w.cells):=by obtain⟨c,f,k⟩:=h;obtain⟨j,g,rfl⟩:=ou f;have e:=aTb (p:=λi=>Q<|(gd w.cells i).name=qN) (n:=L w.cells);refine⟨?_,e.2⟩;unfold uo;split;omega;simp_all [aNV]
def bV:Nat->Nat|0=>0|m+1=>1+2*bV m
def ban{o x y:Int}:bM bu1 anY [(0,iv o),(1,iv x),(4,iv y)]=V (.a<|aRV.c ⟨o,x,0,0,y,0⟩):=rfl
def bao{o x y:Int}:bM bu1 anY [(0,iv o),(1,iv x),(2,iv y)]=V (.a<|aRV.c ⟨o,x,y,0,0,0⟩):=rfl
def bap{o x y z u:Int}:bM bu1 anY [(0,iv o),(1,iv x),(2,iv y),(3,iv z),(4,iv u)]=V (.a<|aRV.c ⟨o,x,y,z,u,0⟩):=rfl
def bzi{o x y u:Int}:bM bu1 anY [(0,iv o),(1,iv x),(2,iv y),(4,iv u)]=V (.a<|aRV.c ⟨o,x,y,0,u,0⟩):=rfl
def baq{o x:Int}:bM bu1 anY [(0,iv o),(1,iv x)]=V (.a<|aRV.c ⟨o,x,0,0,0,0⟩):=rfl
def bar{o:Int}:bM bu1 anY [(0,iv o)]=V (.a<|aRV.c ⟨o,0,0,0,0,0⟩):=rfl
def bdI:=ai @ban<|ai @bao<|ai @bap<|ai @bzi<|ai @baq<|@bar
theorem GR.mono{N M r}(h:GR κ N Y b w loc a n r Y1)(l:N<=M):GR κ M Y b w loc a n r Y1:=by obtain⟨c,j,e,f,g,k,i⟩:=h;exact⟨c,j,e,f,g,Z,i⟩
theorem bte{p:Prop}(h:p:=by grind [Go.Ab.Gn.out]):p:=h
theorem bdC:∀(m) {Y a n e dd},Gn κ Y b w loc a n->n+bV m<100000->shE m e->∃r Y1,GR (κ-1) (bV m) Y b w loc a n r Y1/\cZ aS GG 302 [.p b 0 0, .a e.c,iv dd] Y r Y1:=by
 intro m
 induction m with
 |zero=>intro Y a n e dd G hn E;exact E.elim
 |succ m ih=>
  intro Y a n e dd G hn E
  obtain⟨b1,g⟩:=b
  obtain rfl:b1=45:=G.sb
  have:bV (m+1)=1+2*bV m:=A
  refine bg6 G.le aN9 λs2 v4 K2 az nf2 y=>?_
  have P:=K2.fx []
  have G2:=G.fx0 P
  have z:R4 (45,g) Y a s2 a:=R4.of0 P
  obtain⟨s,nx,hb⟩:=G2.bx
  have hW:=G.wb
  have:=G.lb
  have q4:∀q:Id,q.1=4->q∉((45,g):Id)::aA a:=bte
  have j:∀{u:ae} {v:AV} {h:Nat} {x:aRV} {d:Nat},Gn κ u (45,g) w loc v h->n<=h->h<=n+2*bV m->R4 (45,g) Y a u v->cB 209 [.p (45,g) 0 0, .a x.c] u d λaC al=>aRf (GR (κ-1) (bV<|m+1) Y (45,g) w loc a n) al []:=λi k h2 o=>
   aPw i Z λD Y1 C G' g1 W R'=>⟨D,C,A,G',Z,Z,o.trans R'⟩
  have val:∀{u:ae} {v:AV} {h:Nat} {T:aNK} {S:Int} {d:Nat} {K:be},Gn κ u (45,g) w loc v h->h<=n+bV m->shE m T->(∀D C Y1,Gn κ Y1 (45,g) w loc D C->h<=C->C<=h+bV m->R4 (45,g) u v Y1 D->K (.t []) Y1)->cB 302 [.p (45,g) 0 0, .a T.c,iv S] u d K:=λi k ac hK=>aPv A (ih i Z ac) (by grind [Gn.mono])
  have:=E.2
  rcases E.1 with⟨k|k,ax⟩|⟨k,af,ay⟩|⟨k,ad⟩
  ·simp only[qy 4,eS,y,J9,k,boV,↓iC,bdI]
   exact j G2 Z Z z
  ·have B:dG s2 (.a w.c)= .a w.c:=A
   simp only[qy 6,qy 8,Oy hb,eS,hb,y,J9,aRZ,k,boV,bmL,Int.reduceEq,↓iC,↓iB,jM,kU,jt,B,tW,alg,aD6,AL,bdI,ni]
   exact⟨Z,λ_=>j G2 Z Z z,λ_=>⟨by have:=hW.1;omega,j G2 Z Z z⟩⟩
  ·simp only[eS,y,J9,k,boV,bmL,Int.reduceEq,↓iC,↓iB,ixv,rr]
   refine⟨⟨Z,Z⟩,val G2 Z bs5 λv h s3 i g1 W o=>?_⟩
   have F:=o.f.keep _ _ (q4 _ A) y
   obtain⟨s',aB,M⟩:=i.bx
   have B:dG s3 (.a w.c)= .a w.c:=A
   simp only[qz 10,qy 12,Oy M,eT,M,F,J9,aRZ,af,jM,kU,jt,B,tW,aD6,AL,ix,bdI,ni]
   exact⟨by have:=hW.1;omega,a58 G.hq,j i Z Z<|z.trans o⟩
  ·have o1:e.op≠1:=Z
   have o2:e.op≠2:=Z
   have o3:e.op≠3:=Z
   have ol:Q ((L e.l:Int)=1)=I:=by simp[ad]
   simp only[eS,y,J9,o1,o2,o3,ol,bmL,↓iB,ixv,rr]
   refine⟨⟨Z,Z⟩,val G2 Z bs5 λv h s3 i g1 W o=>?_⟩
   have F:=o.f.keep _ _ (q4 _ A) y
   simp only[qz 18,eS,F,J9,ixv,rr]
   refine⟨⟨Z,Z⟩,val i Z bs5 λa5 n5 s5 G5 g3 g4 R=>?_⟩
   have q5:=R.f.keep _ _ bte F
   simp only[qz 20,qy 22,eS,q5,J9,bdI]
   exact j G5 Z Z<|(z.trans o).trans R
theorem aRF(G:Gn κ Y b w loc a n)(j:n<90000){e}(i:shE 2 e){dd}(h:∀g f Y1,Gn (κ-1) Y1 b w loc g f->n<=f->f<=n+3->R4 b Y a Y1 g->K (.t []) Y1):cB 302 [.p b 0 0, .a e.c,iv dd] Y d K:=aPv A (bdC 2 G (by grind [bV]) i) h
theorem bda(G:Gn κ Y b w loc a n)(hn:n<80000){x:amt}(P:shE 2 x.expr)(hI:∀y∈x.index,shE 2 y)(S:x.index≠[]->x.name=qN)(an:L x.index<=1):∃r Y1,GR (κ-1) 7 Y b w loc a n r Y1/\cZ aS GG 298 [.p b 0 0, .a x.c] Y r Y1:=by
 obtain⟨b1,i⟩:=b
 obtain rfl:b1=45:=G.sb
 refine bg1 G.le brR λs2 v3 K2 ao nf2 z=>?_
 have B:=K2.fx []
 have G2:=G.fx0 B
 have u:R4 (45,i) Y a s2 a:=R4.of0 B
 obtain⟨s,nx,M⟩:=G2.bx
 have F:=G.wb
 have:=G.lb
 have j:∀{v:ae} {m:AV} {l:Nat} {x:aRV} {d:Nat},Gn κ v (45,i) w loc m l->n<=l->l<=n+6->R4 (45,i) Y a v m->cB 209 [.p (45,i) 0 0, .a x.c] v d λap aa=>aRf (GR (κ-1) 7 Y (45,i) w loc a n) aa []:=λg h1 h2 e=>
  aPw g Z λa' Y1 n' G' g1 E R'=>⟨a',n',A,G',Z,Z,e.trans R'⟩
 simp only[Oy M,eS,M,z,J9,ixv,rr]
 refine⟨λh=>?_,λh=>?_⟩
 ·have:0<L x.index:=by simpa using h
  have R:x.index≠[]:=X
  refine⟨⟨Z,Z⟩,aRF G2 Z bs5 λm l W g g1 E e=>?_⟩
  have o:=e.f.keep _ _ bte z
  simp only[qz 4,eS,o,J9]
  refine aRF g Z P λa5 n5 s5 C g3 g4 D=>?_
  have q5:=D.f.keep _ _ bte o
  obtain⟨s',T,t⟩:=C.bx
  have k:dG s5 (.a w.c)= .a w.c:=A
  simp only[qz 6,qy 8,Oy t,eT,t,q5,J9,aRZ,S R,jM,kU,jt,k,tW,aD6,AL,ix,bdI,ni]
  exact⟨by have:=F.1;omega,a58 G.hq,j (C.mono Z) Z Z<|(u.trans e).trans D⟩
 ·refine aRF G2 Z P λm l W g g1 E e=>?_
  have o:=e.f.keep _ _ bte z
  obtain⟨s',T,q⟩:=g.bx
  have k:dG W (.a w.c)= .a w.c:=A
  simp only[qz 10,qy 12,qy 14,Oy q,eS,q,o,J9,aRZ,jM,kU,jt,k,tW,alg,aD6,AL,bdI,ni]
  exact⟨Z,λ_=>j (g.mono Z) Z Z<|u.trans e,λ_=>⟨by have:=F.1;omega,j (g.mono Z) Z Z<|u.trans e⟩⟩
theorem bcN(g:J7 Y 290 6 a<|ol.map aRV.c){i:Nat}(u:i<L ol){j:Nat}(z:j=1\/j=2){v:Int}{K}(t:∀(Y') (e:List aRV),L e=L ol->J7 Y' 290 6 a (e.map aRV.c)->Fx Y Y' (aA a)->K Y'):rV (cz 6 Y a<|iv i) λk=>rV (iQ j Y k) λl=>sV (aK 1 Y l<|iv v) K:=by rcases g with⟨h,rfl⟩|⟨q,m,rfl,f⟩;simp_all;have r:cz 6 Y (.m q<|L<|ol.map aRV.c) (iv i)=V (.p q i 0):=(by simp[cz,f,u]);have s:iQ j Y (.p q i 0)=V (.p q i j):=(by simp[iQ,f]);simp only[r,s,aY];have B:(ol.map aRV.c++m)[i]?=V (aRV.c<|gd ol i):=bse;refine aQz (x:=iv v) f B (by show j<6;omega) A rfl rfl λY' F o=>?_;obtain⟨y,C⟩:∃y:aRV,(aRV.c<|gd ol i).set j (iv v)=y.c:=(by rcases z with rfl|rfl;exact⟨{gd ol i with a:=v},A⟩;exact⟨{gd ol i with b:=v},A⟩);have hs:(ol.map aRV.c++m).set i ((aRV.c<|gd ol i).set j<|iv v)=(ol.set i y).map aRV.c++m:=FA;refine t Y' (ol.set i y) O (.inr ⟨q,m,O,?_⟩) bkb;rw[o,<-hs];rfl
theorem Gn.patch(G:Gn κ Y b w loc a n){i}(p:i<n){j}(k:j=1\/j=2){v K}(f:∀Y',Gn κ Y' b w loc a n->R4 b Y a Y' a->K Y'):rV (cz 6 Y a<|iv i) λc=>rV (iQ j Y c) λe=>sV (aK 1 Y e<|iv v) K:=by obtain⟨s,nx,r,o⟩:=G.bx0;obtain⟨out,g,q⟩:=G.ga;refine bcN g Z k λY' out' l m F=>f Y' ⟨(by grind [Fx.keep,Gn.sa,Gn.sb]),X,F.len.trans G.le,G.sb,G.sa,G.wb,G.lb,G.hq⟩ ⟨(by grind [Fx.mono]),λ_ h=> .inl h⟩
theorem Gn.set(G:Gn κ Y b w loc a n){v K}(e:∀Y',Gn κ Y' b w loc a n->Fx Y Y' [b]->K Y'):sV (aK 1 Y (.p b 0 8)<|iv v) K:=by obtain⟨s,nx,h,f⟩:=G.bx0;obtain⟨out,g,i⟩:=G.ga;exact A0 f A O λY' F c=>e Y' ⟨⟨v,nx,h,c⟩,(by grind [J7.fx,Gn.sa,Gn.sb]),F.len.trans G.le,G.sb,G.sa,G.wb,G.lb,G.hq⟩ F
theorem Gn.nxt(G:Gn κ Y b w loc a n){v}(h:0<=v)(i:v<=n+κ){K}(c:∀Y',Gn κ Y' b w loc a n->Fx Y Y' [b]->K Y'):sV (aK 1 Y (.p b 0 9)<|iv v) K:=by obtain⟨s,nx,k,e⟩:=G.bx0;obtain⟨out,g,j⟩:=G.ga;exact A0 e A O λY' F f=>c Y' ⟨FA,(by grind [J7.fx,Gn.sa,Gn.sb]),F.len.trans G.le,G.sb,G.sa,G.wb,G.lb,G.hq⟩ F
def bG:Nat->Nat|0=>0|m+1=>10+8*bG m
def aRo(b:Id)(w:aOw)(loc:List ByteArray)(m:Nat):Prop:=∀{κ:Int} {Y:ae} {a:AV} {n:Nat} {l:List amt},Gn κ Y b w loc a n->κ<=1000000->shL m 8 l->n+L l*bG m<60000->∃r Y1,GR κ (L l*bG m) Y b w loc a n r Y1/\cZ aS GG 208 [.p b 0 0,sl amt.c l] Y r Y1
theorem aV7{m}(i:aRo b w loc m)(G:Gn κ Y b w loc a n)(h:κ<=1000000){l}(e:shL m 4 l)(k:n+4*bG m<60000)(j:∀g f Y1,Gn κ Y1 b w loc g f->n<=f->f<=n+4*bG m->R4 b Y a Y1 g->K (.t []) Y1):cB 208 [.p b 0 0,sl amt.c l] Y d K:=by have:L l*bG m<=4*bG m:=qo _ e.1;exact aPv A (i G h ⟨by have:=e.1;omega,e.2⟩ Z) X
theorem bc9{m}(F:aRo b w loc m)(G:Gn κ Y b w loc a n){x}(E:shS (m+1) x)(hn:n+bG (m+1)<60000)(aa:κ<=1000001)(o1 P y):∃r Y1,GR (κ-1) (bG<|m+1) Y b w loc a n r Y1/\cZ aS GG 300 [.p b 0 0, .a x.c,iv o1,iv P,iv y] Y r Y1:=by obtain⟨m',W,g1,g2⟩:=E.body;obtain rfl:m=m':=Z;have:bG (m+1)=10+8*bG m:=A;obtain⟨C,D⟩:=b;obtain rfl:C=45:=G.sb;refine bg0 G.le brR λT v3 u ab nf2 R=>?_;have g:=u.fx [];have G2:=G.fx0 g;have v:R4 (45,D) Y a T a:=R4.of0 g;obtain⟨s,nx,k⟩:=G2.bx;simp only[Oy k,eS,k,be3,bkl,bc5,bdI];refine aPw G2 Z λa3 s3 n3 o h1 h2 i=>?_;have S:=i.f.keep _ _ bte R;simp only[qz 4,eS,S,J9];refine aV7 F o Z g1 Z λa4 n4 s4 h h3 h4 j=>?_;obtain⟨s',ac,e⟩:=h.bx;simp only[qz 6,Oy e,eS,e];refine h.set λs5 q l=>?_;simp only[qz 8,qy 10,bdI,aY];refine aPw q Z λB s6 M t h5 h6 z=>⟨B,M,A,t.mono Z,Z,Z,(((v.trans i).trans j).trans<|R4.ofb l).trans z⟩
theorem a6I{m}(ih:aRo b w loc m)(G:Gn κ Y b w loc a n){x}(hx:shS (m+1) x)(he:shE 2 x.expr)(hn:n+bG (m+1)<60000)(aY:κ<=1000001):∃r Y1,GR (κ-1) (bG<|m+1) Y b w loc a n r Y1/\cZ aS GG 299 [.p b 0 0, .a x.c] Y r Y1:=by obtain⟨m',aV,g1,g2⟩:=hx.body;obtain rfl:m=m':=Z;have:bG (m+1)=10+8*bG m:=A;obtain⟨b1,S⟩:=b;obtain rfl:b1=45:=G.sb;refine bg2 G.le brR λs2 v3 K2 aZ nf2 q2=>?_;have C:=K2.fx [];have G2:=G.fx0 C;have:R4 (45,S) Y a s2 a:=R4.of0 C;obtain⟨s,nx,hb⟩:=G2.bx;obtain⟨o2,T,aW⟩:=G2.ga;simp only[Oy hb,eS,hb,q2,J9,T.ln];refine aRF G2 Z he λa3 n3 s3 u h1 h2 R3=>?_;have q3:=R3.f.keep _ _ bte q2;obtain⟨s',a6,l⟩:=u.bx;obtain⟨o3,W,ad⟩:=u.ga;simp only[qz 4,Oy l,eS,l,be3,bkl,bc5,W.ln,bdI];refine aPw u Z λa4 s4 n4 G4 h3 h4 F=>?_;have q4:=F.f.keep _ _ bte q3;simp only[qz 6,eS,q4,J9];refine aV7 ih G4 Z g1 Z λP n5 s5 E h5 h6 R5=>?_;have q5:=R5.f.keep _ _ bte q4;obtain⟨bb,aI,o⟩:=E.bx;simp only[qz 8,Oy o,eS,o];refine E.set λs6 h F6=>?_;have q6:=F6.kq q5;have M:R4 (45,S) Y a s6 P:=(by grind [R4.trans,R4.ofb]);obtain⟨bd,a8,q⟩:=h.bx;obtain⟨o6,aa,ae⟩:=h.ga;have z:L (o3.map aRV.c)=n3:=(by simp[ad]);simp only[qz 10,qy 16,Oy q,eS,q,q6,J9,aa.ln,bdI,z];refine⟨λ_=>?_,λ_=>⟨λ_=>?_,λ_=>?_⟩⟩;refine aPw h Z λR s7 n7 g h7 h8 y=>?_;obtain⟨ap,al,e⟩:=g.bx;obtain⟨o7,k,af⟩:=g.ga;simp only[qz 12,qy 14,Oy e,eS,e,be3,bkl,bc5,k.ln];refine g.patch Z (.inr A) λs8 i j=>?_;exact⟨R,n7,A,i.mono Z,Z,Z,(M.trans y).trans j⟩;refine h.patch Z (.inr A) λs8 i j=>?_;exact⟨P,n5,A,i.mono Z,Z,Z,M.trans j⟩;refine aPw h Z λR s7 n7 g h7 h8 y=>?_;have q7:=y.f.keep _ _ bte q6;obtain⟨ap,al,e⟩:=g.bx;obtain⟨o7,k,af⟩:=g.ga;simp only[qz 18,Oy e,eS,e,be3,bkl,bc5,k.ln];refine g.patch Z (.inr A) λs8 i j=>?_;have q8:=j.f.keep _ _ bte q7;simp only[qz 20,eS,q8,J9];refine aV7 ih i Z g2 Z λa9 n9 s9 v h9 aU R9=>?_;obtain⟨be,ba,t⟩:=v.bx;obtain⟨o9,ab,aX⟩:=v.ga;have B:L (o6.map aRV.c)=n5:=(by simp[ae]);simp only[qz 22,qy 24,Oy t,eS,t,be3,bkl,bc5,ab.ln,B];refine v.patch Z (.inl A) λbc D aT=>?_;exact⟨a9,n9,A,D.mono Z,Z,Z,by grind [R4.trans]⟩
theorem bde(G:Gn κ Y b w loc a n)(h):∃r Y1,((∃v,r= .s v/\∃u:Int,AV.s v=iv u)/\Fx Y Y1 [])/\cZ aS GG 301 [.p b 0 0,st h] Y r Y1:=bg3 G.le<|by obtain⟨s,nx,e⟩:=G.bx;have:=G.wb.2.2.1;refine bid (L w.bC) (λk=>True) trivial λk j i=>?_;have g:∀u:Int,aRf (λr Y1=>(∃v,r= .s v/\∃u:Int,AV.s v=iv u)/\Fx Y Y1 []) Y [iv u]:=λu=>⟨⟨_,A,u,A⟩,Fx.refl _ _⟩;simp+contextual only[qz 19,au,Oy e,eT,e,be3,bkl,bc5,aBz (f:=yp.c) (z:=2)<|λ_=>A,bh,g];grind [dJ,bkg]
theorem baW(G:Gn κ Y b w loc a n){c}(e:∀u,K (iv u) Y):cB 301 [.p b 0 0,st c] Y d K:=aV6 A (bde G c) FA
theorem bdx{m}(ih:aRo b w loc m)(G:Gn κ Y b w loc a n){x}(P:shS (m+1) x)(hn:n+bG (m+1)<60000)(aL:κ<=1000000):∃r Y1,GR κ (bG<|m+1) Y b w loc a n r Y1/\cZ aS GG 274 [.p b 0 0, .a x.c] Y r Y1:=by
 have C:=P.at
 have:=P.ops
 have:bG (m+1)=10+8*bG m:=A
 obtain⟨b1,i⟩:=b
 obtain rfl:b1=45:=G.sb
 refine bg5 G.le brR λs2 v3 K2 aM nf2 q2=>?_
 have F2:=K2.fx []
 have G2:=G.fx0 F2
 obtain⟨s,nx,hb⟩:=G2.bx
 simp only[Oy hb,eS,hb,be3,bkl,bc5]
 refine G2.set λs3 R F3=>?_
 have q3:=F3.kq q2
 obtain⟨s',ar,aK,T⟩:=R.bx0
 simp only[qz 4,Oy T,eS,T,be3,bkl,bc5,eM (x:=ar+1) Z Z]
 refine(R.mono (κ':=κ+1) Z).nxt Z Z λF g F4=>?_
 have q4:=F4.kq q3
 have j:R4 (45,i) Y a F a:=((R4.of0 F2).trans<|R4.ofb F3).trans<|R4.ofb F4
 obtain⟨aO,aD,D⟩:=g.bx
 have B:=g.wb
 have:=g.lb
 have S:∀{Y3:ae} {a3:AV} {n3:Nat} {x:aRV} {d:Nat},Gn (κ+1) Y3 (45,i) w loc a3 n3->n<=n3->n3<=n+3->R4 (45,i) Y a Y3 a3->cB 209 [.p (45,i) 0 0, .a x.c] Y3 d λaa v=>aRf (GR κ (bG<|m+1) Y (45,i) w loc a n) v []:=λR l o R3=>
  aPw R Z λk Y1 q G' g1 g2 R'=>⟨k,q,A,G'.mono Z,Z,Z,R3.trans R'⟩
 have t:∀{o1 o2 y:Int} {d:Nat},cB 300 [.p (45,i) 0 0, .a x.c,iv o1,iv o2,iv y] F d λaa v=>aRf (GR κ (bG<|m+1) Y (45,i) w loc a n) v []:=λ{o1 o2 y d}=>
  aPv A (bc9 ih g P hn Z o1 o2 y) λk q Y1 l o E z=>⟨k,q,A,l.mono Z,o,E,j.trans z⟩
 have M:∀{nm:ByteArray} {d:Nat} {K:be},(∀u:Int,K (iv u) F)->cB 301 [.p (45,i) 0 0,st nm] F d K:=λhK=>baW g hK
 have e:∀{x:aRV} {d:Nat},cB 209 [.p (45,i) 0 0, .a x.c] F d λaa v=>aRf (GR κ (bG<|m+1) Y (45,i) w loc a n) v []:=λ{x d}=>S g Z Z j
 have:dG F (.a w.c)= .a w.c:=A
 simp only[qz 6,qy 8,Oy D,eS,D,q4,J9]
 have hc:x.op=1\/x.op=2\/x.op=3\/x.op=4\/x.op=5\/x.op=6\/x.op=7\/x.op=8\/x.op=9\/x.op=10\/x.op=11\/x.op=12\/x.op=13\/x.op=14\/x.op=15:=Z
 rcases hc with h|h|h|h|h|h|h|h|h|h|h|h|h|h|h
 all_goals
  simp only[h,au,qz 41,qz 39,qy 10,qy 12,qy 14,qy 16,qy 18,qy 20,qy 34,qy 36,qy 42,Oy D,eS,D,q4,J9,boV,bmL,Int.reduceEq,↓iC,↓iB,jM,kU,jt,tW,alg,aD6,rr,bdI,ni,aNQ,sr,eE,awG,aQd]
 ·exact aPv A (bda g Z (C.1<|.inl h) C.2.2.1 C.2.2.2.1 C.2.1) λk q Y1 l o E z=>⟨k,q,A,l.mono Z,o,Z,j.trans z⟩
 ·exact aPv A (a6I ih g P (C.1 Z) hn Z) λk q Y1 l o E z=>⟨k,q,A,l.mono Z,o,E,j.trans z⟩
 ·exact aPv A (a6I ih g P (C.1 Z) hn Z) λk q Y1 l o E z=>⟨k,q,A,l.mono Z,o,E,j.trans z⟩
 ·exact⟨by have:=B.2.1;omega,λ_=>t⟩
 ·exact⟨by have:=B.2.1;omega,λ_=>t⟩
 ·exact⟨by have:=B.2.1;omega,λ_=>t⟩
 ·exact t
 ·exact t
 ·exact M λu=>by simp only[qz 22,qy 24,bdI,aY];exact e
 ·exact M λu=>by simp only[qz 26,qy 28,bdI,aY];exact e
 ·exact M λu=>by simp only[qz 30,qy 32,bdI,aY];exact e
 ·exact⟨by have:=B.2.2.2.2.1;omega,e⟩
 ·exact⟨by have:=B.2.2.2.2.1;omega,e⟩
 ·refine aRF g Z (C.1 Z) λa5 n5 s5 G5 l o R5=>?_
  have q5:=R5.f.keep _ _ bte q4
  obtain⟨aP,aN,W⟩:=G5.bx
  have:dG s5 (.a w.c)= .a w.c:=A
  simp only[qz 38,qy 40,Oy W,eS,W,q5,J9,jM,kU,jt,tW,alg,aD6,AL,bdI,ni]
  exact⟨by have:=B.2.2.2.1;omega,S (G5.mono Z) Z Z<|j.trans R5⟩
 ·exact⟨Z,by have:=B.2.2.2.1;omega,e⟩
theorem bdz(m):m<=4->aRo b w loc m:=by induction m with|zero=>intro _ κ Y a n l G o e u;have j:l=[]:=(by cases l with|nil=>rfl|cons x l=>exact(e.2 x O).elim);subst j;refine a7T G.le ?_;refine yV 0 (λ_ _ Y'=>Y'=Y) A ?_;rintro k _ Y1 g rfl;obtain rfl:k=0:=Z;simp only[qz 7,au,eQ,bhZ];exact⟨λh=>by simp at h,λ_=>⟨a,n,A,G,Z,Z,R4.refl⟩⟩|succ m v=>intro M κ Y a n l G o e u;have F:=G.le;have z:bG (m+1)<=46810:=(by have:m=0\/m=1\/m=2\/m=3:=Z;rcases this with rfl|rfl|rfl|rfl<;>decide);refine a7T G.le ?_;refine jD (α:=AV×Nat) (λ_ i=>[iv i]) 0 (L l) (λi x Y'=>Gn κ Y' b w loc x.1 x.2/\n<=x.2/\x.2<=n+i*bG (m+1)/\R4 b Y a Y' x.1) (s0:=(a,n)) (by grind [R4.refl]) ?_;rintro k ⟨a1,p⟩ Y1 g ⟨f,r,E,q⟩;have B:k*bG (m+1)<=L l*bG (m+1):=qo _ g;simp only[qz 7,au,eQ,ixv,bh,rr,J9];refine⟨λh=>⟨vp h,?_⟩,λ_=>⟨a1,p,A,f,r,Z,q⟩⟩;have c:=aL h;have hs:(k+1)*bG (m+1)=k*bG (m+1)+bG (m+1):=tN _ _;have t:(k+1)*bG (m+1)<=L l*bG (m+1):=qo _ c;refine aPv A (bdx (v Z) f (e.2 _<|dB c) Z Z) λa2 y Y2 G2 g1 D C=>?_;simp only[qz 2,au,eQ];exact dR (mk:=λ(_:AV×Nat) i=>[iv i]) (s:=(a1,p)) (s':=(a2,y)) (λ_ _=>A) c (by have:=e.1;omega) (by grind [R4.trans])
theorem ba2(G:Gn κ Y b w loc a 0){l}(f:shL 4 8 l)(g:κ<=1000000)(i:∀e h Y1,Gn κ Y1 b w loc e h->h<=50000->R4 b Y a Y1 e->K (.t []) Y1):cB 208 [.p b 0 0,sl amt.c l] Y d K:=by have:L l*bG 4<=8*bG 4:=qo _ f.1;have:bG 4=5850:=A;exact aPv A (bdz 4 Z G g f Z) X
end
def aQN{fn:FuncId}{xs Y}{d:Nat}{K}{R:be}{ks}(k:uQ.elem fn=I)(i:fps.lookup fn=V ks)(l)(a:∀x∈xs,okX ks l x)(b:okB ks l<|bnq ks l Y)(h:∃r Y1,R r Y1/\cZ aS GG fn xs (bnq ks l Y) r Y1)(g:∀r Y1,R r Y1->L Y1=L Y/\∃l':List Id,okB ks l' Y1/\okX ks l' r/\K r (avs ks l' Y Y1)):cV fn xs Y d K:=by obtain⟨r,Y1,c,f⟩:=h;obtain⟨j,l',m,n,o⟩:=g r Y1 c;have e:aPf GGV fn=V ks:=(by have:GGV.fp fn=V ks:=i;have:GGV.rd fn=I:=k;grind [aPf]);unfold cV tR;rw[e];exact⟨l,l',r,Y1,f,j,a,b,m,n,o⟩
section
variable{ks:eP}{l:List Id}{Y Y1:ae}
def aQw{e z a bA}(g:J7 Y1 e z a bA)(h:∀q∈aA a,okI ks l q):okC ks l a:=by rcases g with⟨_,rfl⟩|⟨q,m,rfl,_⟩;exact .inr A;exact h q aBY
theorem a6y{e z a bA}(g:J7 Y e z a bA)(h:∀q∈aA a,okI ks l q):J7 (bnq ks l Y) e z a bA:=by rcases g with g|⟨q,r,rfl,g⟩;exact .inl g;have b:=h q aBY;exact .inr ⟨q,r,A,by rw[aOV b.1,hY b.2];exact g⟩
theorem aRR(c:L Y1=L Y){e}{z:Nat}{a bA}(g:J7 Y1 e z a bA)(h:∀q∈aA a,okI ks l q):J7 (avs ks l Y Y1) e z a bA:=by rcases g with g|⟨q,r,rfl,g⟩;exact .inl g;have b:=h q aBY;exact .inr ⟨q,r,A,by rw[aPT c b.1,hY b.2];exact g⟩
theorem aNO{e z a bA}(g:J7 Y e z a bA):∀p∈aA a,∀x,box Y p=V x->x.var=U->False:=by rcases g with⟨_,rfl⟩|⟨b,r,rfl,g⟩;simp[aA];grind [aA,cE]
end
structure Kx(ks:eP)(Y Y':ae):Prop where
 len:L Y'=L Y
 keep:∀b x,b.1∉ks->box Y b=V x->box Y' b=V x
theorem Kx.mix{ks l Y Y1}:Kx ks Y (avs ks l Y Y1):=⟨aPl,by grind [aPt]⟩
def Kx.kq{ks:eP}{Y Y':ae}(k:Kx ks Y Y'){b:Id}{x:bY}(c:box Y b=V x)(a:b.1∉ks:=by simp):box Y' b=V x:=k.keep b x a c
section
variable{ks:eP}{Y Y' Y1:ae}{m b:Id}{hs:List ByteArray}{h:AV}{d:Nat}{K:be}{l:List Id}
theorem Kx.gr(k:Kx ks Y Y'){e z a bA}(g:J7 Y e z a bA)(c:∀q∈aA a,q.1∉ks):J7 Y' e z a bA:=by rcases g with g|⟨b,m,rfl,g⟩;exact .inl g;exact .inr ⟨b,m,A,k.keep _ _ (c b aBY) g⟩
theorem Fx.kx{Lw}(F:Fx Y Y' Lw)(c:∀q∈Lw,q.1∈ks):Kx ks Y Y':=⟨F.len,brU⟩
theorem w7.mix(M:w7 Y1 m b hs h)(c:L Y1=L Y)(g:okI ks l m)(f:okI ks l b)(i:∀q∈aA h,okI ks l q):w7 (avs ks l Y Y1) m b hs h:=by obtain⟨o,k,s,tx,e,n,j⟩:=M.mx;obtain⟨Lw,a,T⟩:=M.tp;refine⟨⟨o,k,s,tx,e,n,?_⟩,⟨Lw,a,⟨?_,T.le,T.ok,T.ll⟩⟩,aRR c M.gh i,by grind [aPl,w7.le],M.sm,M.sb,M.sh⟩;rw[aPT c g.1,hY g.2];exact j;rw[aPT c f.1,hY f.2];exact T.bx
def w7.cut(M:w7 Y m b hs h)(f:okI ks l m)(e:okI ks l b)(g:∀q∈aA h,okI ks l q):w7 (bnq ks l Y) m b hs h:=by obtain⟨n,j,s,tx,c,k,i⟩:=M.mx;obtain⟨Lw,a,T⟩:=M.tp;refine⟨⟨n,j,s,tx,c,k,?_⟩,⟨Lw,a,⟨?_,T.le,T.ok,T.ll⟩⟩,a6y M.gh g,by rw[aOr];exact M.le,M.sm,M.sb,M.sh⟩;rw[aOV f.1,hY f.2];exact i;rw[aOV e.1,hY e.2];exact T.bx
theorem w7.bA(M:w7 Y1 m b hs h)(g:okI ks l b)(i:∀q∈aA h,okI ks l q):∀p,p=m\/p=b\/p∈aA h->∀x,box Y1 p=V x->x.var=U->∀q∈x.bA,∀y∈q,okC ks l y:=by obtain⟨u,r,s,tx,o,t,n⟩:=M.mx;obtain⟨Lw,a,T⟩:=M.tp;rintro p (rfl|rfl|j) x c k q e y f;rw[n] at c;cases c;simp only[cE] at e;subst e;simp only[eW,ql,bj5] at f;rcases f with rfl|rfl|rfl|rfl|rfl|rfl|rfl|rfl;exact g;trivial;trivial;trivial;trivial;trivial;trivial;exact aQw M.gh i;rw[T.bx] at c;cases c;simp only[cE] at e;subst e;simp only[eW,ql,bj5] at f;rcases f with rfl|rfl;exact .inl A;trivial;exact(aNO M.gh p j x c k).elim
theorem aXR(M:w7 Y m b hs h){n}(G:∀(x) Y1,0<=x->(1<=n->x<n)->w7 Y1 m b hs h->Kx [14,15,16] Y Y1->K (iv x) Y1):cV 119 [.p b 0 0,iv n] Y d K:=by have o:=M.sm;have k:=M.sb;have z:okI [14,15,16] (m::b::aA h) m:=⟨by simp[o],O⟩;have e:okI [14,15,16] (m::b::aA h) b:=⟨by simp[k],O⟩;have g:∀q∈aA h,okI [14,15,16] (m::b::aA h) q:=λq j=>⟨by simp[M.sh q j],by simp[j]⟩;have c:=M.cut z e g;obtain⟨Lw,a,T⟩:=c.tp;refine aQN A rfl (m::b::aA h) (λx t=>?_) (λp f=>c.bA e g p<|by simpa using f) (aWF c.le T n) ?_;simp only[eW,ql,bj5] at t;rcases t with rfl|rfl;exact e;trivial;rintro r Y1 ⟨x,u,rfl,C,D,w,E,_,F⟩;have i:w7 Y1 m b hs h:=(by obtain⟨S,P,s,tx,B,R,N⟩:=c.mx;exact⟨brU,⟨Lw,u,w⟩,c.gh.fx F M.nb,F.len.trans c.le,M.sm,M.sb,M.sh⟩);have y:=i.le.trans M.le.symm;exact⟨y,m::b::aA h,λp f=>i.bA e g p (by simpa using f),trivial,by grind [w7.mix,Kx.mix]⟩
theorem baZ{D:Nat}(M:w7 Y m b hs h)(hl:L hs+D<=500){t n:Int}(hd:t=D)(S:0<=n)(T:n<=3)(W:∀(a) (l:List amt) (h') Y1,J7 Y1 300 11 a (l.map amt.c)->(L l:Int)<=n->(∀x∈l,shS (D+1) x)->(∀q∈aA a,q.1=30)->w7 Y1 m b hs h'->Kx [14,15,16,30] Y Y1->K a Y1):cV 212 [.p m 0 0,iv t,iv n] Y d K:=by subst hd;have j:=M.sm;have i:=M.sb;have C:okI [14,15,16,30] (m::b::aA h) m:=⟨by simp[j],O⟩;have u:okI [14,15,16,30] (m::b::aA h) b:=⟨by simp[i],O⟩;have z:∀q∈aA h,okI [14,15,16,30] (m::b::aA h) q:=λq e=>⟨by simp[M.sh q e],by simp[e]⟩;have s:=M.cut C u z;refine aQN A rfl (m::b::aA h) (λx o=>?_) (λp f=>s.bA u z p<|by simpa using f) (bdw D s hl S T) ?_;simp only[eW,ql,bj5] at o;rcases o with rfl|rfl|rfl;exact C;trivial;trivial;rintro r Y1 ⟨l,h',g1,G,N,P,k,R⟩;have g:=k.le.trans M.le.symm;have E:okI [14,15,16,30] (m::b::(aA h'++aA r)) m:=⟨by simp[j],O⟩;have w:okI [14,15,16,30] (m::b::(aA h'++aA r)) b:=⟨by simp[i],O⟩;have B:∀q∈aA h',okI [14,15,16,30] (m::b::(aA h'++aA r)) q:=λq e=>⟨by simp[k.sh q e],by simp[e]⟩;have F:∀q∈aA r,okI [14,15,16,30] (m::b::(aA h'++aA r)) q:=λq e=>⟨by simp[(P q e).2],by simp[e]⟩;refine⟨g,m::b::(aA h'++aA r),?_,?_,W r l h' _ (aRR g g1 F) G N X (k.mix g E w B) Kx.mix⟩;intro p f x o hv q e y hy;simp only[eW,dF] at f;rcases f with f|f|f|f;grind [w7.bA];grind [w7.bA];grind [w7.bA];grind [aNO];have:=aQw (ks:=[14,15,16,30]) (l:=m::b::(aA h'++aA r)) g1 F;rcases g1 with⟨_,rfl⟩|⟨q,r',rfl,_⟩<;>exact this
end
def apX{Y e}{z d by':Nat}{zs a x bA new K}(g:J7 Y e z a bA)(t:J7 Y e z x new)(C:L zs=z)(u:0<z)(w:d<L Y)(B:∀r∈bA,L r=z)(y:∀r∈new,L r=z)(i:(L bA+L new)*(by'+1)<=1099511627776)(s:∀c Y',J7 Y' e z c (bA++new)->Fx Y Y' (aA a)->(∀b∈aA c,b∈aA a\/b.1=d)->K c Y'):eV (apA e zs by' Y d a x) K:=by have n:gL Y x=V new:=(by rcases t with⟨rfl,rfl⟩|⟨q,m,rfl,f⟩;rfl;simp[gL,f]);have o:apA e zs by' Y d a x=apA e zs by' Y d a (.l new U U):=(by have j:gL Y (.l new U U)=V new:=A;unfold apA;rw[n,j]);rw[o];by_cases k:new=[];subst k;have:apA e zs by' Y d a (.l [] U U)=V (a,Y):=(by unfold apA;simp only[gL];rw[hY O];rcases g with⟨_,rfl⟩|⟨q,m,rfl,f⟩;rfl;simp[f]);rw[this];exact s a Y (by simpa using g) (Fx.refl _ _) λb i=> .inl i;grind [qs,gi.p]
structure MPs(Y:ae)(m b:Id)(v1 v4:Nat)(h:AV)(ts:List bj9)(a:AV):Prop where
 M:w7 Y m b [] h
 p:box Y (4,v4)=V ⟨217,2,U,U,[[sl bmK.c aNF,a]]⟩
 ga:J7 Y 284 4 a (ts.map bj9.c)
 pa:∀q∈aA a,q.1=93
 r:box Y (2,v1)=V ⟨217,2,U,U,[aOP]⟩
 ht:∀t∈ts,shT t
structure TB(Y:ae)(v:Nat)(nm:ByteArray)(a:AV)(l:List amt):Prop where
 p:box Y (8,v)=V ⟨284,4,U,U,[[st nm,iv 0, .l ([⟨#[97]⟩,⟨#[98]⟩].map cs) U U,a]]⟩
 ga:J7 Y 300 11 a (l.map amt.c)
 pa:∀q∈aA a,q.1=56\/q.1=68\/q.1=87
 hs:∀s∈l,shS 4 s
section
variable{ks:eP}{Y Y':ae}{m b:Id}{v1 v4 v:Nat}{h h' a:AV}{ts:List bj9}{nm:ByteArray}{l:List amt}{Lw:List Id}
theorem MPs.kx(S:MPs Y m b v1 v4 h ts a)(k:Kx ks Y Y')(M:w7 Y' m b [] h')(c:4∉ks)(e:2∉ks)(f:93∉ks):MPs Y' m b v1 v4 h' ts a:=⟨M,k.keep _ _ c S.p,k.gr S.ga λq g=>by grind [MPs.pa],S.pa,k.keep _ _ e S.r,S.ht⟩
theorem MPs.fx(S:MPs Y m b v1 v4 h ts a)(F:Fx Y Y' Lw)(e:∀q∈Lw,q.1=8\/q.1=56\/q.1=68\/q.1=87):MPs Y' m b v1 v4 h ts a:=by have:=S.M.sm;have:=S.M.sb;refine⟨S.M.fx F X X (λq c g=>by have:=e _ g;have:=S.M.sh q c;omega),(by grind [Fx.keep,MPs.p]),S.ga.fx F (λq c g=>by grind [MPs.pa]),S.pa,(by grind [Fx.keep,MPs.r]),S.ht⟩
theorem TB.kx(S:TB Y v nm a l)(k:Kx ks Y Y')(c:8∉ks)(e:56∉ks)(f:68∉ks)(g:87∉ks):TB Y' v nm a l:=⟨k.keep _ _ c S.p,k.gr S.ga (λq i=>by grind [TB.pa]),S.pa,S.hs⟩
theorem TB.fx0(S:TB Y v nm a l)(F:Fx Y Y' Lw)(c:∀q∈Lw,q.1≠8/\q.1≠56/\q.1≠68/\q.1≠87):TB Y' v nm a l:=⟨(by grind [Fx.keep,TB.p]),S.ga.fx F (λq e g=>by grind [TB.pa]),S.pa,S.hs⟩
theorem TB.set{i}(n:box Y (8,v)=V ⟨284,4,U,U,[[st nm,iv 0, .l ([⟨#[97]⟩,⟨#[98]⟩].map cs) U U,i]]⟩){e l'}(g:J7 Y 300 11 e<|l'.map amt.c)(o:∀q∈aA e,q.1=56\/q.1=68\/q.1=87)(f:∀s∈l',shS 4 s){K}(k:∀Y1,TB Y1 v nm e l'->Fx Y Y1 [(8,v)]->K Y1):sV (aK 1 Y (.p (8,v) 0 3) e) K:=A0 n g.ce O λY1 F j=>k Y1 ⟨j,(by grind [J7.fx]),o,f⟩ F
end
def baI{Y}:aX zd9 4 Y [(0,sv [109,97,105,110]),(1,sv [116,49]),(2,sv [116,50]),(3,sv [116,51])]=V (.l ([⟨#[109,97,105,110]⟩,⟨#[116,49]⟩,⟨#[116,50]⟩,⟨#[116,51]⟩].map cs) U U,Y):=a7c
def bas{nm:ByteArray}:bM bwS bst [(0,st nm),(2, .l ([⟨#[97]⟩,⟨#[98]⟩].map cs) U U)]=V (.a [st nm,iv 0, .l ([⟨#[97]⟩,⟨#[98]⟩].map cs) U U, .l [] U U]):=rfl
def a5R{o:Int}{nm:ByteArray}:bM bsW alz [(0,iv o),(2,st nm)]=V (.a [iv o,iv 0,st nm,sv [], .l [] U U,iv 0,iv 0,sv [], .l [] U U, .l [] U U, .l [] U U]):=rfl
def a51{Y o nm}:aX bs4 1 Y [(0, .a [iv o,iv 0,st nm,sv [], .l [] U U,iv 0,iv 0,sv [], .l [] U U, .l [] U U, .l [] U U])]=V (.l ([amt.mk o 0 nm ⟨#[]⟩ [] (aNK.mk 0 0 ⟨#[]⟩ []) [] []].map amt.c) U U,Y):=aQm (tgt:=(amt.mk o 0 nm ⟨#[]⟩ [] (aNK.mk 0 0 ⟨#[]⟩ []) [] []).c) bsd brR H (aS7 (x:=amt.mk o 0 nm ⟨#[]⟩ [] (aNK.mk 0 0 ⟨#[]⟩ []) [] [])) H
def aWJ(l)(hp:(∀x∈l,0<=x/\x<256)/\L l<4611686018427387904):Ct 126 [sl cu l] (λr=>∃p:bqH,r= .a p.c/\shP p/\p.brP=aNF):=by refine aDq (bgf λs0 hl h0=>?_);simp only[aUA];refine pz hl λv1 s1 F1 N1 q1=>?_;have bz:=F1.len.trans hl;have ah:bM bwR bqW [(0,sl cu l)]=V (.a [sl cu l,iv 0]):=A;simp only[qz 2,qy 8,ah,aY];refine bxL A H Z λP s2 F2 N2 q2=>?_;have bA:=F2.len.trans bz;have bs:bM bD4 [(0,1),(1,1),(2,1),(3,1),(4,1),(5,1),(6,1),(7,1)] [(0, .p (14,P) 0 0),(2,iv 20)]=V (.a [.p (14,P) 0 0,iv 0,iv 20,bv I,bv I,bv I,bv I, .l [] U U]):=A;simp only[bs,aY];refine bxL A H Z λv3 s3 F3 N3 q3=>?_;have aP:=F3.len.trans bA;have T3:Tp s3 (14,P) l 0:=⟨F3.kq q2,Z,hp.1,hp.2⟩;have M3:w7 s3 (16,v3) (14,P) [] (.l [] U U):=⟨FA,⟨l,0,T3⟩, .inl ⟨A,A⟩,aP,A,A,aBY⟩;have bt:bM aOP bqW [(0,sl bmK.c aNF)]=V (.a [sl bmK.c aNF, .l [] U U]):=A;simp only[jM,jt,aQV,bt,u0];refine⟨by simp[lo,nA,uN,btE,wD],?_⟩;refine anu aP λv4 s4 F4 N4 q4=>?_;have S4:MPs s4 (16,v3) (14,P) v1 v4 (.l [] U U) [] (.l [] U U):=⟨M3.fx0 F4,q4, .inl ⟨A,A⟩,aBY,F4.kq<|F3.kq<|F2.kq q1,O⟩;obtain⟨th,lf,s,tx,ag,lp,aO⟩:=S4.M.mx;simp only[qz 10,Oy aO,eS,aO,be3,bc5];refine aXR S4.M λy s5 y0 y1 M5 K5=>?_;have y1:=y1 H;have S5:=S4.kx K5 M5 H H H;simp only[qz 12,qy 14,eQ,baI,eM (x:=2+y) Z Z];obtain⟨n,hn⟩:∃n:Nat,2+y=n:=X;rw[hn];have cn:n<=4:=Z;refine yV n (λk _ Y=>∃h ts a,MPs Y (16,v3) (14,P) v1 v4 h ts a/\L ts=k) ⟨_,_,_,S5,A⟩ ?_;rintro k _ Y hk ⟨h,ts,a,S,bE⟩;have aQ:=S.M.le;obtain⟨th,lf,s,tx,ag,lp,hb⟩:=S.M.mx;simp only[qz 43,qy 60,au,Oy hb,eS,hb,bc5];refine⟨λak=>?_,λak=>?_⟩;have ba:k<n:=X;refine aPJ S.M O λs6 M6 F6=>?_;have S6:=S.kx (ks:=[16]) (F6.kx O) M6 H H H;simp only[qz 16,au,amZ,u0,rk,J9,aV4];refine⟨⟨Z,NA⟩,?_⟩;generalize gd ([⟨#[109,97,105,110]⟩,⟨#[116,49]⟩,⟨#[116,50]⟩,⟨#[116,51]⟩]:List ByteArray) (k:Int).toNat=nm;simp only[qz 18,qy 20,bas,aY];refine anu S6.M.le λv8 s7 F7 N7 q7=>?_;have S7:=S6.fx F7 O;have B7:TB s7 v8 nm (.l [] U U) []:=⟨q7, .inl ⟨A,A⟩,aBY,O⟩;simp only[qz 22];refine bpF (λo=>∀(Y1:ae) (h1 a8:AV) (w:List amt),MPs Y1 (16,v3) (14,P) v1 v4 h1 ts a->TB Y1 v8 nm a8 w->L w<=3->o [] Y1) ?_ λo aD=>?_;intro Y1 h1 a8 w C B aB;obtain⟨th,lf,s,tx,ag,lp,ah⟩:=C.M.mx;simp only[qz 81,Oy ah,eS,ah,B.p,be3,bkl,bc5];refine aXR C.M λy s8 y0 y1 M8 K8=>?_;have y1:=y1 H;have A8:=C.kx K8 M8 H H H;have B8:=B.kx K8 H H H H;simp only[qz 30,eQ,eM (x:=1+y) Z Z];refine baZ (D:=2) A8.M O A Z Z λa9 l9 h9 s9 g9 cm co p9 M9 K9=>?_;have A9:=A8.kx K9 M9 H H H;have B9:=B8.kx K9 H H H H;simp only[qz 32];refine apX B9.ga g9 A H (by rw[A9.M.le];decide) (qW (f:=amt.c) (z:=11) λ_=>brR) btN NA λck cr az aL cq=>?_;rw[<-dg] at az;have G:=B9.pa;have bc:=A9.fx aL (λq u=>by have:=G q u;omega);have aE:=aL.keep _ _ (λu=>by have:=G _ u;simp at this) B9.p;simp only[qz 34,eS,aE];refine TB.set aE az X (λs al=>?_) λbH ar bg=>?_;grind [TB.hs,shS.mono];have af:=bc.fx bg O;refine dT (by simp[eL,lb,lbV,aNG,dC,dK]) ?_;have a7:L (w++l9)<=6:=NA;generalize w++l9=bS at ar a7;clear az aE;refine bpF (λo=>∀(Y2:ae) (h2 a2:AV) (bd:List amt),MPs Y2 (16,v3) (14,P) v1 v4 h2 ts a->TB Y2 v8 nm a2 bd->L bd<=8->o [] Y2) ?_ λo ad=>?_;intro Y2 h2 a2 bd C B aB;have aC:aX bwM 1 Y2 [(0, .a [st nm,iv 0, .l ([⟨#[97]⟩,⟨#[98]⟩].map cs) U U,a2])]=V (.l ([(⟨nm,0,[⟨#[97]⟩,⟨#[98]⟩],bd⟩:bj9)].map bj9.c) U U,kills Y2<|aNN<|.a [st nm,iv 0, .l ([⟨#[97]⟩,⟨#[98]⟩].map cs) U U,a2]):=aQm (tgt:=(⟨nm,0,[⟨#[97]⟩,⟨#[98]⟩],bd⟩:bj9).c) (by simp only[ji,mU,aQ5,aXQ,aOb B.ga];rfl) A H A H;have a6:∀q∈aNN (.a [st nm,iv 0, .l ([⟨#[97]⟩,⟨#[98]⟩].map cs) U U,a2]),q.1=56\/q.1=68\/q.1=87:=λq u=>(by simp only[aNN,Cz,RN,iR,dW,cL] at u;exact B.pa q<|by cases a2<;>first|exact u|simp[iR] at u);have FK:=aOp (aNN<|.a [st nm,iv 0, .l ([⟨#[97]⟩,⟨#[98]⟩].map cs) U U,a2]) Y2;simp only[qz 129,qy 46,eS,C.p,aEa B.p A,be3,bkl,bc5,aC];have E:=C.fx FK (λq u=>by have:=a6 q u;omega);refine apQ E.ga E.M.le (qW (f:=bj9.c) (z:=4) λ_=>A) (by grind [bj9.c]) O NA λa4 s4 g4 F4 N4=>?_;rw[<-dg] at g4;have bD:=E.pa;have p4:=F4.keep _ _ X E.p;simp only[qz 48,eS,p4];refine A0 p4 g4.p.ce O λs5 F5 b5=>?_;have hm:=E.M.sm;have hb:=E.M.sb;have M5:=(E.M.fx F4 X X (λq u g=>by have:=bD _ g;have:=E.M.sh q u;omega)).fx F5 O O (λq u g=>by simp at g;subst g;have:=E.M.sh _ u;simp at this);simp only[qz 50,au,eQ];refine dR (mk:=λ(_:Unit) i=>[iv i]) (s:=()) (s':=()) (λ_ _=>A) ba Z ⟨h2,ts++[⟨nm,0,[⟨#[97]⟩,⟨#[98]⟩],bd⟩],a4,⟨M5,b5,g4.p.fx F5 X,λq u=>(N4 q u).2,?_,?_⟩,by simp[bE]⟩;exact F5.kq<|F4.keep _ _ X E.r;intro t N;rcases dF.1 N with g|g;exact C.ht t g;simp only[cE] at g;subst g;exact⟨O,aB,B.hs⟩;obtain⟨th,lf,s,tx,ag,lp,aA⟩:=af.M.mx;rcases W:Q ((k:Int)=0) with _|_;simp only[qz 131,qy 40,au,W,eS,aOq,↓jN,a7i,↓iB];exact ad bH _ _ _ af ar Z;simp only[qz 131,qy 40,au,W,Oy aA,aA,eS,be3,bc5,aPh,↓jA,a5C];refine aXR af.M λy bI y0 y1 bl aM=>?_;have ap:=af.kx aM bl H H H;have F:=ar.kx aM H H H H;simp only[F.p,amZ,rk,J9,a5R,a51,eQ];refine⟨λ_=>⟨⟨H,H⟩,?_⟩,λ_=>ad bI _ _ _ ap F Z⟩;refine apQ F.ga ap.M.le btN btN O NA λbq bK T R bm=>?_;rw[<-dg] at T;have G:=F.pa;have aq:=ap.fx R (λq u=>by have:=G q u;omega);have aa:=R.keep _ _ X F.p;simp only[qz 42,aa,eS];refine TB.set aa T.p X (λs al=>?_) λaU av aw=>?_;rcases dF.1 al with g|g;exact F.hs s g;simp only[cE] at g;subst g;exact aOI Z (.inl A) H H;refine dT (by simp[eL,lb,lbV,aNG,dC,dK]) ?_;exact ad aU _ _ _ (aq.fx aw O) av NA;obtain⟨th,lf,s,tx,ag,lp,cl⟩:=S7.M.mx;rcases W:Q ((k:Int)=0) with _|_;simp only[qz 83,au,W,eQ,↓iB];exact aD s7 _ _ _ S7 B7 O;simp only[qz 83,au,W,eQ,↓iC];refine AI (α:=Unit) (λ_ i=>[iv i]) 0 n 1 Z (λj _ Y=>∃a8 w,MPs Y (16,v3) (14,P) v1 v4 h ts a/\TB Y v8 nm a8 w/\L w+1=j) (s0:=()) X ?_;rintro j _ Y1 hj ⟨a8,w,C,B,aB⟩;simp only[qz 97,qy 24,au,B.p,amZ,J9,a5R,a51,bh,eT];refine⟨λak=>⟨⟨Z,by have:j<n:=(by simpa using ak);simp;omega⟩,?_⟩,λak=>aD Y1 _ _ _ C B Z⟩;have bB:j<n:=X;refine apQ B.ga C.M.le btN btN O NA λbq bK T R bm=>?_;rw[<-dg] at T;have G:=B.pa;have aq:=C.fx R (λq u=>by have:=G q u;omega);have aa:=R.keep _ _ X B.p;simp only[qz 26,aa,eS];refine TB.set aa T.p X (λs al=>?_) λaU av aw=>?_;rcases dF.1 al with g|g;exact B.hs s g;simp only[cE] at g;subst g;exact aOI Z (.inl A) H H;refine dT (by simp[eL,lb,lbV,aNG,dC,dK]) ?_;simp only[au,eQ];exact dR (mk:=λ(_:Unit) i=>[iv i]) (s:=()) (s':=()) (λ_ _=>A) bB Z ⟨_,_,aq.fx aw O,av,NA⟩;have ha:dG Y (.a [sl bmK.c aNF,a])= .a (⟨aNF,ts⟩:bqH).c:=(by simp only[dG,eR,nrm,ji,mU];have e1:gK (aTH Y a)=sl bj9.c ts:=aOb S.ga;rw[e1];rfl);have aT:∀x y:AV,aN (V 2) [x,y]=V (.a [x,y]):=λ_ _=>A;have aQ:L ts<=4:=Z;have aR:shP ⟨aNF,ts⟩:=⟨⟨by show L aNF<1000;decide,X,λt N=>by have:=(S.ht t N).1;omega⟩,aQ,S.ht⟩;simp only[S.p,a6X,qh,df,aT,jM,kU,jt,ha,u0,aQV];refine⟨aR,by simp[lo,uN,btE,wD],?_⟩;simp only[oJ,pG,eQ];refine⟨λhc=>?_,λhc=>?_⟩;refine⟨by simp[lo,nA,uN,btE,wD],?_⟩;simp only[aV4,bQ,qz 52,jM,kU,jt,tW,Fa,aQV];refine⟨by simp[lo,nA,aNN,iR],by rw[aXP A];trivial,?_⟩;have cp:shS 4 (amt.mk 1 0 ⟨#[120]⟩ ⟨#[]⟩ [] (aNK.mk 1 1 ⟨#[]⟩ []) [] []):=aOI (λ_=>⟨.inl ⟨.inl A,A⟩,buJ⟩) (.inl A) H H;have bu:∀x:amt,bM bwS bst [(0,sv [109,97,105,110]),(2, .l ([⟨#[97]⟩,⟨#[98]⟩].map cs) U U),(3, .l ([x].map amt.c) U U)]=V (.a [sv [109,97,105,110],iv 0, .l ([⟨#[97]⟩,⟨#[98]⟩].map cs) U U, .l ([x].map amt.c) U U]):=λ_=>A;have aC:∀(s:ae) (x:amt),aX bwM 1 s [(0, .a [sv [109,97,105,110],iv 0, .l ([⟨#[97]⟩,⟨#[98]⟩].map cs) U U, .l ([x].map amt.c) U U])]=V (.l ([(⟨⟨#[109,97,105,110]⟩,0,[⟨#[97]⟩,⟨#[98]⟩],[x]⟩:bj9)].map bj9.c) U U,s):=λs x=>aQm (tgt:=(⟨⟨#[109,97,105,110]⟩,0,[⟨#[97]⟩,⟨#[98]⟩],[x]⟩:bj9).c) A rfl H A H;have bw:∀t:bj9,bM aOP bqW [(0,sl bmK.c aNF),(1, .l ([t].map bj9.c) U U)]=V (.a [sl bmK.c aNF, .l ([t].map bj9.c) U U]):=λ_=>A;simp only[a50,bQ,qz 54,bu,aC,aY,qz 56,qy 58,bw];refine yv S.r A rfl λs5 F5 b5=>?_;rw[aEa b5 A];refine aOv (v':= .a (⟨aNF,[⟨⟨#[109,97,105,110]⟩,0,[⟨#[97]⟩,⟨#[98]⟩],[amt.mk 1 0 ⟨#[120]⟩ ⟨#[]⟩ [] (aNK.mk 1 1 ⟨#[]⟩ []) [] []]⟩]⟩:bqH).c) (Q:=λr=>∃p:bqH,r= .a p.c/\shP p/\p.brP=aNF) A rfl ⟨_,A,⟨⟨H,H,O⟩,H,?_⟩,A⟩;intro t N;simp only[cE] at N;subst N;exact⟨H,H,FA⟩;refine yv S.r A rfl λs5 F5 b5=>?_;have g5:=S.ga.fx F5 (λq u e=>by grind [MPs.pa]);simp only[b5,a6X,qh,df,aT,aY];refine aOv (v':= .a (⟨aNF,ts⟩:bqH).c) (Q:=λr=>∃p:bqH,r= .a p.c/\shP p/\p.brP=aNF) ?_ (by simp[iX,bqH.c,eN,sl]) ⟨_,A,aR,A⟩;simp only[fzT,ji,mU,aBr g5];rfl
def aTV:FT:=om aWJ
def bbr:=aUy aTV aWJ (j:=bvf)
theorem a64(i):L (bie i)<=3:=by grind [bie]
structure RP(Y:ae)(v1 v7:Nat)(p:bqH)(w:aOw)(ts:List bqI)(a:AV):Prop where
 p:box Y (1,1)=V ⟨217,2,U,U,[p.c]⟩
 c:box Y (7,v7)=V ⟨150,7,U,U,[[sl cA.c w.cells,sl dS.c w.ak,sl yp.c w.bC,sl cs w.bU,sl cs w.ay,sl dL.c w.dU,a]]⟩
 ga:J7 Y 273 2 a (ts.map bqI.c)
 pa:∀q∈aA a,q.1=110
 r:box Y (2,v1)=V ⟨150,7,U,U,[buB]⟩
 ht:∀t∈ts,L t.boU<1000000
 le:L Y=4096
theorem RP.fx{Y Y' v1 e p w ts a Lw}(S:RP Y v1 e p w ts a)(F:Fx Y Y' Lw)(f:∀q∈Lw,q.1≠1/\q.1≠2/\q.1≠7/\q.1≠110):RP Y' v1 e p w ts a:=⟨(by grind [Fx.keep,RP.p]),(by grind [Fx.keep,RP.c]),S.ga.fx F<|λq i g=>(f q g).2.2.2<|S.pa q i,S.pa,(by grind [Fx.keep,RP.r]),S.ht,F.len.trans S.le⟩
def aXe(p)(N:shP p/\p.brP=aNF):Ct 125 [.a p.c] (λr=>∃(c:bit) (e l:Int),r= .t [.a c.c,iv e,iv l]/\aOc c):=by obtain⟨N,hd⟩:=N;refine aDq (bgU A λs2 hl b1 h0=>?_);refine pz hl λv1 s3 F3 N3 q3=>?_;have al:=F3.len.trans hl;have b3:=F3.kq b1;have aQ:bM buB [(0,6),(6,1)] []=V (.a buB):=A;simp only[qz 4,qy 6,qy 8,qy 10,eQ,b3,J9,jM,kU,jt,Fa,aQV,rr,aQ];refine⟨N,trivial,λ_=>?_,λhc=>⟨⟨N,hd⟩,?_⟩⟩;refine yv q3 A rfl λs5 F5 b5=>?_;have:aN (V 7) buB=V (.a buB):=A;simp only[b5,a6X,qh,df,this,aY];exact aOH (vs':=[.a (⟨⟨[],[],[],[],[],[]⟩,[]⟩:bit).c,iv (chk p).1,iv (chk p).2]) (Q:=λr=>∃(c:bit) (e l:Int),r= .t [.a c.c,iv e,iv l]/\aOc c) A rfl ⟨_,_,_,A,by simp[aOc]⟩;rintro r ⟨w,rfl,hw,W⟩;have W:=W X;have aP:bM buB [(0,6),(6,1)] [(0, .a w.c)]=V (.a [sl cA.c w.cells,sl dS.c w.ak,sl yp.c w.bC,sl cs w.bU,sl cs w.ay,sl dL.c w.dU, .l [] U U]):=A;simp only[aP,aY];refine⟨by simp[lo,nA,aNN,iR,bqH.c,sl],?_⟩;refine anu al λv7 s4 F4 N4 q4=>?_;have S4:RP s4 v1 v7 p w [] (.l [] U U):=⟨F4.kq b3,q4, .inl ⟨A,A⟩,aBY,F4.kq q3,O,F4.len.trans al⟩;have a0:=N.2.2;have bL:=N.2.1;refine jD (α:=Int) (λnx i=>[iv nx,iv i]) 1 (L p.ay) (λk nx Y=>0<=nx/\nx<=k*60000/\∃ts a,RP Y v1 v7 p w ts a/\L ts=k) (s0:=0) X ?_;rintro k nx Y hk ⟨bO,bR,ts,a,S,a1⟩;simp only[qz 55,au,eT,S.p,S.c,J9,aRZ,ixv,bh];refine⟨λB=>⟨vp B,?_⟩,λB=>?_⟩;rotate_left;refine yv S.r A rfl λs5 F5 b5=>?_;have g5:=S.ga.fx F5 (λq W e=>by grind [RP.pa]);simp only[qz 32,aEa b5 A,aY];refine aOH (vs':=[.a (⟨w,ts⟩:bit).c,iv 0,iv 0]) (Q:=λr=>∃(c:bit) (e l:Int),r= .t [.a c.c,iv e,iv l]/\aOc c) ?_ (by simp[iX,bit.c,aOw.c,eN,sl]) ⟨_,_,_,A,?_,S.ht⟩;have e1:fz s5 a=sl bqI.c ts:=aBr g5;simp only[ji,mU,fzT,List.take_succ_cons,CE,e1];rfl;grind;have D:=aL B;have ht:=a0 _<|dB D;have aK:bM byv [(0,6),(6,1),(7,1),(8,1),(9,1)] [(0, .a w.c),(1,sl cs (gd p.ay k).locs),(4,iv nx)]=V (.a [sl cA.c w.cells,sl dS.c w.ak,sl yp.c w.bC,sl cs w.bU,sl cs w.ay,sl dL.c w.dU,sl cs (gd p.ay k).locs, .l [] U U,iv 0,iv nx]):=A;simp only[aK,aY];refine bxL A H (by rw[S.le];decide) λv s5 F5 N5 q5=>?_;have S5:=S.fx F5 O;have bF:k<4:=Z;have G5:Gn nx s5 (45,v) w (gd p.ay k).locs (.l [] U U) 0:=⟨FA,⟨[], .inl ⟨A,A⟩,A⟩,S5.le,A,aBY,hw,by have:=ht.1;omega,W⟩;simp only[S5.p,rk,J9,ixv,eQ,bh];refine⟨dJ D,?_⟩;refine ba2 G5 ht.2 Z λa6 n6 s6 G6 bG R6=>?_;have a4:∀q∈((45,v):Id)::aA (AV.l [] U U),q.1≠1/\q.1≠2/\q.1≠7/\q.1≠110:=aBY;have S6:=S5.fx R6.f a4;obtain⟨bY,a3,a2,ah⟩:=G6.bx0;simp only[qz 14,Oy ah,eS,ah,be3,bkl,bc5];refine G6.set λs7 G7 F7=>?_;have S7:=S6.fx F7 O;simp only[qz 16,bdI,aY];refine aPw G7 Z λa8 s8 n8 G8 bH bv R8=>?_;have a5:∀q∈((45,v):Id)::aA a6,q.1≠1/\q.1≠2/\q.1≠7/\q.1≠110:=λq W=>(by grind [Gn.sa]);have S8:=S7.fx R8.f a5;obtain⟨b0,bT,bS,T⟩:=G8.bx0;obtain⟨out,go,bI⟩:=G8.ga;obtain⟨a9,am,rfl,aw⟩:∃q m,a8= .m q (L out)/\box s8 q=V ⟨290,6,U,I,out.map aRV.c++m⟩:=(by rcases go with⟨g,_⟩|⟨q,m,g1,g2⟩;have:out=[]:=(by simpa using g);grind;simp_all);obtain⟨q1,u⟩:=a9;obtain rfl:q1=16:=G8.sa (q1,u) aBY;have aO:∀a:AV,(∃q n,a= .m q n)->bM byu bqW [(0,iv<|L (gd p.ay k).locs),(1,a)]=V (.a [iv<|L (gd p.ay k).locs,a]):=(by rintro a ⟨q,n,rfl⟩;rfl);simp only[qz 18,qy 20,Oy T,eS,T,be3,bkl,bc5,aO _ ⟨_,_,A⟩];refine anu S8.le λM s9 F9 N9 q9=>?_;have S9:=S8.fx F9 O;refine dT (by simp[eL,lb,aNG,dC,dK,sl]) ?_;have aJ:=F9.kq T;have aZ:=F9.kq aw;refine yV (L out) (λ_ _ Y'=>Fx s9 Y' [(11,M)]/\∃rg:Int,box Y' (11,M)=V ⟨273,2,U,U,[[iv rg, .m (16,u)<|L out]]⟩) ⟨Fx.refl _ _,_,q9⟩ ?_;rintro j _ Y1 hj ⟨F,rg,an⟩;have R:=F.kq aJ;have E:=F.kq aZ;have aW:fS Y1 (.m (16,u)<|L out)=V (iv<|L out):=(by simp[fS,E]);have af:=S9.fx F O;have bb:∀x y:AV,aN (V 2) [x,y]=V (.a [x,y]):=λ_ _=>A;simp only[qz 127,qy 26,au,Oy R,eS,R,af.c,an,bb,be3,bkl,bc5,aW];refine⟨λB=>?_,λB=>?_⟩;have hj:=aL B;have aR:cz 6 Y1 (.m (16,u)<|L out) (iv j)=V (.p (16,u) j 0):=(by grind [cz]);have aV:sA (V 6) Y1 (.p (16,u) j 0)=V (.a (gd out j).c):=(by have hr:(out.map aRV.c++am)[j]?=V (aRV.c<|gd out j):=bse;simp only[sA,iE,E,a6X,hr];rfl);simp only[aR,aV,aY,jM,kU,jt,Fa,aQV];rintro r ⟨t',o',rfl⟩;refine⟨by simp[lo,nA,aNN,iR,aRV.c],?_⟩;refine yV (L<|bie<|gd out j) (λ_ _ Y'=>Fx s9 Y' [(11,M)]/\∃rg:Int,box Y' (11,M)=V ⟨273,2,U,U,[[iv rg, .m (16,u)<|L out]]⟩) ⟨F,rg,an⟩ ?_;rintro i _ Y2 hi ⟨ae,bV,aa⟩;simp only[qz 163,au,eT,aa,be3,bc5,gT,tf,bh,aRW];refine⟨λC=>⟨dJ<|aL C,?_⟩,λC=>?_⟩;refine A0 aa A O λY3 z aD=>?_;simp only[qz 24,au,eQ];exact dR (mk:=λ(_:Unit) i=>[iv i]) (s:=()) (s':=()) (λ_ _=>A) (aL C) (by grind [a64]) ⟨(ae.trans z).mono O,_,aD⟩;exact dR (mk:=λ(_:Unit) i=>[iv i]) (s:=()) (s':=()) (λ_ _=>A) hj Z ⟨ae,_,aa⟩;have aG:J7 Y1 290 6 (.m (16,u)<|L out) (out.map aRV.c):= .inr ⟨_,am,O,E⟩;have aM:aX bym 1 Y1 [(0, .a [iv rg, .m (16,u)<|L out])]=V (.l ([(⟨rg,out⟩:bqI)].map bqI.c) U U,kills Y1<|aNN<|.a [iv rg, .m (16,u)<|L out]):=aQm (tgt:=(⟨rg,out⟩:bqI).c) (by simp only[ji,mU,aQ5,aOb aG];rfl) A H A H;have FK:=aOp (aNN<|.a [iv rg, .m (16,u)<|L out]) Y1;have o:=af.fx FK buK;simp only[aM,bQ];have bK:=o.pa;refine apQ o.ga o.le (by grind [bqI.c]) (by grind [bqI.c]) O NA λaC bW P z bE=>?_;rw[<-dg] at P;have ag:=z.keep _ _ X o.c;simp only[qz 28,eS,ag];refine A0 ag P.p.ce O λbX G aF=>?_;simp only[qz 30,au,eQ];refine dR (mk:=λ(nx:Int) i=>[iv nx,iv i]) (s:=nx) (s':=a3) (λ_ _=>A) D Z ⟨a2.1,Z,ts++[⟨rg,out⟩],aC,⟨?_,aF,P.p.fx G X,X,?_,?_,G.len.trans<|z.len.trans o.le⟩,by simp[a1]⟩;exact G.kq<|z.keep _ _ X o.p;exact G.kq<|z.keep _ _ X o.r;grind [RP.ht]
def aUc:FT:=om aXe
def bbW:=aUy aUc aXe (j:=bno)
def a7C:dO:=(126,aTV)::(125,aUc)::aYc
def a7l:eJ a7C:=asq (rj aWJ)<|asq (rj aXe)<|aX5
def aWk:=ai @bbr<|ai @bbW<|@aQV
section
attribute[local irreducible] aX
def bge{a}:=y0 a7l func61 aur [a]
end
def aWI(l)(o:(∀x∈l,0<=x/\x<256)/\L l<4611686018427387904):Ct 61 [sl cu l] (λr=>∃c:bit,r= .a c.c/\aOc c):=by refine aDq (bge λs0 d y=>?_);refine pz d λD z f v q=>?_;simp only[qz 2,qy 4,jM,kU,jt,alg,aWk];refine⟨o,?_⟩;rintro r ⟨p,rfl,k,m⟩;refine⟨by simp[lo,nA,aNN,iR,sl],?_⟩;simp only[Fa,aWk];refine⟨⟨k,m⟩,?_⟩;rintro r ⟨c,e,l',rfl,n⟩;refine⟨by simp[lo,nA,aNN,iR,bqH.c,sl],?_⟩;have e0:eO 0 (.t [.a c.c,iv e,iv l'])=V (.a c.c):=A;have i:eO 1 (.t [.a c.c,iv e,iv l'])=V (iv e):=A;have j:eO 2 (.t [.a c.c,iv e,iv l'])=V (iv l'):=A;simp only[e0,i,j,aY];have:=f.len.trans d;have b:L c.c=7:=A;refine aRA A b H Z λE B g w s=>?_;simp only[qz 6,qy 8,aEa s b,aY];refine yv (g.kq q) A b λC u h=>?_;rw[aEa h b];exact aOv (v':= .a c.c) (Q:=λr=>∃c:bit,r= .a c.c/\aOc c) A (by simp[iX,bit.c,aOw.c,eN,sl]) ⟨c,A,n⟩
def aTU:FT:=om aWI
def bbq:=aUy aTU aWI (j:=bvf)
def a7D:dO:=(61,aTU)::a7C
def aR2:eJ a7D:=asq (rj aWI)<|a7l
def bcw:=ai @bbq<|@aWk
section
attribute[local irreducible] aX
def atZ:=I9 24 [(4,([4],[1,2,3])),(10,([5],[1,2,3])),(16,([6],[1,2,3])),(21,([],[1,2,3,6,7]))]
def aLs{c0}:=yB1 34 6 1 aR2 func47 atZ c0 [.a c0]
def aLy{c0}:=yB1 34 6 1 aR2 func15 atW c0 [.a c0]
def au4:=I9 15 [(4,([22],[0,1,21])),(10,([3],[0,1,2,21,22]))]
def aMx:=y0 aR2 func14 au4 []
def bhc{c0}:=yB1 277 4 1 aR2 func291 atW c0 [.a c0]
end
def mG{B}{b:(aG)->Prop}(Q:aG)(c:∀a,(∀vs Y',Q vs Y'->a vs Y')->b a)(d:∀vs Y',Q vs Y'->B vs Y'):b B:=c B d
theorem a7a{α:Type}{f:Nat->List α}{k}:(aH<|k+1).flatMap f=(aH k).flatMap f++f k:=by rw[qn,List.flatMap_append];simp
def eU{α:Type}{f:Nat->List α}{c:Nat}(h:∀k,L (f k)<=c):∀n,L ((aH n).flatMap f)<=n*c
 |0=>O
 |n+1=>by
  have:=eU h n
  grind [a7a]
def Dv{Y b T e}{z ze j d by':Nat}{cs zs a bA new t o K}(w:box Y b=V ⟨T,z,U,U,[cs]⟩)(R:j<L cs)(u:gi Y e ze a bA)(i:b∉aA a)(M:L zs=ze)(k:0<ze)(C:d<L Y)(G:∀r∈bA,L r=ze)(E:∀r∈new,L r=ze)(h:(L bA+L new)*(by'+1)<=1099511627776)(B:b.1≠d)(v:∀c Y',box Y' b=V ⟨T,z,U,U,[cs.set j c]⟩->gi Y' e ze c (bA++new)->Fx Y Y' (b::aA a)->(∀q∈aA c,(q∈aA a\/bK Y q)/\(q∈aA a\/q.1=d))->K Y'):eV (apA e zs by' Y d a<|.l new t o) λx s=>rV (iQ j s<|.p b 0 0) λy=>sV (aK 1 s y x) K:=gD u M k C G E h λc Y' g F P S=>by have f:=F.keep _ _ i w;have D:iQ j Y' (.p b 0 0)=V (.p b 0 j):=(by simp[iQ,f]);simp only[D,aY];refine stI (y:=1) (cs:=[c]) f (ms g) A Z λn m N=>?_;have:b∉aA c:=X;refine v c n ?_ (by grind [gi.fx]) ((F.trans m).mono λq W=>?_) FA;grind [GP];grind
def qZ(n:Nat):List aoC:=(aH n).map λi=>⟨if i=0 then 1 else 0,0,I⟩
def aog{α:Type}{n x}{β:Type}{f:α->β}:(er (n+1) x).map f=(er n x).map f++[f x]:=by rw[List.replicate_succ',dg];rfl
section
variable{Y:ae}
theorem aDP{x0 x2 x5 ls fs ts t1 o1 t3 o3 t4 o4}(hl:L Y=4096)(h1:L ls<=100)(h3:L fs<=100)(h4:L ts<=100):∃r m,(∃a1 a2 a3,r= .a [a1,iv<|-1,a2,a3]/\gi m 191 2 a1 ((er (L ls) (⟨-1,[]⟩:cg)).map cg.c)/\gi m 4 1 a2 ((er (L fs) I).map cb)/\gi m 69 3 a3 ((qZ<|L ts).map aoC.c)/\Fx Y m []/\(∀q∈aA a1,bK Y q/\q.1=20)/\(∀q∈aA a2,bK Y q/\q.1=32)/\(∀q∈aA a3,bK Y q/\q.1=49))/\cZ aS GG 47 [.a [x0, .l ls t1 o1,x2, .l fs t3 o3, .l ts t4 o4,x5]] Y r m:=by refine aLs hl A λs2 v1 K2 bx nf b1=>?_;have C:=K2.fx [];have K:=C.len.trans hl;refine pz K λv2 s3 F3 N3 b2=>?_;have aR:=F3.len.trans K;have aJ:bM btW bst [(1,iv<|-1)]=V (.a [.l [] U U,iv<|-1, .l [] U U, .l [] U U]):=A;simp only[qz 4,qy 6,qy 8,aJ,aY];refine pz aR λp s4 F4 N4 b6=>?_;refine stI (y:=4) (cs:=[.l [] U U,iv<|-1, .l [] U U, .l [] U U]) b6 A rfl H λw F5 b6=>?_;have aC:box w (3,p)=V ⟨39,4,U,U,[[.l [] U U,iv<|-1, .l [] U U, .l [] U U]]⟩:=b6;have t:Fx s2 w []:=((F3.trans F4).trans F5).mono bvj;have aT:=t.len.trans K;have c1:=t.kq b1;have c2:=F5.kq<|F4.kq b2;have N6:=(N4.old F3).old C;have aZ:∀{Y':ae} {ks:List Id},Fx w Y' ks->((1,v1):Id)∉ks->box Y' (1,v1)=V ⟨34,6,U,U,[[x0, .l ls t1 o1,x2, .l fs t3 o3, .l ts t4 o4,x5]]⟩:=λF h=>F.keep _ _ h c1;have S:∀{x:dM} {y:AV},aN J (y::x)=V y:=λ{x y}=>(by cases y<;>rfl);have v:∀{l:List cg},∀r∈l.map cg.c,L r=2:=qW (by intro _;rfl);have u:∀{l:List Bool},∀r∈l.map cb,L r=1:=X;have alx:∀{l:List aoC},∀r∈l.map aoC.c,L r=3:=qW (by intro _;rfl);refine yV (L ls) (λk _ Y'=>∃a1,box Y' (3,p)=V ⟨39,4,U,U,[[a1,iv<|-1, .l [] U U, .l [] U U]]⟩/\gi Y' 191 2 a1 ((er k (⟨-1,[]⟩:cg)).map cg.c)/\Fx w Y' [(3,p)]/\∀q∈aA a1,bK w q/\q.1=20) ⟨_,aC,gi.nil,Fx.refl _ _,aBY⟩ ?_;rintro k _ m R ⟨a1,m1,g1,B,P1⟩;have d1:=aZ B O;have aQ:=B.len.trans aT;have aK:bM bu0 bqW [(0,iv<|-1)]=V (.a [iv<|-1, .l [] U U]):=A;have aM:∀{Y:ae},aX bwL 1 Y [(0, .a [iv<|-1, .l [] U U])]=V (.l ([(⟨-1,[]⟩:cg)].map cg.c) U U,Y):=λ{Y}=>(by simp[aX,aly,eY,nrm,gK,eR,aTH,aNN,iR,kills,bsm,eN,er];rfl);simp only[qz 25,qy 10,au,eS,d1,S,nM,ip,fS,m1,aK,aM];refine⟨λh=>?_,λh=>?_⟩;have o:=aL h;refine Dv m1 O g1 X A H Z v v X O λG Y2 M N g P2=>?_;simp only[qz 14,au,eQ];refine yU o ⟨G,M,by rw[aog];exact N,(B.trans g).mono λq e=>?_,λq e=>⟨?_,?_⟩⟩;grind [bK.no];grind [bK.old];grind;have n:k=L ls:=X;subst n;clear R h;refine yV (L fs) (λk _ Y'=>∃a2,box Y' (3,p)=V ⟨39,4,U,U,[[a1,iv<|-1,a2, .l [] U U]]⟩/\gi Y' 4 1 a2 ((er k I).map cb)/\Fx m Y' [(3,p)]/\∀q∈aA a2,bK m q/\q.1=32) ⟨_,m1,gi.nil,Fx.refl _ _,aBY⟩ ?_;rintro k _ Y2 R ⟨a2,M,N,g,P2⟩;have d2:=g.kq d1;have ao:=g.len.trans aQ;have am:∀{Y:ae},aX BD 1 Y [(0,bv I)]=V (.l ([I].map cb) U U,Y):=λ{Y}=>iz;simp only[qz 61,qy 16,au,eS,d2,S,nM,ip,fS,M,am];refine⟨λh=>?_,λh=>?_⟩;have o:=aL h;refine Dv M O N X A H Z u u X O λG Y3 T P f P3=>?_;simp only[qz 20,au,eQ];refine yU o ⟨G,T,by rw[aog];exact P,(g.trans f).mono λq e=>?_,λq e=>⟨?_,?_⟩⟩;grind [bK.no];grind [bK.old];grind;have n:k=L fs:=X;subst n;clear R h;refine yV (L ts) (λk _ Y'=>∃a3,box Y' (3,p)=V ⟨39,4,U,U,[[a1,iv<|-1,a2,a3]]⟩/\gi Y' 69 3 a3 ((qZ k).map aoC.c)/\Fx Y2 Y' [(3,p)]/\∀q∈aA a3,bK Y2 q/\q.1=49) ⟨_,M,gi.nil,Fx.refl _ _,aBY⟩ ?_;rintro k _ Y3 R ⟨a3,T,P,f,P3⟩;have d3:=f.kq d2;have ap:=f.len.trans ao;have aO:bM bv0 aM7 [(0,iv 0)]=V (.a<|aoC.c ⟨0,0,I⟩):=A;have an:∀{Y:ae} {x:aoC},aX bwO 1 Y [(0, .a<|aoC.c x)]=V (.l ([x].map aoC.c) U U,Y):=λ{Y x}=>ua A rfl rfl H A H;have aW:∀{x:aoC},aN (V 3) (aoC.c x)=V (.a<|aoC.c x):=λ{x}=>A;have ab:∀{x y x2 x3:AV},aN (V 4) [x,y,x2,x3]=V (.a [x,y,x2,x3]):=A;have bw:qZ (k+1)=qZ k++[⟨if k=0 then 1 else 0,0,I⟩]:=(by simp[qZ,qn]);have bu:L (qZ k)=k:=(by simp[qZ]);simp only[qz 97,qy 22,qy 34,au,eS,d3,S,nM,ip,fS,aO];refine⟨λh=>?_,λh=>?_⟩;have o:=aL h;refine pz ap λv7 Y4 aw N7 b7=>?_;refine stI (y:=3) (cs:=aoC.c ⟨0,0,I⟩) b7 A rfl H λE i b7=>?_;have aa:box E (7,v7)=V ⟨69,3,U,U,[aoC.c ⟨0,0,I⟩]⟩:=b7;have W:Fx Y3 E []:=(aw.trans i).mono aUw;simp only[qz 24,di];refine mG (λvs Y'=>vs=[]/\box Y' (7,v7)=V ⟨69,3,U,U,[aoC.c ⟨if k=0 then 1 else 0,0,I⟩]⟩/\Fx Y3 Y' []) (λb hJ=>?_) ?_;simp only[qz 131,qy 26,au,eS,aa];refine⟨λhi=>?_,λhi=>hJ [] E ⟨A,?_,W⟩⟩;refine stI (y:=1) (cs:=[iv 1]) aa A rfl H λY6 F6 b8=>hJ [] Y6 ⟨A,?_,(W.trans F6).mono<|by simp only[dW,cE];grind [bK.no]⟩;have h0:k=0:=X;rw[hY h0];exact b8;have h0:¬k=0:=X;grind;rintro vs Y6 ⟨rfl,b8,D⟩;have m6:=D.kq T;have g6:=P.fx D O;simp only[qz 129,qy 28,eS,m6,b8,S,aW,nM,ip,an];refine Dv m6 O g6 X A H bvb alx alx (by grind [bhZ]) O λG Y7 m7 g7 F7 P7=>?_;simp only[qz 32,au,eQ];refine yU o ⟨G,m7,X,((f.trans D).trans F7).mono λq e=>?_,λq e=>⟨?_,?_⟩⟩;simp only[dF,eW,ql,bj5] at e⊢;grind [bK.no];grind [bK.old];grind;have n:k=L ts:=X;subst n;have aD:=f.kq<|g.kq<|B.kq c2;simp only[T,eQ,ab];refine stI (y:=4) (cs:=[a1,iv<|-1,a2,a3]) aD A rfl H λE i b5=>?_;have aB:box E (2,v2)=V ⟨39,4,U,U,[[a1,iv<|-1,a2,a3]]⟩:=b5;simp only[aB,eQ,ab,aRf,aoz];have j:∀{a:AV} {d:Nat},(∀q∈aA a,q.1=d)->d≠2->d≠3->∀q∈aA a,q∉[((2,v2):Id)]/\q∉[((3,p):Id)]:=λh h1 h2 q e=>⟨X,X⟩;have n1:=j (λq e=>(P1 q e).2) H H;have n2:=j (λq e=>(P2 q e).2) H H;have n3:=j (λq e=>(P3 q e).2) H H;have ar:∀{q:Id},bK w q->bK Y q:=λh=>(h.old t).old C;refine⟨a1,a2,a3,A,((g1.fx g λq e=>(n1 q e).2).fx f λq e=>(n1 q e).2).fx i λq e=>(n1 q e).1,(N.fx f λq e=>(n2 q e).2).fx i λq e=>(n2 q e).1,P.fx i λq e=>(n3 q e).1,(((((C.trans t).trans B).trans g).trans f).trans i).mono λq e=>?_,X,brE,λq e=>⟨ar brE,(P3 q e).2⟩⟩;simp only[dW,dF,cE,or_self] at e;rcases e with rfl|rfl;exact .inr N6.no;exact .inr (N3.old C).no
end
def buw(n:Nat):List dL:=(aH n).flatMap λ(t:Nat)=>(aH 6).map λ(k:Nat)=>⟨(t:Int),(k:Int),10*(t:Int)+k+1⟩
def aNE:aOw:=⟨[⟨⟨#[120]⟩,0,0,I,0⟩,⟨⟨#[121]⟩,0,0,I,1⟩,⟨⟨#[118]⟩,0,0,U,0⟩,⟨⟨#[113]⟩,0,2,I,0⟩,⟨⟨#[113]⟩,1,2,I,0⟩],[⟨⟨#[109]⟩,I⟩,⟨⟨#[110]⟩,I⟩,⟨⟨#[114]⟩,U⟩],[⟨⟨#[99]⟩,0⟩],[⟨#[102]⟩],[⟨#[109,97,105,110]⟩,⟨#[116,49]⟩,⟨#[116,50]⟩,⟨#[116,51]⟩],buw 4⟩
def gu(t o:Bool):dM:=[.l (aNE.cells.map cA.c) U U, .l (aNE.ak.map dS.c) U U, .l (aNE.bC.map yp.c) U U, .l (aNE.bU.map cs) U U, .l (aNE.ay.map cs) U U, .l (aNE.dU.map dL.c) t o]
def bdB:Ct 14 [] λr=>∃t o,r= .a (gu t o):=by
 refine aMx λs0 hl h0=>?_
 refine pz hl λv0 s1 F1 N1 b1=>?_
 have w:=F1.len.trans hl
 have hc:∀{Y:ae},aX bwH 5 Y [(0, .a<|cA.c ⟨⟨#[120]⟩,0,0,I,0⟩),(1, .a<|cA.c ⟨⟨#[121]⟩,0,0,I,1⟩),(2, .a<|cA.c ⟨⟨#[118]⟩,0,0,U,0⟩),(3, .a<|cA.c ⟨⟨#[113]⟩,0,2,I,0⟩),(4, .a<|cA.c ⟨⟨#[113]⟩,1,2,I,0⟩)]=V (.l (aNE.cells.map cA.c) U U,Y):=λ{Y}=>A
 have R:bM buA aOG [(0,sv [120])]=V (.a<|cA.c ⟨⟨#[120]⟩,0,0,I,0⟩):=A
 have S:bM buA aOG [(0,sv [121]),(4,iv 1)]=V (.a<|cA.c ⟨⟨#[121]⟩,0,0,I,1⟩):=A
 have T:bM buA aOG [(0,sv [118]),(3,bv U)]=V (.a<|cA.c ⟨⟨#[118]⟩,0,0,U,0⟩):=A
 have W:bM buA aOG [(0,sv [113]),(2,iv 2)]=V (.a<|cA.c ⟨⟨#[113]⟩,0,2,I,0⟩):=A
 have aa:bM buA aOG [(0,sv [113]),(1,iv 1),(2,iv 2)]=V (.a<|cA.c ⟨⟨#[113]⟩,1,2,I,0⟩):=A
 simp only[qz 2,R,S,T,W,aa,aY,hc,bQ]
 have ag:bM aqd bqW [(0,sv [109])]=V (.a<|dS.c ⟨⟨#[109]⟩,I⟩):=A
 have ah:bM aqd bqW [(0,sv [110])]=V (.a<|dS.c ⟨⟨#[110]⟩,I⟩):=A
 have al:bM aqd bqW [(0,sv [114]),(1,bv U)]=V (.a<|dS.c ⟨⟨#[114]⟩,U⟩):=A
 have hk:∀{Y:ae},aX bwI 3 Y [(0, .a<|dS.c ⟨⟨#[109]⟩,I⟩),(1, .a<|dS.c ⟨⟨#[110]⟩,I⟩),(2, .a<|dS.c ⟨⟨#[114]⟩,U⟩)]=V (.l (aNE.ak.map dS.c) U U,Y):=λ{Y}=>A
 simp only[qz 4,ag,ah,al,aY,hk,bQ]
 have aq:bM aqe bqW [(0,sv [99])]=V (.a<|yp.c ⟨⟨#[99]⟩,0⟩):=A
 have n:∀{Y:ae},aX bwJ 1 Y [(0, .a<|yp.c ⟨⟨#[99]⟩,0⟩)]=V (.l (aNE.bC.map yp.c) U U,Y):=λ{Y}=>A
 have hf:∀{Y:ae},aX zd9 1 Y [(0,sv [102])]=V (.l (aNE.bU.map cs) U U,Y):=λ{Y}=>A
 have ht:∀{Y:ae},aX zd9 4 Y [(0,sv [109,97,105,110]),(1,sv [116,49]),(2,sv [116,50]),(3,sv [116,51])]=V (.l (aNE.ay.map cs) U U,Y):=λ{Y}=>A
 simp only[qz 6,aq,aY,n,bQ,qz 8,hf,qz 10,ht]
 have hw:bM byx anY [(0, .l (aNE.cells.map cA.c) U U),(1, .l (aNE.ak.map dS.c) U U),(2, .l (aNE.bC.map yp.c) U U),(3, .l (aNE.bU.map cs) U U),(4, .l (aNE.ay.map cs) U U)]=V (.a [.l (aNE.cells.map cA.c) U U, .l (aNE.ak.map dS.c) U U, .l (aNE.bC.map yp.c) U U, .l (aNE.bU.map cs) U U, .l (aNE.ay.map cs) U U, .l [] U U]):=A
 simp only[qz 12,qy 14,hw,aY]
 have bk:L aNE.ay=4:=A
 have bi:∀a,a=aNE.dU->buw 4=a:=λa h=>h.symm
 generalize hA:AV.l (aNE.cells.map cA.c) U U=b
 generalize hB:AV.l (aNE.ak.map dS.c) U U=B
 generalize hC:AV.l (aNE.bC.map yp.c) U U=C
 generalize hD:AV.l (aNE.bU.map cs) U U=D
 refine pz w λm s2 F2 N2 b2=>?_
 refine stI (y:=6) (cs:=[b,B,C,D, .l (aNE.ay.map cs) U U, .l [] U U]) b2 A rfl H λe F3 b3=>?_
 have v:box e (1,m)=V ⟨34,6,U,U,[[b,B,C,D, .l (aNE.ay.map cs) U U, .l [] U U]]⟩:=b3
 have p:Fx s1 e []:=(F2.trans F3).mono aUw
 have c1:=p.kq b1
 have an:=p.len.trans w
 have k1:∀{x:dM} {y:AV},aN J (y::x)=V y:=λ{x y}=>by cases y<;>rfl
 have E:∀{x y x2 x3 x4 x5:AV},aN (V 6) [x,y,x2,x3,x4,x5]=V (.a [x,y,x2,x3,x4,x5]):=A
 have ao:∀{Y:ae},fS Y (.l (aNE.ay.map cs) U U)=V (iv (4:Nat)):=λ{Y}=>A
 simp only[qz 16,eS,v,k1,nM,ip,ao]
 have alx:∀{l:List dL},∀r∈l.map dL.c,L r=3:=qW (λ_=>by rfl)
 have bj:∀k,buw (k+1)=buw k++(aH 6).map λ(j:Nat)=>⟨(k:Int),(j:Int),10*(k:Int)+j+1⟩:=λk=>a7a
 have ar:∀k,L (buw k)<=k*6:=λk=>eU (f:=λ(t:Nat)=>(aH 6).map λ(k:Nat)=>(⟨(t:Int),(k:Int),10*(t:Int)+k+1⟩:dL)) (c:=6) (λt=>O) k
 refine yV 4 (λk _ Y'=>∃a,box Y' (1,m)=V ⟨34,6,U,U,[[b,B,C,D, .l (aNE.ay.map cs) U U,a]]⟩/\gi Y' 125 3 a ((buw k).map dL.c)/\Fx e Y' [(1,m)]/\∀q∈aA a,bK e q/\q.1=40) ⟨_,v,gi.nil,Fx.refl _ _,aBY⟩ ?_
 rintro k _ Y1 hk ⟨a1,m1,g1,g,P1⟩
 have a7:=g.len.trans an
 have a9:=ar k
 simp only[qz 25,qy 24,au,eQ]
 refine⟨λh=>?_,λh=>?_⟩
 ·have ap:=aL h
  refine yV 6 (λj _ Y'=>∃a,box Y' (1,m)=V ⟨34,6,U,U,[[b,B,C,D, .l (aNE.ay.map cs) U U,a]]⟩/\gi Y' 125 3 a ((buw k++(aH j).map λ(j:Nat)=>(⟨(k:Int),(j:Int),10*(k:Int)+j+1⟩:dL)).map dL.c)/\Fx e Y' [(1,m)]/\∀q∈aA a,bK e q/\q.1=40) ⟨a1,m1,X,g,P1⟩ ?_
  rintro j _ Y2 hj ⟨a2,F,g2,u,P2⟩
  have ac:∀{Y:ae} {x:dL},aX bwK 1 Y [(0, .a<|dL.c x)]=V (.l ([x].map dL.c) U U,Y):=λ{Y x}=>ua A rfl rfl H A H
  have ab:∀{x y z:Int},bM biY aM7 [(0,iv x),(1,iv y),(2,iv z)]=V (.a<|dL.c ⟨x,y,z⟩):=λ{x y z}=>A
  simp only[qz 61,qy 18,au,eS,F,k1,nM,ip,ab,ac]
  refine⟨λP=>?_,λP=>?_⟩
  ·have i:j<6:=X
   rw[show dq.wrap (dq.wrap (dq.wrap (10*(k:Int))+j)+1)=10*(k:Int)+j+1 by
    rw[eM (x:=10*(k:Int)) Z Z,eM (x:=10*(k:Int)+j) Z Z,eM Z Z]]
   refine Dv F O g2 X A H bvb alx alx (by simp only[bJ,a6G,List.length_range,bZ,bhZ];omega) O λa' Y3 m3 N G P3=>?_
   simp only[qz 22,au,eQ]
   refine yU i ⟨a',m3,by simp only[qn,dg,<-bje] at N⊢;exact N,(u.trans G).mono λq n=>?_,λq n=>⟨?_,?_⟩⟩
   ·simp only[dF,eW,ql,bj5] at n⊢
    grind [bK.no]
   ·grind [bK.old]
   grind
  ·have bg:=bsz P
   have i:j=6:=Z
   subst i
   refine yU ap ⟨a2,F,X,u,P2⟩
 ·have af:k=4:=X
  subst af
  have M:=g.kq c1
  simp only[m1,E,eQ]
  refine stI (y:=6) (cs:=[b,B,C,D, .l (aNE.ay.map cs) U U,a1]) M A rfl H λd F5 b5=>?_
  have K:box d (0,v0)=V ⟨34,6,U,U,[[b,B,C,D, .l (aNE.ay.map cs) U U,a1]]⟩:=b5
  simp only[K,E,eQ]
  obtain⟨t,o,q1⟩:=(g1.fx F5 X).frD
  have hr:jS d [.a [b,B,C,D, .l (aNE.ay.map cs) U U,a1]]= .a (gu t o):=by
   show AV.a [dQ d b,dQ d B,dQ d C,dQ d D,dQ d<|.l (aNE.ay.map cs) U U,dQ d a1]=_
   rw[q1,<-hA,<-hB,<-hC,<-hD];rfl
  unfold aE
  rw[hr]
  exact⟨A,t,o,A⟩
def PM:Ct 14 [] (·= .a aNE.c):=aDq<|by obtain⟨r,b,d⟩:=bdB;refine⟨r,?_,d⟩;obtain⟨t,o,rfl⟩:=b;rfl
def Gf:FT:=BJ PM
def azy:=al2 Gf PM
def aTk{c cs}:wn (c::cs)=aA c++wn cs:=by cases c<;>rfl
def aYg{c Y}{d:Nat}{cs a e}{z:Nat}{bA}(g:gi c e z a bA)(n:bA.all (λr=>r.all DU)=U)(i:d<L Y):∃h f,gU c d Y (a::cs)=(gU c d f cs).map (λp=>(h::p.1,p.2))/\gi f e z h bA/\Fx Y f []/\∀q∈aA h,bK Y q/\q.1=d:=by rcases g with⟨rfl,rfl⟩|⟨b,rfl,k⟩;exact⟨.l [] U U,Y,A, .inl ⟨A,A⟩,Fx.refl _ _,aBY⟩;refine⟨.m (lA Y d)<|L bA,put Y d ⟨e,z,U,I,bA⟩,?_, .inr ⟨_,A,iy i⟩,kH i,λq j=>?_⟩;grind [vY,gU];simp only[aA,cE] at j;subst j;exact⟨qQ Y d,A⟩
def a57{Y}{d:Nat}{K}{w:aOw}(b:d<L Y)(h1:L w.ak<=100)(h3:L w.bU<=100)(h4:L w.ay<=100)(M:∀a1 a2 a3 Y',gi Y' 191 2 a1 ((er (L w.ak) (⟨-1,[]⟩:cg)).map cg.c)->gi Y' 4 1 a2 ((er (L w.bU) I).map cb)->gi Y' 69 3 a3 ((qZ<|L w.ay).map aoC.c)->Fx Y Y' []->(∀q∈aA a1++(aA a2++aA a3),bK Y q/\q.1=d)->K (.a [a1,iv<|-1,a2,a3]) Y'):cN 47 [.a w.c] Y d K:=by obtain⟨r,l,⟨a1,a2,a3,rfl,g1,u,v,F,P1,P2,P3⟩,G⟩:=aDP (Y:=eK) (x0:=sl cA.c w.cells) (x2:=sl yp.c w.bC) (x5:=sl dL.c w.dU) (ls:=w.ak.map dS.c) (fs:=w.bU.map cs) (ts:=w.ay.map cs) (t1:=I) (o1:=I) (t3:=I) (o3:=I) (t4:=I) (o4:=I) (List.length_replicate ..) X X X;simp only[bJ] at g1 u v;obtain⟨n,m,C,P,i,T⟩:=aYg (Y:=Y) (d:=d) (cs:=[iv (-1),a2,a3]) g1 (by simp[cg.c,DU,sl]) b;obtain⟨o,W,D,R,j,n2⟩:=aYg (Y:=m) (d:=d) (cs:=[a3]) u (by simp[DU,cb]) (by rw[i.len];exact b);obtain⟨t,B,E,S,k,n3⟩:=aYg (Y:=W) (d:=d) (cs:=[]) v (by simp[dV,DU,aoC.c]) (by rw[j.len,i.len];exact b);have f:[AV.a w.c].map (dG Y)=[.a w.c]:=A;refine .inr (.inr ⟨by rw[f];simp[iX,aOw.c,eN,sl],by simp[vg,b],[a1,iv<|-1,a2,a3],l,[n,iv<|-1,o,t],B,by rw[f];exact G,?_,?_,?_⟩);have m1:∀{a:AV},(aA a).Nodup:=λ{a}=>(by cases a<;>simp[aA]);have e0:wn [a1,iv<|-1,a2,a3]=aA a1++(aA a2++aA a3):=(by rw[aTk,aTk,aTk,aTk];show aA a1++([]++(aA a2++(aA a3++[])))=_;simp);rw[e0,xl,xl];refine⟨m1,⟨m1,m1,λx f y g e=>?_⟩,λx f y g e=>?_⟩;grind;subst e;rcases dF.1 g with g|g;grind;grind;rw[C];have:gU l d m [iv (-1),a2,a3]=(gU l d m [a2,a3]).map λp=>(iv (-1)::p.1,p.2):=A;rw[this,D,E];rfl;refine M n o t B ((P.fx j O).fx k O) (R.fx k O) S ((i.trans j).trans k) λq N=>?_;rcases dF.1 N with h|h;exact T q h;rcases dF.1 h with h|h;grind [bK.old];grind [bK.old]
def aH6(w:aOw):aTo:=⟨⟨er (L w.ak) ⟨-1,[]⟩,-1,er (L w.bU) I,qZ<|L w.ay⟩,w.cells.map (·.init),er (L w.bU) 0,er (L w.ay) 0⟩
def aWw{Y e z a bA d}(g:gi Y e z a bA)(h:∀q∈aA a,q.1=d):dK a=[]\/dK a=[d]:=by rcases g with⟨_,rfl⟩|⟨b,rfl,_⟩;exact .inl A;grind [aA,dK]
theorem k1m{b n}:dK (.m b n)=[b.1]:=rfl
def k1p{b i j}:dK (.p b i j)=[b.1]:=rfl
def k1s{v}:dK (.s v)=[]:=rfl
theorem k1l{r t o}:dK (.l r t o)=[]:=rfl
structure SnL(Y0 Y:ae)(s:aTo)(a1 a2 a3 a4 a5 a6:AV):Prop where
 g1:J7 Y 191 2 a1 (s.cw.ak.map cg.c)
 g2:J7 Y 4 1 a2 (s.cw.done.map cb)
 g3:J7 Y 69 3 a3 (s.cw.ay.map aoC.c)
 g4:J7 Y 2 1 a4 (s.cells.map ci)
 g5:J7 Y 2 1 a5 (s.bU.map ci)
 g6:J7 Y 3 1 a6 (s.count.map ci)
 p1:∀q∈aA a1,bK Y0 q/\q.1=6
 p2:∀q∈aA a2,bK Y0 q/\q.1=6
 p3:∀q∈aA a3,bK Y0 q/\q.1=6
 p4:∀q∈aA a4,bK Y0 q/\q.1=32
 p5:∀q∈aA a5,bK Y0 q/\q.1=10
 p6:∀q∈aA a6,bK Y0 q/\q.1=14
section
variable{Y0 Y:ae}{s:aTo}{a1 a2 a3 a4 a5 a6:AV}
theorem SnL.ids(h:SnL Y0 Y s a1 a2 a3 a4 a5 a6){x}:∀q∈aNN (.a [a1,iv x,a2,a3,a4,a5,a6]),bK Y0 q/\(q.1=6\/q.1=10\/q.1=14\/q.1=32):=λq b=>by have c:∀{a:AV},iR a=aA a:=λ{a}=>(by cases a<;>rfl);simp only[aNN,Cz,RN,c,cL,dF] at b;rcases b with g|g|g|g|g|g|g;grind [SnL.p1];simp[aA] at g;grind [SnL.p2];grind [SnL.p3];grind [SnL.p4];grind [SnL.p5];grind [SnL.p6]
theorem SnL.lz(h:SnL Y0 Y s a1 a2 a3 a4 a5 a6):[a1,iv s.cw.tx,a2,a3,a4,a5,a6].map (lz Y)=s.c:=by simp only[ji,mU,aOb h.g1,aOb h.g2,aOb h.g3,aOb h.g4,aOb h.g5,aOb h.g6,aQ5];rfl
end
def aXI{Y w}(hl:L Y=4096)(h0:L w.cells<=1000)(h1:L w.ak<=100)(h3:L w.bU<=100)(h4:L w.ay<=100):∃r K,(∃a1 a2 a3 a4 a5 a6,r= .a [a1,iv<|-1,a2,a3,a4,a5,a6]/\SnL Y K (aH6 w) a1 a2 a3 a4 a5 a6/\Fx Y K [])/\cZ aS GG 15 [.a w.c] Y r K:=aLy hl A λs2 v1 K2 bv nf b1=>by have E:=K2.fx [];have W:=E.len.trans hl;refine pz W λv2 s3 F N3 b2=>?_;have c1:=F.kq b1;have aJ:=F.len.trans W;have r6:aN (V 6) w.c=V (.a w.c):=A;have aT:aN J (w.c.drop 3)=V (sl cs w.bU):=A;have aU:aN J (w.c.drop 4)=V (sl cs w.ay):=A;have af:aN J w.c=V (sl cA.c w.cells):=A;simp only[qz 4,eQ,c1,r6];refine a57 Z h1 h3 h4 λa1 a2 a3 s5 g1 g2 g3 n P=>?_;have P1:∀q∈aA a1,q.1=6:=λq b=>(P q<|by simp[b]).2;have P2:∀q∈aA a2,q.1=6:=λq b=>(P q<|by simp[b]).2;have P3:∀q∈aA a3,q.1=6:=λq b=>(P q<|by simp[b]).2;have C:=n.kq c1;have av:=n.kq b2;have aK:=n.len.trans aJ;simp only[qz 6,eS,C,aT];refine AP H H Z Z λy s6 p5 N6 G d5=>?_;have aM:=G.len.trans aK;have aq:=G.kq C;simp only[qz 8,eS,aq,aU];refine AP H H Z Z λB s7 p6 N7 F7 d6=>?_;have aa:=F7.len.trans aM;have T:=G.trans F7;have aC:bM aqh aon [(0, .a [a1,iv<|-1,a2,a3]),(2, .m y<|L w.bU),(3, .m B<|L w.ay)]=V (.a [a1,iv<|-1,a2,a3, .l [] U U, .m y<|L w.bU, .m B<|L w.ay]):=A;simp only[qz 10,qy 12,aC,aY];refine anu aa λS D o N8 d9=>?_;have f:=T.trans o;have aO:=o.len.trans aa;have ar:=f.kq C;have aw:=f.kq av;have q1:=g1.fx f O;have q2:=g2.fx f O;have q3:=g3.fx f O;have q5:=o.kq<|F7.kq d5;have q6:=o.kq d6;obtain⟨bt,i⟩:=y;obtain⟨bu,j⟩:=B;simp only at p5 p6;subst p5;subst p6;simp only[qz 14];refine dT ?_ ?_;rcases aWw g1 P1 with N|N<;>rcases aWw g2 P2 with R|R<;>rcases aWw g3 P3 with e3|e3<;>simp[eL,lb,aNG,dC,k1m,k1p,k1s,k1l,aOw.c,sl,N,R,e3];refine yV (L w.cells) (λk _ Y'=>∃a,box Y' (3,S)=V ⟨42,7,U,U,[[a1,iv<|-1,a2,a3,a, .m (10,i)<|L w.bU, .m (14,j)<|L w.ay]]⟩/\gi Y' 2 1 a (((w.cells.take k).map (·.init)).map ci)/\Fx D Y' [(3,S)]/\∀q∈aA a,bK D q/\q.1=32) (by grind [gi,Fx.refl,aA]) ?_;rintro k _ K hk ⟨a4,m1,g4,v,P4⟩;have N:=v.kq ar;have aG:=v.len.trans aO;have aD:∀{Y:ae} {x:Int},aX yW 1 Y [(0,iv x)]=V (.l ([x].map ci) U U,Y):=λ{Y x}=>iz;simp only[qz 25,qy 16,qy 22,au,eT,N,af,m1,be3,bkl,bc5,ix,bh,aD];refine⟨λh=>?_,λh=>?_⟩;have t:=aL h;refine⟨dJ t,?_⟩;refine apQ g4.p aG fF fF O NA λa' M g5 g N5=>?_;have m5:=g.keep _ _ (λb=>by have:=(P4 _ b).2;simp at this) m1;simp only[qz 18,eS,m5];refine A0 m5 g5.p.ce O λY6 ag B=>?_;have P5:∀q∈aA a',bK D q/\q.1=32:=brE;simp only[qz 20];refine dT (by simp[eL,lb,aNG,dC,dK]) ?_;simp only[au,eQ];refine yU t ⟨a',B,?_,((v.trans g).trans ag).mono λq b=>?_,P5⟩;rw[iJ t,<-aNV t,dg,dg];grind [gi.fx];grind [bK.no];have aE:k=L w.cells:=X;subst aE;rw[gV] at g4;have R:=v.kq aw;have Bi:aN (V 7) [a1,iv<|-1,a2,a3,a4, .m (10,i)<|L w.bU, .m (14,j)<|L w.ay]=V (.a [a1,iv<|-1,a2,a3,a4, .m (10,i)<|L w.bU, .m (14,j)<|L w.ay]):=A;simp only[Bi,aY];refine yv R A rfl λM g y=>?_;simp only[y,a6X,qh,df,Bi,aY];have u:Fx D M [(3,S),(2,v2)]:=v.trans g;have n6:∀{a:AV} {d:Nat},(∀q∈aA a,q.1=d)->d≠2->d≠3->∀q∈aA a,q∉[((3,S):Id),((2,v2):Id)]:=X;have z1:=q1.fx u<|n6 P1 H H;have z2:=q2.fx u<|n6 P2 H H;have z3:=q3.fx u<|n6 P3 H H;have z4:=g4.fx g (λq b e=>by have:=(P4 q b).2;simp at e;subst e;simp at this);have z5:gi M 2 1 (.m (10,i)<|L w.bU) ((er (L w.bU) (0:Int)).map ci):= .inr ⟨(10,i),O,by rw[u.kq q5,List.map_replicate];rfl⟩;have z6:gi M 3 1 (.m (14,j)<|L w.ay) ((er (L w.ay) (0:Int)).map ci):= .inr ⟨(14,j),O,by rw[u.kq q6,List.map_replicate];rfl⟩;have o3:∀{q:Id},bK s3 q->bK Y q:=λh=>(h.old F).old E;have o9:∀{q:Id},bK D q->bK Y q:=brE;have n5:=o3<|N6.old n;have bw:=o3<|(N7.old G).old n;refine⟨a1,a2,a3,a4,_,_,A,⟨z1.p,z2.p,z3.p,z4.p,z5.p,z6.p,X,X,X,X,λq h=>?_,λq h=>?_⟩,((((E.trans F).trans n).trans f).trans u).mono λq b=>?_⟩;grind [aA];grind [aA];simp only[dW,eW,ql,bj5,cL] at b;rcases b with rfl|rfl;exact .inr (o3<|(N8.old T).old n).no;exact .inr (N3.old E).no
def SlR(Y:ae)(z:Nat)(x:AV)(bA:List<|dM):Prop:=(∃t o,x= .l bA t o)\/∃b m e,x= .m b (L bA)/\box Y b=V ⟨e,z,U,I,bA++m⟩
section
variable{Y Y':ae}{z:Nat}{x:AV}{bA:List (dM)}
theorem SlR.fx{Lw}(h:SlR Y z x bA)(F:Fx Y Y' Lw)(a:∀q∈aA x,q∉Lw):SlR Y' z x bA:=by rcases h with h|⟨b,m,e,rfl,c⟩;exact .inl h;exact .inr ⟨b,m,e,A,F.keep _ _ (a b aBY) c⟩
theorem SlR.bx(h:SlR Y z x bA):∀q∈aA x,∃y,box Y q=V y:=by rcases h with⟨t,o,rfl⟩|⟨b,m,e,rfl,a⟩;simp[aA];grind [aA]
def SlR.of{e}(h:J7 Y e z x bA):SlR Y z x bA:=by rcases h with⟨rfl,rfl⟩|⟨b,m,rfl,a⟩;exact .inl ⟨_,_,A⟩;exact .inr ⟨b,m,e,A,a⟩
def SlR.ro(h:SlR Y z x bA):gL Y x=V bA:=by rcases h with⟨t,o,rfl⟩|⟨b,m,e,rfl,a⟩;rfl;simp[gL,a]
theorem SlR.ln(h:SlR Y z x bA):fS Y x=V (iv<|L bA):=by rcases h with⟨t,o,rfl⟩|⟨b,m,e,rfl,a⟩;rfl;simp[fS,a]
theorem SlR.ce(h:SlR Y z x bA):eY x=V [x]:=by rcases h with⟨t,o,rfl⟩|⟨b,m,e,rfl,a⟩<;>rfl
theorem SlR.ix1(h:SlR Y 1 x bA){i:Nat}{c}(k:bA[i]?=V [c]){K:AV->J3}(g:∀p,p= .q [c]\/(∃b,p= .p b i 0/\b∈aA x)->K p c):rV (cz 1 Y x<|iv i) λp=>rV (sA J Y p) (K p):=by obtain⟨d,j⟩:=List.getElem?_eq_some_iff.1 k;rcases h with⟨t,o,rfl⟩|⟨b,m,e,rfl,a⟩;have:cz 1 Y (.l bA t o) (iv i)=V (.q [c]):=(by simp[cz,d,j]);rw[this];exact g _<|.inl A;have n:cz 1 Y (.m b<|L bA) (iv i)=V (.p b i 0):=(by simp[cz,a,d]);have f:(bA++m)[i]?=V [c]:=X;have r:sA J Y (.p b i 0)=V c:=(by simp only[sA,iE,a,a6X,f];cases c<;>rfl);grind [aY,aA]
theorem apV{e}{d by':Nat}{zs a new K}(f:J7 Y e z a bA)(n:gL Y x=V new)(y:L zs=z)(t:0<z)(u:d<L Y)(w:∀r∈bA,L r=z)(v:∀r∈new,L r=z)(g:(L bA+L new)*(by'+1)<=1099511627776)(k:∀c Y',J7 Y' e z c (bA++new)->Fx Y Y' (aA a)->(∀b∈aA c,b∈aA a\/bK Y b/\b.1=d)->K c Y'):eV (apA e zs by' Y d a x) K:=by have j:apA e zs by' Y d a x=apA e zs by' Y d a (.l new U U):=(by have h:gL Y (.l new U U)=V new:=A;unfold apA;rw[n,h]);rw[j];by_cases i:new=[];subst i;have:apA e zs by' Y d a (.l [] U U)=V (a,Y):=(by unfold apA;simp only[gL];rw[hY O];rcases f with⟨_,rfl⟩|⟨q,m,rfl,o⟩;rfl;simp[o]);rw[this];exact k a Y (by simpa using f) (Fx.refl _ _) λb g=> .inl g;grind [qs,gi.p]
end
def baG{Y z0 a e z bA}(g:J7 Y e z a bA):aX [z0] 1 Y [(0,a)]=V (.l [[.l bA I I]] U U,kills Y<|aA a):=by rcases g with⟨rfl,rfl⟩|⟨b,m,rfl,c⟩;simp[aX,aly,eY,nrm,gK,eR,aTH,aNN,iR,kills,bsm,eN,aA];simp[aX,aly,eY,nrm,gK,eR,aTH,aNN,iR,bsm,eN,aA,c]
def SlR.keys{Y z x bA}(h:SlR Y z x bA){P:Nat->Prop}(a:∀q∈aA x,P q.1):aNG x=[]\/∃p,aNG x=[p]/\P p:=by rcases h with⟨t,o,rfl⟩|⟨b,m,e,rfl,c⟩;exact .inl A;exact .inr ⟨b.1,A,a b aBY⟩
def a6M{Y}{o ev:Int}{x1 x2}{aO6:eu}{aPe:List (eu)}(hl:L Y=4096)(h1:SlR Y 1 x1<|aO6.map ci)(h2:SlR Y 1 x2<|aPe.map cl)(hp:∀q∈aA x1,q.1≠1/\q.1≠3)(b1:L aO6<=1000)(b2:L aPe<=1000)(b3:∀t∈aPe,L t<=1000):
  ∃r j,(∃a1 a2,r= .a [iv o,a1,a2,iv ev]/\J7 j 2 1 a1 (aO6.map ci)/\J7 j 25 1 a2 (aPe.map cl)/\Fx Y j []/\(∀q∈aA a1,bK Y q/\q.1=12)/\∀q∈aA a2,bK Y q/\q.1=31)/\cZ aS GG 291 [.a [iv o,x1,x2,iv ev]] Y r j:=by
 refine bhc hl A λs2 v1 K2 bf nf c1=>?_
 have B:=K2.fx []
 have M:=B.len.trans hl
 have H1:=h1.fx B O
 have H2:=h2.fx B O
 refine pz M λv2 T v N3 q3=>?_
 have R:=v.kq c1
 have N:=v.len.trans M
 have G:∀{x:dM} {y:AV},aN J (y::x)=V y:=λ{x y}=>by cases y<;>rfl
 simp only[qz 4,eS,R,G,nM,ip,nS]
 have H3:=H2.fx v O
 have ad:=H1.fx v O
 simp only[qz 6,eS,R,G,nM,ip]
 refine apV (bA:=[]) (e:=2) (z:=1) (.inl ⟨A,A⟩) ad.ro A H Z O fF NA λa1 s4 F F4 P4=>?_
 simp only[dW] at F
 have bc:∀q∈aA a1,bK T q/\q.1=12:=bkb
 have d:Fx T s4 []:=F4.mono aBY
 have ap:bM btJ bst [(0,iv o),(3,iv ev),(1,a1)]=V (.a [iv o,a1, .l [] U U,iv ev]):=by
  rcases F with⟨_,rfl⟩|⟨b,m,rfl,_⟩<;>rfl
 simp only[qz 8,qy 10,ap,aY]
 refine anu (d.len.trans N) λv3 W w N5 q5=>?_
 have ay:=w.len.trans<|d.len.trans N
 have c5:=w.kq<|d.kq R
 have d5:=w.kq<|d.kq q3
 have g5:=F.fx w O
 have H5:=(H3.fx d O).fx w O
 have o3:∀{q:Id},bK T q->bK Y q:=λh=>(h.old v).old B
 have o5:∀{q:Id},bK W q->bK Y q:=brE
 refine dT ?_ ?_
 ·have hk:aNG a1=[]\/aNG a1=[12]:=by
   rcases F with⟨_,rfl⟩|⟨b,m,rfl,_⟩
   ·exact .inl A
   grind [aA,aNG,dC,dK]
  rcases hk with E|E<;>rcases h1.keys (P:=λp=>p≠1/\p≠3) hp with e2|⟨p,e2,p1,p3⟩<;>simp[eL,lb,Cz, *]<;>simp[aNG,dC,dK]<;>omega
 refine yV (L aPe) (λk _ Y'=>∃a2,box Y' (3,v3)=V ⟨277,4,U,U,[[iv o,a1,a2,iv ev]]⟩/\J7 Y' 25 1 a2 ((aPe.take k).map cl)/\Fx W Y' [(3,v3)]/\∀q∈aA a2,bK W q/\q.1=31) (by grind [J7,Fx.refl,aA]) ?_
 rintro k _ j hk ⟨a2,m1,g2,g,P6⟩
 have E:=g.kq c5
 have af:=o3<|N5.old d
 have H6:=H5.fx g (λq n e=>by
  simp only[cE] at e
  subst e
  obtain⟨y,hy⟩:=h2.bx _ n
  exact af.no y hy)
 simp only[qz 25,qy 24,au,eS,E,m1,G,nM,ip,H6.ln,bJ,nS]
 refine⟨λh=>?_,λh=>?_⟩
 ·have f:=aL h
  simp only[qz 14,au,eS,E,G,nM,ip]
  refine H6.ix1 (i:=k) (c:=sl ci<|gd aPe k) (by rw[ve,eC f,aNV f];rfl) λp be=>?_
  have ax:=g.len.trans ay
  have bd:=b3 _<|dB f
  refine apV (bA:=[]) (e:=3) (z:=1) (new:=(gd aPe k).map ci) (.inl ⟨A,A⟩) A rfl H Z O fF NA λD s7 S F7 P7=>?_
  simp only[dW] at S
  have u:Fx j s7 []:=F7.mono aBY
  have ag:∀q∈aA D,bK j q/\q.1=29:=bkb
  have C:=aOp (aA D) s7
  simp only[qz 16,qy 18,baG S,bQ]
  have g8:=(g2.fx u O).fx C X
  refine qs (new:=[[.l ((gd aPe k).map ci) I I]]) g8 A H (by rw[C.len,u.len,ax];decide) (λr hr=>by obtain⟨y,_,rfl⟩:=dN.1 hr;rfl) O O NA λa9 s9 g9 F9 P9=>?_
  have m9:=F9.keep _ _ (λn=>by have:=(P6 _ n).2;simp at this) (C.keep _ _ (λn=>by have:=(ag _ n).2;simp at this) (u.kq m1))
  simp only[qz 20,eS,m9]
  refine A0 m9 g9.p.ce O λbg K ah=>?_
  simp only[qz 22]
  refine dT ?_ ?_
  ·have av:aNG D=[]\/aNG D=[29]:=by
    rcases S with⟨_,rfl⟩|⟨b,m,rfl,_⟩
    ·exact .inl A
    grind [aA,aNG,dC,dK]
   rcases av with e7|e7<;>simp[eL,lb,e7,Cz]<;>simp[aNG,dC,dK,sl]
  simp only[au,eQ]
  refine yU f ⟨a9,ah,?_,((((g.trans u).trans C).trans F9).trans K).mono λq n=>?_,brE⟩
  ·rw[iJ f,<-aNV f,dg]
   exact g9.p.fx K X
  grind [bK.no,bK.old]
 ·have ar:k=L aPe:=X
  subst ar
  rw[gV] at g2
  have d6:=g.kq d5
  have uS:aN (V 4) [iv o,a1,a2,iv ev]=V (.a [iv o,a1,a2,iv ev]):=A
  simp only[uS,aY]
  refine yv d6 A rfl λs8 F8 b8=>?_
  simp only[b8,a6X,qh,df,uS,aY]
  refine⟨a1,a2,A,(g5.fx g X).fx F8 X,(by grind [J7.fx]),(((((B.trans v).trans d).trans w).trans g).trans F8).mono λq n=>?_,X,X⟩
  grind [bK.no,bK.old]
def aR3:dO:=(14,Gf)::a7D
def aPL:eJ aR3:=asq (apM PM)<|aR2
def aPg:=ai @azy<|@bcw
section
attribute[local irreducible] aX
def a9J:=I9 25 [(4,([7],[2,3,4,6])),(12,([8,9,10],[2,3,4]))]
def bhf{c0 b}:=yB2 290 6 2 277 4 3 aPL func292 a9J c0 b [.a c0, .a b]
end
def bfq{Y b}{i j z:Nat}{e s}{z2:Nat}{a r bA d K}(h:box Y b=V ⟨e,z,U,I,bA⟩)(w:bA[i]?=V r)(x:j<L r)(g:J7 Y s z2 a d)(n:b∉aA a)(u:∀Y',Fx Y Y' (aA a++[b])->box Y' b=V ⟨e,z,U,I,bA.set i<|r.set j<|.l d I I⟩->K Y'):sV (aK 1 Y (.p b i j) a) K:=by have v:nrm (eR Y a)= .l d I I:=(by rcases g with⟨rfl,rfl⟩|⟨q,m,rfl,o⟩;rfl;simp[eR,aTH,o,nrm,gK]);have k:aNN a=aA a:=(by rcases g with⟨rfl,rfl⟩|⟨q,m,rfl,o⟩<;>rfl);have f:=aOp (aA a) Y;have c:=f.keep b _ n h;have t:aK 1 Y (.p b i j) a=V (wr (kills Y<|aA a) b ⟨e,z,U,I,bA.set i<|r.set j<|.l d I I⟩):=(by simp only[aK,aBG,h,eE,bsi,k,v,pW,c,eY,w,bZ,bhZ];rw[hY ⟨trivial,Z,λ_=>A⟩];grind [GP]);rw[t];exact u _ (f.trans<|wc c)<|lO c
structure TSt(Y:ae)(P:eu->Prop)(n:Nat)(a1 a2:AV)(aO6:eu)(aPe:List<|eu):Prop where
 g1:J7 Y 2 1 a1 (aO6.map ci)
 g2:J7 Y 25 1 a2 (aPe.map cl)
 n1:L aO6=n
 n2:L aPe=n
 hP:∀t∈aPe,P t
 p1:∀q∈aA a1,q.1=12
 p2:∀q∈aA a2,q.1=31
def aSq(Y:ae)(P:eu->Prop)(n:Nat)(a1 b:AV)(ev:Int)(r:AV)(c:ae):Prop:=Fx Y c (aA a1++aA b)/\(r= .t [.a btJ,bv I]\/∃(e:Int) (d:Bool) (aO6:eu) (aPe:List<|eu),r= .t [.a [iv e,a1,b,iv ev],bv d]/\TSt c P n a1 b aO6 aPe)
theorem TSt.fx{Y Y' P n a1 b aO6 aPe}(S:TSt Y P n a1 b aO6 aPe){Lw}(F:Fx Y Y' Lw)(c:∀q∈Lw,q.1≠12/\q.1≠31):TSt Y' P n a1 b aO6 aPe:=⟨S.g1.fx F λq a e=>(c q e).1<|S.p1 q a,S.g2.fx F λq a e=>(c q e).2<|S.p2 q a,S.n1,S.n2,S.hP,S.p1,S.p2⟩
def bdr{Y P}{n:Nat}{i:aRV}{pc ev:Int}{a1 E aO6 aPe}(hl:L Y=4096)(S:TSt Y P n a1 E aO6 aPe)(bX:1<=i.op/\i.op<=5)(hn:n<=1000)(bf:P [])(bi:∀a b,P a->P b->P (mP a b))(bg:∀a,P a->L a<=1000):∃r B,aSq Y P n a1 E ev r B/\cZ aS GG 292 [.a i.c, .a [iv pc,a1,E,iv ev]] Y r B:=bhf hl A rfl λs4 v2 v3 K4 b0 nf2 b3 c2 c3=>by have F4:=K4.fx [];have bq:=F4.len.trans hl;refine pz bq λv5 s5 F5 N5 c5=>?_;have d2:=F5.kq c2;have G:=F5.kq c3;simp only[qz 6,eQ,d2,J9,jM,kU,jt,Fa,aPg];rintro r ⟨t',o',rfl⟩;refine⟨by simp[lo,nA,aNN,iR,aRV.c],?_⟩;refine yV (L<|bie i) (λk _ Y'=>Y'=s5/\∀j,j<k->aF n (gd (bie i) j)) ⟨A,O⟩ ?_;rintro k _ B hk ⟨rfl,hc⟩;have w:=(S.fx F4 O).fx F5 O;have k1:∀{x:dM} {y:AV},aN J (y::x)=V y:=λ{x y}=>(by cases y<;>rfl);have T:Fx Y B []:=F4.trans F5;have hz:bM btJ bst []=V (.a btJ):=A;have aD:∀{Y':ae},J7 Y' 2 1 a1 (aO6.map ci)->fS Y' a1=V (iv n):=λg=>(by rw[g.ln,bJ,S.n1]);have am:∀R:Bool,sV (aK 4 B (.p (4,v5) 0 0)<|.a btJ) λs=>rV (sA (V 4) s<|.p (4,v5) 0 0) λt=>aRf (aSq Y P n a1 E ev) s [t,bv I]:=λR=>(yv c5 A rfl λs6 F6 b6=>by rw[aEa b6 A];exact⟨(T.trans F6).mono bvj, .inl A⟩);have bn:∀x:Int,(Q (x<0)||Q (x>=(n:Int)))=I->aF n x:=λx N=>(by simp only[cP,yk] at N;exact⟨Z,Z⟩);rcases Decidable.em (k<L (bie i)) with C|C;have hd:Q ((k:Int)<(L (bie i):Int))=U:=X;rcases h1:Q (gd (bie i) k<0) with _|_;rcases h2:Q (gd (bie i) k>=(n:Int)) with _|_;simp only[qz 25,qy 8,au,gT,tf,J9,bh,hd,h1,h2,eT,G,k1,aD w.g1,↓jA,a7i,↓iC,↓iB];refine⟨dJ C,dJ C,dR (mk:=λ(_:Unit) i=>[iv i]) (s:=()) (s':=()) (λ_ _=>A) C (by grind [a64]) ⟨A,a6p hc<|bn _ ?_⟩⟩;simp_all;simp only[qz 25,qy 8,au,gT,tf,J9,bh,hd,h1,h2,eT,G,k1,aD w.g1,↓jA,a7i,↓iC,hz];exact⟨dJ C,dJ C,am I⟩;simp only[qz 25,qy 8,au,gT,tf,J9,bh,hd,h1,eT,G,k1,↓jN,a5C,↓iC,hz];exact⟨dJ C,am I⟩;(focus have hd:Q ((k:Int)<(L (bie i):Int))=I:=NA;simp only[qz 25,qy 8,au,gT,hd,↓iB,eQ];have bo:k=L (bie i):=Z;subst bo;have f:∀r∈bie i,aF n r:=λr hr=>(by obtain⟨j,hj,rfl⟩:=ou hr;grind [aNV]);have ho:i.op=1\/i.op=2\/i.op=3\/i.op=4\/i.op=5:=Z;refine bsf (λd=>∀(v:Int) (R:Bool) (tx:AV) (t:eu),(∃t' o',tx= .l (t.map ci) t' o')->P t->aF n i.a->d [iv v,bv R,tx] B) ?_ λd D=>?_;rintro v R tx t ⟨t',o',rfl⟩ M aC;obtain⟨m,hm⟩:∃m:Nat,i.a=m:=⟨i.a.toNat,by have:=aC.1;omega⟩;have aG:m<n:=(by have:=aC.2;omega);have bW:m<L aO6:=(by rw[w.n1];exact aG);have aE:m<L aPe:=(by rw[w.n2];exact aG);have bY:=bg _ M;simp only[qz 75,qy 14,au,eS,d2,G,J9,k1,nS,hm];refine apV (bA:=[]) (e:=3) (z:=1) (new:=t.map ci) (.inl ⟨A,A⟩) A rfl H bvb O fF NA λa7 s7 g7 F7 P7=>?_;simp only[dW] at g7;have W:Fx B s7 []:=F7.mono aBY;have aW:∀q∈aA a7,bK B q/\q.1=125:=bkb;have S7:=w.fx W O;have a6:=W.kq G;have a9:=W.kq c5;simp only[qz 16,au];refine ixG S7.g1 bt2 λb1 m1 bj bl=>?_;rw[bh];have bt:=S7.p1 b1 bkb;refine aQz (x:=iv v) (r:=[iv<|gd aO6 m]) bl (by simp_all [xe,aNV]) O A rfl rfl λs8 F8 b8=>?_;have aR:(aO6.map ci++m1).set m ([iv<|gd aO6 m].set 0<|nrm<|eR s7<|iv v)=(aO6.set m v).map ci++m1:=(by rw[List.set_append_left _ _ X,bsl];rfl);rw[aR] at b8;have e1:J7 s8 2 1 a1 ((aO6.set m v).map ci):= .inr ⟨b1,m1,by rw[bj];simp,b8⟩;have e2:=S7.g2.fx F8 (by grind [TSt.p2]);have e7:=g7.fx F8 X;have n1:∀{q:Id},q.1≠12->q∉[b1]:=X;have a8:=F8.keep _ _ (n1 O) a6;have ba:=F8.keep _ _ (n1 O) a9;simp only[qz 18];refine ixG e2 bt2 λb2 m2 bk bm=>?_;rw[bh];have b4:=S7.p2 b2 bkb;refine bfq (r:=[sl ci<|gd aPe m]) bm (by rw[xe X,ve,eC aE,aNV aE];rfl) O e7 X λs9 F9 b9=>?_;have ax:(aPe.map cl++m2).set m ([sl ci<|gd aPe m].set 0<|.l (t.map ci) I I)=(aPe.set m t).map cl++m2:=(by rw[List.set_append_left _ _ X,bsl];rfl);rw[ax] at b9;have n2:∀{q:Id},q.1≠125->q.1≠31->q∉aA a7++[b2]:=λh h' e=>(by rcases dF.1 e with e|e;grind;grind);have S9:TSt s9 P n a1 E (aO6.set m v) (aPe.set m t):=⟨e1.fx F9<|λq o=>n2 (by grind [TSt.p1])<|by grind [TSt.p1], .inr ⟨b2,m2,by rw[bk];simp,b9⟩,by simp[w.n1],by simp[w.n2],(by grind [TSt.hP]),S7.p1,S7.p2⟩;have aB:=F9.keep _ _ (n2 O O) a8;have bb:=F9.keep _ _ X ba;simp only[qz 20];refine dT ?_ ?_;simp only[au,nr];simp[eL,lb,aNG,dC,dK,bt];simp only[eS,aB,k1,ip];refine A0 aB A O λbu ag aZ=>?_;have F:∃aq,box bu (3,v3)=V ⟨277,4,U,U,[[iv aq,a1,E,iv ev]]⟩:=⟨_,aZ⟩;obtain⟨aq,F⟩:=F;simp only[qz 22,qy 24,aEa F A,aY,ck];refine yv (ag.kq bb) A rfl λb5 az a0=>?_;rw[aEa a0 A];refine⟨(((((T.trans W).trans F8).trans F9).trans ag).trans az).mono λq o=>?_, .inr ⟨aq,R,_,_,A,(S9.fx ag O).fx az O⟩⟩;simp only[dW,cL,dF,cE] at o;rcases o with((o|o|o)|o)|o;grind [aA];exact .inr ((aW q o).1.old T).no;grind [aA];grind;subst o;exact .inr (N5.old F4).no;have aa:∀{x:Int} {K:AV->J3},aF n x->(∀p y,K p<|iv y)->rV (cz 1 B a1<|iv x) λp=>rV (sA J B p) (K p):=λ{x K} N hK=>(by obtain⟨m,rfl⟩:∃m:Nat,x=m:=⟨x.toNat,by have:=N.1;omega⟩;have hm:m<L aO6:=(by have:=N.2;have:=w.n1;omega);exact(SlR.of w.g1).ix1 (i:=m) (c:=iv<|gd aO6 m) bse λp _=>hK p _);have ab:∀{x:Int} {K:AV->J3},aF n x->(∀p t,P t->K p (sl ci t))->rV (cz 1 B E<|iv x) λp=>rV (sA J B p) (K p):=λ{x K} N hK=>(by obtain⟨m,rfl⟩:∃m:Nat,x=m:=⟨x.toNat,by have:=N.1;omega⟩;have hm:m<L aPe:=(by have:=N.2;have:=w.n2;omega);exact(SlR.of w.g2).ix1 (i:=m) (c:=sl ci<|gd aPe m) (by rw[ve,eC hm,aNV hm];rfl)<|by grind [TSt.hP,dB]);rcases ho with h|h|h|h|h;(all_goals simp only[qz 77,h,boV,bmL,Int.reduceEq,eS,d2,G,J9,k1,↓iC,↓iB,jM,kU,jt,tW,aPg,rr,ni]);exact D _ _ _ [] ⟨_,_,A⟩ bf (by grind [bie]);refine aa (f _<|by simp[bie,h]) λp y=>ab (f _<|by simp[bie,h]) λp t M=>D _ _ _ t ⟨_,_,A⟩ M (f _<|by simp[bie,h]);intro x;refine aa (f _<|by simp[bie,h]) λp y=>?_;simp only[tW,aPg];rintro r ⟨u,R,rfl⟩;refine⟨by simp[lo,nA,aNN,iR],?_⟩;simp only[oJ,pG,u0];exact ab (f _<|by simp[bie,h]) λp t M=>D _ _ _ t ⟨_,_,A⟩ M (f _<|by simp[bie,h]);intro x;refine aa (f _<|by simp[bie,h]) λp y=>aa (f _<|by simp[bie,h]) λp y'=>?_;simp only[tW,aPg];rintro r ⟨u,R,rfl⟩;refine⟨by simp[lo,nA,aNN,iR],?_⟩;simp only[oJ,pG,u0];refine ab (f _<|by simp[bie,h]) λp t M=>ab (f _<|by simp[bie,h]) λp t2 br=>?_;simp only[alg,aPg];refine⟨X,?_⟩;rintro r ⟨t',o',rfl⟩;exact⟨by simp[lo,nA,aNN,iR,sl],D _ _ _ (mP t t2) ⟨_,_,A⟩ (bi _ _ M br)<|f _<|by simp[bie,h]⟩;refine A0 G A O λs6 F6 b6=>?_;have a3:box s6 (3,v3)=V ⟨277,4,U,U,[[iv i.a,a1,E,iv ev]]⟩:=b6;simp only[qz 10,qy 12,aEa a3 A,aY];refine yv (F6.kq c5) A rfl λs7 F7 b7=>?_;rw[aEa b7 A];refine⟨((T.trans F6).trans F7).mono λq o=>?_, .inr ⟨i.a,U,aO6,aPe,A,(w.fx F6 O).fx F7 O⟩⟩;simp only[dW,dF,cE] at o;rcases o with rfl|rfl;simp_all;exact .inr (N5.old F4).no)
def a7E:dO:=aR3
def a7m:eJ a7E:=aPL
def aTd:=@aPg
section
attribute[local irreducible] aX
def a9H:=I9 26 [(7,([6],[2,3,4]))]
def bhd{c0 b}:=yB2 273 2 2 277 4 3 a7m func266 a9H c0 b [.a c0, .a b]
end
def aOo(Y:ae):AV->AV| .t vs=> .t (vs.map λx=>nrm<|eR Y x)|x=>nrm<|eR Y x
def aNW:AV->List Id| .t vs=>vs.flatMap aNN|x=>aNN x
def bcr{P κ w Y β v x}(s:Cq P κ w Y β)(h:ba κ w Y β v x):ba κ w (kills Y<|aNW x) β v (aOo Y x):=by cases x with|t vs=>(cases h with|t g h=>refine .t X λi v c f a=>?_;rw[ve] at a;cases e:vs[i]? with|none=>simp_all|some y=>rw[e] at a;simp only[df,aOe] at a;subst a;exact yo<|xK s (h i v y f e) λb d=>List.mem_flatMap.2 ⟨y,List.mem_of_getElem? e,d⟩)|_=>exact yo (xK s h λb d=>d)
def cZ.frz{P G fn xs Y a r}(h:cZ P G fn xs Y r a):cZ P G fn xs Y (aOo a r) (kills a<|aNW r):=by refine⟨h.1,λκ w β c s g f=>(h.2 κ w β c s g f).mono ?_⟩;rintro e k ⟨v,d,rfl,i,b,j⟩;exact⟨v,d,A,bcr b i,(D1 _ b).2.1,j.trans (D1 _ b).1⟩
def aQR{P G fn xs Y}{R Q:be}(h:∃r a,R r a/\cZ P G fn xs Y r a)(d:∀r a,R r a->Q (aOo a r) (kills a<|aNW r)):∃r a,Q r a/\cZ P G fn xs Y r a:=by obtain⟨r,a,b,c⟩:=h;exact⟨_,_,d r a b,c.frz⟩
def a6r{Y e z a bA}(g:J7 Y e z a bA):gK (aTH Y a)= .l bA I I:=aOb g
def aQX{Y e z a bA}(g:J7 Y e z a bA):iR a=aA a:=by rcases g with⟨_,rfl⟩|⟨b,m,rfl,_⟩<;>rfl
section
variable{Y:ae}{P:eu->Prop}{n:Nat}{d:Nat}{K:be}
def ba0{i:aRV}{q ev:Int}{a1 f aO6 aPe}(o:L Y=4096)(S:TSt Y P n a1 f aO6 aPe)(l:1<=i.op/\i.op<=5)(p:n<=1000)(g:P [])(k:∀a b,P a->P b->P (mP a b))(j:∀a,P a->L a<=1000)(m:∀r e,aSq Y P n a1 f ev r e->K r e):cB 292 [.a i.c, .a [iv q,a1,f,iv ev]] Y d K:=jH A (bdr o S l p g k j)<|λr e h=>by exact⟨h.1.len,m r e h⟩
theorem alD{g ev:Int}{f x2 aO6 aPe}(m:L Y=4096)(i:SlR Y 1 f<|aO6.map ci)(j:SlR Y 1 x2<|aPe.map cl)(o:∀q∈aA f,q.1≠1/\q.1≠3)(p:L aO6=n)(s:L aPe=n)(w:n<=1000)(l:∀t∈aPe,P t)(v:∀a,P a->L a<=1000)(k:∀a1 c b,TSt b P n a1 c aO6 aPe->Fx Y b []->(∀q∈aA a1++aA c,bK Y q)->K (.a [iv g,a1,c,iv ev]) b):cB 291 [.a [iv g,f,x2,iv ev]] Y d K:=jH A (a6M m i j o Z Z FA)<|by rintro r b ⟨a1,c,rfl,g1,h,F,p1,u⟩;refine⟨F.len,k a1 c b ⟨g1,h,p,s,l,λq e=>(p1 q e).2,λq e=>(u q e).2⟩ F λq e=>?_⟩;grind
end
def Tn(l:eu):Prop:=jC l/\∀x∈l,0<=x/\x<1000
theorem Tn.len{l}(h:Tn l):L l<=1000:=by have key:∀i,i<L l->(i:Int)<=gd l i:=(λi=>by induction i with|zero=>intro a;exact(h.2 _<|dB a).1|succ i c=>intro a;have:=c Z;have:=h.1 i a;omega);rcases oD (L l) with b|b;omega;have:=key (L l-1) Z;have:=(h.2 _<|dB (l:=l) (k:=L l-1) Z).2;omega
theorem Tn.nil:Tn []:=⟨λi a=>by simp at a,O⟩
theorem Tn.one{x}(h:0<=x/\x<1000):Tn [x]:=⟨λi a=>by simp at a,by simpa using h⟩
theorem Tn.put{l x}(h:Tn l)(b:0<=x/\x<1000):Tn (fk l x):=⟨Nz h.1,λy a=>(an1 a).elim Z<|h.2 y⟩
def Tn.fold:∀(a:eu) {l},Tn l->(∀x∈a,0<=x/\x<1000)->Tn (a.foldl fk l)|[],_,h,_=>h|x::a,_,h,b=>Tn.fold a (h.put<|b x O) FA
def Tn.un(a b)(c:Tn a)(e:Tn b):Tn (mP a b):=by simp only[mP,jh,gV];exact Tn.fold b (Tn.fold a Tn.nil c.2) e.2
def ts0:bim:=⟨0,[],[],0⟩
def aQG(s s':bim):Prop:=(∀t∈s'.aPe,Tn t)/\L s'.aO6<=1000/\L s'.aPe<=1000/\(s'.ac=s.ac\/s'.ac=0)
def bdq{Y}{c:bqI}{s x1 x2}(hl:L Y=4096)(bc:SlR Y 1 x1<|s.aO6.map ci)(bd:SlR Y 1 x2<|s.aPe.map cl)(hp:∀q∈aA x1,q.1≠1/\q.1≠3)(p1:c.aO6<=1000)(p2:L c.boU<1000000)(p3:L s.aO6<1000000)(p4:L s.aPe<1000000)(p5:∀t∈s.aPe,Tn t):
  ∃r Y1,((∃(j:Bool) (s':bim),r= .t [.a s'.c,bv j]/\aQG s s')/\Fx Y Y1 [])/\cZ aS GG 266 [.a c.c, .a [iv s.pc,x1,x2,iv s.ac]] Y r Y1:=by
 generalize hQ:(λ(r:AV) (y:ae)=>(∃(j:Bool) (s':bim),aOo y r= .t [.a s'.c,bv j]/\aQG s s')/\Fx Y (kills y<|aNW r) [])=Qq
 refine aQR (R:=Qq) ?_ X
 refine bhd hl A rfl λs4 v2 v3 K4 bK nf2 bM b1 b2=>?_
 have T:=K4.fx []
 have aC:=T.len.trans hl
 have H1:=bc.fx T O
 have H2:=bd.fx T O
 refine pz aC λv5 s5 z N5 c5=>?_
 have d1:=z.kq b1
 have d2:=z.kq b2
 have aD:=z.len.trans aC
 have G:∀{x:dM} {y:AV},aN J (y::x)=V y:=λ{x y}=>by cases y<;>rfl
 have M:∀{a b c d:AV},aN (V 4) [a,b,c,d]=V (.a [a,b,c,d]):=A
 have w:Fx Y s5 []:=T.trans z
 have aL:∀{x:ae} {cs:dM} {s':bim} {j:Bool},cs.map (lz x)=s'.c->aQG s s'->Fx Y x []->(∀q∈cs.flatMap iR,∀y,box Y q≠V y)->aRf Qq x [.a cs,bv j]:=λ{x cs s' j} e h F hn=>by
  show Qq (.t [.a cs,bv j]) x
  rw[<-hQ]
  have e1:aOo x (.t [.a cs,bv j])= .t [.a s'.c,bv j]:=by
   show AV.t [nrm<|eR x<|.a cs,bv j]=_
   have:nrm (eR x<|.a cs)= .a (cs.map<|lz x):=by simp only[eR,nrm,vA];rfl
   rw[this,e]
  refine⟨⟨j,s',e1,h⟩,(F.trans<|aOp _ _).mono λq o=> .inr<|hn q ?_⟩
  grind [aNW,aNN,iR]
 have n5:=(N5.old T).no
 have g:∀{x:ae} (j:Bool),Fx Y x []->box x (4,v5)=V ⟨277,4,U,U,[btJ]⟩->sV (aK 4 x (.p (4,v5) 0 0)<|.a btJ) λy=>rV (sA (V 4) y<|.p (4,v5) 0 0) λt=>aRf Qq y [t,bv I]:=λ{x} j F hb=>by
  refine yv hb A rfl λs6 E b6=>?_
  rw[aEa b6 A]
  exact aL (s':=ts0) A ⟨by simp[ts0],by simp[ts0],by simp[ts0], .inr A⟩ ((F.trans E).mono FA) (by simp[iR])
 have af:fS s5 x1=V (iv<|L s.aO6):=by rw[(H1.fx z O).ln,bJ]
 have aJ:fS s5 x2=V (iv<|L s.aPe):=by rw[(H2.fx z O).ln,bJ]
 rcases l:Q ((L s.aO6:Int)≠c.aO6) with _|_
 ·have q1:(L s.aO6:Int)=c.aO6:=X
  rcases D:Q ((L s.aPe:Int)≠c.aO6) with _|_
  ·have q2:(L s.aPe:Int)=c.aO6:=X
   simp only[qz 6,eS,d1,d2,J9,G,af,aJ,l,D,↓jA,↓iB,M]
   refine alD (P:=Tn) (n:=L s.aO6) aD (H1.fx z O) (H2.fx z O) hp A Z Z p5 (λa h=>h.len) λa1 a2 s6 S6 E N6=>?_
   simp only[qz 10,qy 12]
   have a5:=E.kq d1
   have a7:=E.kq d2
   have a3:=E.kq c5
   refine yv a7 A rfl λs7 W b7=>?_
   have a6:=W.kq a5
   have a4:=W.kq a3
   have S7:=S6.fx W O
   have ba:=(W.len.trans E.len).trans aD
   refine yV (L c.boU+1) (λk _ x=>∃u aO6 aPe,Fx Y x []/\L x=4096/\box x (2,v2)=V ⟨273,2,U,U,[c.c]⟩/\box x (3,v3)=V ⟨277,4,U,U,[[iv u,a1,a2,iv s.ac]]⟩/\box x (4,v5)=V ⟨277,4,U,U,[btJ]⟩/\TSt x Tn (L s.aO6) a1 a2 aO6 aPe) ⟨_,_,_,((w.trans E).trans W).mono X,ba,a6,b7,a4,S7⟩ ?_
   rintro k _ x hk ⟨u,aO6,aPe,N,aG,m1,m2,m3,S⟩
   have kk:∀{y:AV},Q ((k:Int)<=(L c.boU:Int))=U->k<L c.boU+1:=X
   rcases hx:Q ((k:Int)<=(L c.boU:Int)) with _|_
   ·simp only[qz 43,qy 14,qy 16,qy 34,au,eS,m1,m2,J9,G,hx,↓iB]
    exact g I N m3
   have bH:k<=L c.boU:=X
   rcases l:Q (u<0) with _|_
   ·rcases D:Q (u>=(L c.boU:Int)) with _|_
    ·have a8:aF (L c.boU) u:=by
      simp only[yk] at l D
      exact⟨Z,Z⟩
     simp only[qz 43,qy 16,qy 34,au,eT,m1,m2,J9,G,hx,l,D,ixv,↓jA,↓iC,↓iB]
     refine⟨a8,anu aG λv7 s8 B N8 b8=>?_⟩
     have n1:=B.kq m1
     have n2:=B.kq m2
     have n3:=B.kq m3
     have S8:=S.fx B O
     have aE:=B.len.trans aG
     generalize hI:gd c.boU u.toNat=i at b8⊢
     have ri:aN (V 6) i.c=V (.a i.c):=A
     rcases hs:(Q (1<=i.op)&&Q (i.op<=5)) with _|_
     ·simp only[qz 18,qy 20,qy 22,eS,n2,b8,J9,M,ar,aTd,rr,hs,↓iC]
      refine yv n3 A rfl λs9 C b9=>?_
      simp only[b9,a6X,qh,df,M,aY]
      have m:=S8.fx C O
      exact aL (s':=⟨u,aO6,aPe,s.ac⟩) (by simp only[ji,mU,aQ5,aOb m.g1,aOb m.g2];rfl) ⟨m.hP,by have:=m.n1;simp only;omega,by have:=m.n2;simp only;omega, .inl A⟩ (((N.trans B).trans C).mono X) (λq o=>by
       have e9:([iv u,a1,a2,iv s.ac]:dM).flatMap iR=aA a1++aA a2:=by simp only[Cz,RN,aQX m.g1,aQX m.g2];simp[iR]
       rw[e9] at o
       exact((N6 q o).old w).no)
     have bb:1<=i.op/\i.op<=5:=X
     rcases o:Q ((k:Int)=(L c.boU:Int)) with _|_
     ·simp only[qz 18,qy 20,eS,n1,n2,b8,J9,M,ri,ar,aTd,rr,hs,o,↓iB]
      refine ba0 aE S8 bb Z Tn.nil Tn.un (λa h=>h.len) λr s9 h9=>?_
      obtain⟨C,h9⟩:=h9
      have bL:∀{b:Id},b.1≠12->b.1≠31->b∉aA a1++aA a2:=λl D o=>by
       rcases dF.1 o with h|h
       ·exact l (S.p1 _ h)
       ·exact D (S.p2 _ h)
      have o1:=C.keep _ _ X n1
      have o2:=C.keep _ _ X n2
      have o3:=C.keep _ _ X n3
      have ad:=C.len.trans aE
      have aa:Fx Y s9 []:=((N.trans B).trans C).mono λq o=> .inr ((N6 q X).old w).no
      rcases h9 with rfl|⟨bf,j,ax,ak,rfl,m⟩
      ·simp only[qz 24,qy 26,oJ,pG,aY]
       refine anu ad λbj bg f aU aB=>?_
       have q1:=f.kq o1
       have q2:=f.kq o2
       have q3:=f.kq o3
       simp only[qz 28,qy 30,eQ,↓iC]
       exact g I (aa.trans f) q3
      ·simp only[qz 24,qy 26,oJ,pG,aY]
       refine anu ad λbj bg f aU aB=>?_
       have q1:=f.kq o1
       have q2:=f.kq o2
       have q3:=f.kq o3
       have aW:=m.fx f O
       cases j with
       |false=>
        simp only[qz 28,qy 30,eQ,↓iC]
        exact g I (aa.trans f) q3
       |true=>
        simp only[qz 28,eQ,aB,M,↓iB]
        refine yv q2 A rfl λbO v a0=>?_
        simp only[qz 32,au,eQ]
        have bI:k≠L c.boU:=X
        exact dR (mk:=λ(_:Unit) i=>[iv i]) (s:=()) (s':=()) (λ_ _=>A) Z Z ⟨bf,ax,ak,((aa.trans f).trans v).mono X,(v.len.trans f.len).trans ad,v.kq q1,a0,v.kq q3,aW.fx v O⟩
     ·simp only[qz 18,qy 20,qy 22,eS,n1,n2,b8,J9,M,ar,aTd,rr,hs,o,↓iB,↓iC]
      exact g I (N.trans B) n3
    ·simp only[qz 43,qy 14,qy 34,au,eS,m1,m2,J9,G,hx,l,D,↓jA,↓iC,wY]
     exact g I N m3
   ·simp only[qz 43,qy 14,qy 16,qy 34,au,eS,m1,m2,J9,G,hx,l,↓jN,a5C,↓iC]
    exact g I N m3
  ·simp only[qz 6,qy 8,eS,d1,d2,J9,G,af,aJ,l,D,↓jA,↓iC,wY]
   exact g I w c5
 ·simp only[qz 6,qy 8,eS,d1,d2,J9,G,af,l,↓jN,a5C,↓iC,M]
  exact g I w c5
def baY{Y}{c:bqI}{s b x2}{d:Nat}{K}(h:L Y=4096)(f:SlR Y 1 b<|s.aO6.map ci)(g:SlR Y 1 x2<|s.aPe.map cl)(i:∀q∈aA b,q.1≠1/\q.1≠3)(p1:c.aO6<=1000)(k:L c.boU<1000000)(l:L s.aO6<1000000)(m:L s.aPe<1000000)(o:∀t∈s.aPe,Tn t)(p:∀(j) (s') e,aQG s s'->Fx Y e []->K (.t [.a s'.c,bv j]) e):cB 266 [.a c.c, .a [iv s.pc,b,x2,iv s.ac]] Y d K:=jH A (bdq h f g i p1 k l m o)<|by grind [Fx.len]
def aYd:dO:=a7E
def a7n:eJ aYd:=a7m
def bcx:=@aTd
section
attribute[local irreducible] aX
def aSz a b R:=(.mk _:NF<|zF GGV aYd atW Tryz.f265 [.u] [a] b<|QDb Tryz.f265 R).p
def bhg{c0:dM}{s0:ae}{R:be}(hs:L s0=4096)(l0:L c0=7)(h:HB1 145 7 1 c0 s0 λc b=>aSz c b R):EB 265 [.a c0] s0 R:=aTc<|zB1 atW (aQ9 a7n) func265 hs l0 h
end
section
variable{ks:eP}{l l':List Id}{Y Y' Y1:ae}
theorem aTi{e z a bA}(g:J7 Y e z a bA):∀q∈aA a,∃x,box Y q=V x:=by rcases g with⟨_,rfl⟩|⟨b,m,rfl,h⟩;simp[aA];grind [aA]
theorem aQu{e z k a bA}(g:J7 Y e z a bA)(h:k∈dK a):∃q∈aA a,q.1=k:=by rcases g with⟨_,rfl⟩|⟨b,m,rfl,_⟩;grind [k1l];grind [k1m,aA]
end
def btB{p:Prop}(h:p:=by simp[Go.Ab.eN]):p:=h
def baT{y ev:Int}{B x2 aO6 aPe Y}{d:Nat}{K}(R:L Y=4096)(G:B=sl ci aO6)(M:x2=sl cl aPe)(C:L aO6<=1000)(D:L aPe<=1000)(E:∀t∈aPe,L t<=1000)(l:List Id)(W:∀p∈l,∃e z a bA,J7 Y e z a bA/\p∈aA a)(hp:∀p∈l,p.1=12\/p.1=31)(P:∀a1 b Y',J7 Y' 2 1 a1 (aO6.map ci)->J7 Y' 25 1 b (aPe.map cl)->Kx [12,31] Y Y'->(∀{e z a bA},J7 Y e z a bA->(∀q∈aA a,q∈l)->J7 Y' e z a bA)->(∀q∈aA a1,q∉l/\q.1=12)->(∀q∈aA b,q∉l/\q.1=31)->K (.a [iv y,a1,b,iv ev]) Y'):cV 291 [.a [iv y,B,x2,iv ev]] Y d K:=by subst G M;have o:L (bnq [12,31] l Y)=4096:=aOr.trans R;have:∀{l':List Id} {q:Id},q.1=12\/q.1=31->q∈l'->okI [12,31] l' q:=λh N=>⟨by rcases h with h|h<;>simp[h],N⟩;have:∀{e z a bA},J7 Y e z a bA->(∀q∈aA a,q∈l)->J7 (bnq [12,31] l Y) e z a bA:=(by grind [a6y]);refine aQN A rfl l (λx j=>?_) ?_ (a6M o (.inl ⟨_,_,A⟩) (.inl ⟨_,_,A⟩) (by simp[aA,sl]) C D E) ?_;simp only[cE] at j;subst j;intro c g;simp only[eW,ql,bj5] at g;rcases g with rfl|rfl|rfl|rfl;trivial;exact .inl btB;exact .inl btB;trivial;intro p s x j S;grind [aOV,aNO];rintro r Y1 ⟨a1,b,rfl,g1,m,F,p1,T⟩;have i:=F.len.trans aOr;have v:∀q∈aA a1,okI [12,31] (l++(aA a1++aA b)) q:=X;have w:∀q∈aA b,okI [12,31] (l++(aA a1++aA b)) q:=X;have:∀q∈l,∃x,box (bnq [12,31] l Y) q=V x:=(by grind [aTi,aOV]);refine⟨i,l++(aA a1++aA b),λp s x j S=>?_,λc g=>?_,P a1 b _ (aRR i g1 v) (aRR i m w) Kx.mix (by grind [aRR,J7.fx]) (λq k=>⟨λu=>?_,(p1 q k).2⟩) λq k=>⟨λu=>?_,(T q k).2⟩⟩;grind [Fx.keep,aNO,aOV];simp only[eW,ql,bj5] at g;rcases g with rfl|rfl|rfl|rfl;trivial;exact aQw g1 v;exact aQw m w;trivial;grind [bK.no];grind [bK.no]
def aTn{b i j}:aNG (.p b i j)=[b.1]:=rfl
def a6H{r t o}:aNG (.l r t o)=[]:=rfl
def bc7{α f}{l:List α}:aNG (sl f l)=[]:=rfl
def aWx{Y ds e z a bA}(g:Gr Y ds e z a bA):J7 Y e z a bA/\∀q∈aA a,q.1∈ds:=by rcases g with⟨b,c⟩|⟨d,v,b,c,h⟩;exact⟨.inl ⟨b,c⟩,bkb⟩;refine⟨.inr ⟨_,[],b,by simpa using h⟩,?_⟩;grind [aA]
def bnf{Y x o p r z1 z2 z3 i j m a1 b c w y z}(g1:J7 Y o z1 a1 w)(s:J7 Y p z2 b y)(t:J7 Y r z3 c z)(p1:∀q∈aA a1,q.1=i)(u:∀q∈aA b,q.1=j)(v:∀q∈aA c,q.1=m):∀k∈aNG (.a [a1,iv x,b,c]),k=i\/k=j\/k=m:=λk g=>by
 have e:aNG (.a [a1,iv x,b,c])=dK a1++(dK b++dK c):=btm
 rw[e] at g
 simp only[dF] at g
 rcases g with h|h|h
 ·obtain⟨q,d,rfl⟩:=aQu g1 h;exact .inl<|p1 q d
 ·obtain⟨q,d,rfl⟩:=aQu s h;exact .inr<|.inl<|u q d
 ·obtain⟨q,d,rfl⟩:=aQu t h;exact .inr<|.inr<|v q d
def bjx{s:aW}{Y}{d:Nat}{K}(z:L Y=4096)(i:L s.ak<100000/\L s.done<100000/\L s.ay<100000/\∀l∈s.ak,L l.bk<1000000)(G:∀a1 b e Y',Kx [10,14,41] Y Y'->J7 Y' 191 2 a1 (s.ak.map cg.c)->J7 Y' 4 1 b (s.done.map cb)->J7 Y' 69 3 e (s.ay.map aoC.c)->(∀q∈aA a1,q.1=41)->(∀q∈aA b,q.1=10)->(∀q∈aA e,q.1=14)->K (.a [a1,iv s.tx,b,e]) Y'):cV 128 [.a s.c] Y d K:=by have m:L (bnq [10,14,41] [] Y)=4096:=aOr.trans z;refine aQN A rfl [] (λx j=>?_) (λp i=>by simp at i) (aCH s m i) ?_;simp only[cE] at j;subst j;intro c g;simp only[aW.c,eW,ql,bj5] at g;rcases g with rfl|rfl|rfl|rfl;exact .inl btB;trivial;exact .inl btB;exact .inl btB;rintro r Y1 ⟨⟨a1,b,e,rfl,g1,o,t⟩,F⟩;obtain⟨v,N⟩:=aWx g1;obtain⟨w,P⟩:=aWx o;obtain⟨y,R⟩:=aWx t;have k:=F.1.trans aOr;have:∀{q:Id},q.1=10\/q.1=14\/q.1=41->q∈aA a1++(aA b++aA e)->okI [10,14,41] (aA a1++(aA b++aA e)) q:=λh u=>⟨by rcases h with h|h|h<;>simp[h],u⟩;have B:∀q∈aA a1,okI [10,14,41] (aA a1++(aA b++aA e)) q:=X;have C:∀q∈aA b,okI [10,14,41] (aA a1++(aA b++aA e)) q:=X;have D:∀q∈aA e,okI [10,14,41] (aA a1++(aA b++aA e)) q:=X;refine⟨k,aA a1++(aA b++aA e),λp E x j M=>?_,λc g=>?_,by grind [Kx.mix,aRR]⟩;grind [aNO];simp only[eW,ql,bj5] at g;rcases g with rfl|rfl|rfl|rfl;exact aQw v B;trivial;exact aQw w C;exact aQw y D
def baS{s:aW}{Y}{d:Nat}{K}(m:L Y=4096)(o:L s.ak<100000/\L s.done<100000/\L s.ay<100000/\∀l∈s.ak,L l.bk<1000000)(i:∀a1 b e Y',Kx [10,14,41] Y Y'->(∀k∈aNG (.a [a1,iv s.tx,b,e]),k=10\/k=14\/k=41)->K (.a [a1,iv s.tx,b,e]) Y'):cV 128 [.a s.c] Y d K:=bjx m o λa1 b e Y' Xq g1 g h p1 p q=>i a1 b e Y' Xq λk j=>by have:=bnf g1 g h p1 p q k j;omega
def alx(f:Nat->AV×AV)(ss:List bim)(n:Nat):List (dM):=(aH n).map λk=>[iv (gd ss k).pc,(f k).1,(f k).2,iv (gd ss k).ac]
def G2(vr:Bool)(Y:ae)(a:AV)(t:List<|eu):Prop:=bif vr then t=er (L t) []/\∃b,a= .m b (L t)/\box Y b=V ⟨25,1,U,U,er (L t) [.l [] U U]⟩ else J7 Y 25 1 a (t.map cl)
theorem G2.fx{vr Y Y' a t Lw}(g:G2 vr Y a t)(F:Fx Y Y' Lw)(h:∀q∈aA a,q∉Lw):G2 vr Y' a t:=by cases vr with|false=>exact J7.fx g F h|true=>obtain⟨c,b,rfl,d⟩:=g;exact⟨c,b,A,F.keep _ _ (h b aBY) d⟩
def aWh{Y e z a bA}(g:J7 Y e z a bA):frN Y a= .l bA I I:=by rcases g with⟨rfl,rfl⟩|⟨b,m,rfl,c⟩;rfl;simp[frN,aOn,c,gK]
theorem G2.fr{vr Y a t}(g:G2 vr Y a t):frN Y a=sl cl t:=by cases vr with|false=>exact aWh g|true=>obtain⟨i,b,rfl,e⟩:=g;have d:(((er (L t) [AV.l [] U U]).take<|L t).all λr=>r.all λc=>eN<|frM Y c)=U:=(by rw[dV];intro r h;rw[(List.mem_replicate.1<|List.mem_of_mem_take h).2];rfl);simp only[frN,aOn,e,d,aO1,gK];grind [sl,List.map_replicate,frM,aTH,gK,cl]
structure TTs(pl:Nat×Nat×Nat)(vr:Bool)(Y:ae)(a:AV)(f:Nat->AV×AV)(ss:List bim)(n:Nat):Prop where
 bx:(n=0/\a= .l [] U U)\/∃b,a= .m b n/\b.1=pl.2.2/\box Y b=V ⟨277,4,U,U,alx f ss n⟩
 g1:∀k,k<n->J7 Y 2 1 (f k).1 ((gd ss k).aO6.map ci)
 g2:∀k,k<n->G2 vr Y (f k).2 (gd ss k).aPe
 p1:∀k,k<n->∀q∈aA (f k).1,q.1=pl.1
 p2:∀k,k<n->∀q∈aA (f k).2,q.1=pl.2.1
 d1:∀i j,i<n->j<n->i≠j->∀q∈aA (f i).1,q∉aA (f j).1
 d2:∀i j,i<n->j<n->i≠j->∀q∈aA (f i).2,q∉aA (f j).2
theorem aQ8{f ss}{n:Nat}:L (alx f ss n)=n:=by simp[alx]
def aTy{f ss n k}(h:k<n):(alx f ss n)[k]?=V [iv (gd ss k).pc,(f k).1,(f k).2,iv (gd ss k).ac]:=by simp[alx,ve,List.getElem?_range h]
def ext(f:Nat->AV×AV)(n:Nat)(x:AV×AV):Nat->AV×AV:=λk=>if k=n then x else f k
theorem be5{f ss n x}:alx (ext f n x) ss (n+1)=alx f ss n++[[iv (gd ss n).pc,x.1,x.2,iv (gd ss n).ac]]:=by simp only[alx,qn,dg,ji,mU,ext,aO1];grind [ja]
section
variable{pl:Nat×Nat×Nat}{vr:Bool}{Y Y':ae}{a:AV}{f:Nat->AV×AV}{ss:List bim}{n:Nat}
def aPi(f:Nat->AV×AV)(n:Nat):List Id:=(aH n).flatMap λk=>aA (f k).1++aA (f k).2
theorem aXS{q}(h:q∈aPi f n):∃k,k<n/\(q∈aA (f k).1\/q∈aA (f k).2):=by grind [aPi]
theorem aWy{k}(b:k<n):∀q∈aA (f k).1,q∈aPi f n:=(by grind [aPi])
theorem aWz{k}(b:k<n):∀q∈aA (f k).2,q∈aPi f n:=(by grind [aPi])
theorem TTs.fx(T:TTs pl vr Y a f ss n){Lw}(F:Fx Y Y' Lw)(d:∀q∈Lw,q.1≠pl.1/\q.1≠pl.2.1/\q.1≠pl.2.2):TTs pl vr Y' a f ss n:=⟨(by grind [TTs.bx,Fx.keep]),λk b=>(T.g1 k b).fx F λq c h=>(d q h).1<|T.p1 k b q c,λk b=>(T.g2 k b).fx F λq c h=>(by grind [TTs.p2]),T.p1,T.p2,T.d1,T.d2⟩
theorem TTs.ids(T:TTs pl vr Y a f ss n):∀q∈aA a,q.1=pl.2.2:=by rcases T.bx with⟨_,rfl⟩|⟨b,rfl,h,_⟩;simp[aA];grind [aA]
theorem TTs.ce(T:TTs pl vr Y a f ss n):eY a=V [a]:=by rcases T.bx with⟨_,rfl⟩|⟨b,rfl,h,_⟩<;>rfl
theorem a7Q{r ev:Int}{p x2}{o d by':Nat}{zs z0}{K:AV->be}(T:TTs pl vr Y a f ss n)(hz:L zs=4)(B:L z0=4)(M:o<L Y)(S:d=pl.2.2)(aq:d<L Y)(h3:pl.2.2≠pl.1/\pl.2.2≠pl.2.1)(hb:(n+1)*(by'+1)<=1099511627776)(aa:r=(gd ss n).pc)(W:ev=(gd ss n).ac)(g1:J7 Y 2 1 p<|(gd ss n).aO6.map ci)(g2:G2 vr Y x2 (gd ss n).aPe)(p1:∀q∈aA p,q∉aPi f n/\q.1=pl.1)(E:∀q∈aA x2,q∉aPi f n/\q.1=pl.2.1)(hK:∀y P Y',(∃v,y= .m (o,v) 1)->TTs pl vr Y' P (ext f n (p,x2)) ss (n+1)->Fx Y Y' (aA a)->(∀q∈aA P,∀x,box Y q≠V x)->K y P Y'):eV (lvS 277 zs 1 Y o [(0, .a [iv r,p,x2,iv ev])]) λy s=>eV (avA 277 z0 by' s d a y) (K y):=by subst aa W;have h1:lvS 277 zs 1 Y o [(0, .a [iv (gd ss n).pc,p,x2,iv (gd ss n).ac])]=V (.m (lA Y o) 1,put Y o ⟨277,L zs,U,U,[[iv (gd ss n).pc,p,x2,iv (gd ss n).ac]]⟩):=(by grind [lvS,eY,vg]);rw[h1];show eV (avA 277 z0 by' (put Y o _) d a<|.m (lA Y o) 1)<|K<|.m (lA Y o) 1;have u:Fx Y (put Y o ⟨277,L zs,U,U,[[iv (gd ss n).pc,p,x2,iv (gd ss n).ac]]⟩) []:=kH M;have R:=iy (x:=(⟨277,L zs,U,U,[[iv (gd ss n).pc,p,x2,iv (gd ss n).ac]]⟩:bY)) M;generalize put Y o ⟨277,L zs,U,U,[[iv (gd ss n).pc,p,x2,iv (gd ss n).ac]]⟩=C at*;have T1:=T.fx u O;have:=u.len;have ab:aEx U C (.m (lA Y o) 1)=V [[iv (gd ss n).pc,p,x2,iv (gd ss n).ac]]:=(by simp[aEx,R]);have mk:∀(D:ae) (b:Id),b.1=pl.2.2->(∀x,box Y b≠V x)->Fx Y D (aA a)->box D b=V ⟨277,4,U,U,alx f ss n++[[iv (gd ss n).pc,p,x2,iv (gd ss n).ac]]⟩->K (.m (lA Y o) 1) (.m b<|n+1) D:=λD b ap hn F hx=>(by have N:∀q∈aA a,q.1≠pl.1/\q.1≠pl.2.1:=λq g=>(by grind [TTs.ids]);refine hK _ _ D ⟨_,A⟩ ⟨(by grind [be5]),λk z=>?_,λk z=>?_,λk z=>?_,λk z=>?_,λi j hi hj t=>?_,λi j hi hj t=>?_⟩ F λq g=>?_;by_cases e:k=n;subst e;simp only[ext,aO1];grind [J7.fx];simp only[ext,gq e];exact(T.g1 k Z).fx F λq g h=>(N q h).1<|T.p1 k Z q g;by_cases e:k=n;subst e;simp only[ext,aO1];grind [G2.fx];simp only[ext,gq e];exact(T.g2 k Z).fx F λq g h=>(N q h).2<|T.p2 k Z q g;by_cases e:k=n;subst e;simp only[ext,aO1];grind;simp only[ext,gq e];exact T.p1 k Z;by_cases e:k=n;subst e;simp only[ext,aO1];grind;simp only[ext,gq e];exact T.p2 k Z;intro q g c;by_cases e:i=n;subst e;simp only[ext,aO1,gq<|Sa t] at g c;exact(p1 q g).1<|aWy Z q c;by_cases w:j=n;subst w;simp only[ext,aO1,gq e] at g c;exact(p1 q c).1<|aWy Z q g;simp only[ext,gq e,gq w] at g c;exact T.d1 i j Z Z t q g c;intro q g c;by_cases e:i=n;subst e;simp only[ext,aO1,gq<|Sa t] at g c;exact(E q g).1<|aWz Z q c;by_cases w:j=n;subst w;simp only[ext,aO1,gq e] at g c;exact(E q c).1<|aWz Z q g;simp only[ext,gq e,gq w] at g c;exact T.d2 i j Z Z t q g c;grind [aA]);unfold avA;rw[ab];simp only[bZ,bhZ];rw[gq H,hY ⟨Z,by simp[vg];omega,by simp[B]⟩];rcases T1.bx with⟨h0,rfl⟩|⟨b,rfl,ao,G⟩;subst h0;simp only;rw[hY ⟨O,btz⟩];refine mk _ (lA C d) S (λx hx=>(qQ C d).no x<|u.kq hx) ((u.trans<|kH Z).mono O) ?_;rw[<-B];exact iy Z;simp only[G];rw[hY ⟨trivial,trivial,B.symm,by simp[aQ8],btz⟩];have z:d<L (kill C b):=(by rw[yg];omega);refine mk _ (lA C d) S (by grind [bK.no,qQ,Fx.keep]) (((u.trans<|Le G).trans<|kH z).mono aBY) ?_;grind [anF,aQ8,iy]
end
def TTs.fz{pl vr Y a f ss}(T:TTs pl vr Y a f ss<|L ss):fz Y a=sl bim.c ss:=by rcases T.bx with⟨m,rfl⟩|⟨b,rfl,_,p⟩;have:=List.length_eq_zero_iff.1 m;subst this;rfl;have h:(alx f ss<|L ss).map (·.map (frN Y))=ss.map bim.c:=(List.ext_getElem? λk=>by rcases Nat.lt_or_ge k (L ss) with d|d;rw[ve,aTy d,ve,eC d];have i:=aWh<|T.g1 k d;have j:=(T.g2 k d).fr;simp only[df,ji,mU,i,j,aNV d];rfl;grind [aQ8]);have e:(alx f ss<|L ss).take (L ss)=alx f ss (L ss):=(by grind [aQ8]);have o:((alx f ss<|L ss).all λr=>r.all λc=>eN<|frN Y c)=U:=(by rw[dV];intro r q;rw[dV];intro c t;have g:=CA (f:=(·.map (frN Y))) q;rw[h] at g;obtain⟨s,_,hs⟩:=dN.1 g;grind [CA,bim.c,eN,sl]);simp only[Ab.fz,dQ,p,e,o,aO1,h];rw[gq H];rfl
theorem Kx.fx{ks Y Y' b Lw}(k:Kx ks Y Y')(F:Fx Y' b Lw)(h:∀q∈Lw,q.1∈ks\/∀x,box Y q≠V x):Kx ks Y b:=⟨F.len.trans k.len,by grind [Fx.keep,Kx.keep]⟩
theorem Kx.kx{ks ks' Y Y' b}(k:Kx ks Y Y')(c:Kx ks' Y' b)(h:∀n∈ks',n∈ks):Kx ks Y b:=⟨c.len.trans k.len,by grind [Kx.keep]⟩
theorem Kx.no{ks Y Y' b}(k:Kx ks Y Y')(c:b.1∉ks)(h:∀x,box Y' b≠V x):∀x,box Y b≠V x:=(by grind [Kx.keep])
def a79(Y:ae)(s:bcW)(r:AV)(Y1:ae):Prop:=∃a1 d e c b a f,r= .a [a1,iv s.cw.tx,d,e,c,b,a]/\(∀k∈aNG (.a [a1,iv s.cw.tx,d,e]),k=10\/k=14\/k=41)/\J7 Y1 2 1 c (s.cells.map ci)/\J7 Y1 2 1 b (s.bU.map ci)/\TTs (12,31,33) I Y1 a f s.ay (L s.ay)/\Kx [10,12,14,31,41] Y Y1/\(∀q∈aA c,q.1=11/\∀x,box Y q≠V x)/\(∀q∈aA b,q.1=15/\∀x,box Y q≠V x)/\∀q∈aA a,∀x,box Y q≠V x
def bds{s Y}(hl:L Y=4096)(h1:L s.cw.ak<100000/\L s.cw.done<100000/\L s.cw.ay<100000/\∀l∈s.cw.ak,L l.bk<1000000)(h2:L s.cells<=1000)(N:L s.bU<=1000)(h4:L s.ay<=1000)(h5:∀t∈s.ay,L t.aO6<=1000/\L t.aPe<=1000/\∀x∈t.aPe,L x<=1000):∃r Y1,a79 Y s r Y1/\cZ aS GG 265 [.a s.c] Y r Y1:=bhg hl A λs2 v1 K2 cd nf b1=>by have F2:=K2.fx [];have ao:=F2.len.trans hl;simp only[aSz];refine pz ao λv2 s3 F3 N3 b3=>?_;have c1:=F3.kq b1;have ap:=F3.len.trans ao;have k1:∀{x:dM} {y:AV},aN J (y::x)=V y:=λ{x y}=>(by cases y<;>rfl);have k7:=@r7A;simp only[qz 4,qy 6,eS,c1,J9];refine baS ap h1 λa1 E F s8 X8 bm=>?_;have bo:=X8.len.trans ap;have am:=X8.kq c1;have a9:=X8.kq b3;simp only[nS,bQ,qz 8,qy 10,eS,am,J9];refine apV (bA:=[]) (e:=2) (z:=1) (new:=s.cells.map ci) (.inl ⟨A,A⟩) A rfl H Z O fF NA λC s9 g4 F9 P9=>?_;simp only[dW] at g4;have B:Fx s8 s9 []:=F9.mono aBY;have ah:∀q∈aA C,bK s8 q/\q.1=11:=bkb;have bp:=B.len.trans bo;have an:=B.kq am;have ba:=B.kq a9;simp only[qz 12,eS,an,J9];refine apV (bA:=[]) (e:=2) (z:=1) (new:=s.bU.map ci) (.inl ⟨A,A⟩) A rfl H Z O fF NA λD aw g5 aU cc=>?_;simp only[dW] at g5;have o:Fx s9 aw []:=aU.mono aBY;have G:∀q∈aA D,bK s9 q/\q.1=15:=bkb;have R:=o.len.trans bp;have aG:=o.kq an;have aE:=o.kq ba;have bc:=g4.fx o O;have bj:bM bsF aon [(0, .a [a1,iv s.cw.tx,E,F]),(1,C),(2,D)]=V (.a [a1,iv s.cw.tx,E,F,C,D, .l [] U U]):=(by rcases g4 with⟨_,rfl⟩|⟨q4,m4,rfl,_⟩<;>rcases g5 with⟨_,rfl⟩|⟨q5,m5,rfl,_⟩<;>rfl);simp only[qz 14,qy 16,bj,aY];refine pz R λv3 b7 ax aW aD=>?_;refine yv aD A rfl λbu az a6=>?_;have w:Fx aw bu []:=(ax.trans az).mono aUw;have aJ:=w.kq aG;have aF:=w.kq aE;have aK:=bc.fx w O;have aM:=g5.fx w O;have aQ:=w.len.trans R;have X3:Kx [10,12,14,31,41] Y s3:=((F2.trans F3).kx O);have M:=X3.kx X8 O;have al:=(M.fx B O).fx o O;have aZ:=al.fx w O;have ar:∀{q:Id},q∈aA C->q.1=11/\∀x,box Y q≠V x:=λ{q} d=>⟨(ah q d).2,M.no X (ah q d).1.no⟩;have av:∀{q:Id},q∈aA D->q.1=15/\∀x,box Y q≠V x:=λ{q} d=>⟨(G q d).2,(M.fx B O).no X (G q d).1.no⟩;have cg:=al.no O aW.no;have cf:=(F2.kx (ks:=[]) O).no O N3.no;simp only[qz 18];refine dT ?_ ?_;have h4:3∉aNG C:=λh=>(by rcases SlR.keys (P:=λp=>p=11) (.of g4) X with e|⟨p,e,e'⟩<;>rw[e] at h<;>simp at h;omega);have h5:3∉aNG D:=λh=>(by rcases SlR.keys (P:=λp=>p=15) (.of g5) X with e|⟨p,e,e'⟩<;>rw[e] at h<;>simp at h;omega);have h0:3∉aNG (.a [a1,iv s.cw.tx,E,F]):=X;generalize AV.a [a1,iv s.cw.tx,E,F]=b0 at h0⊢;simp[eL,lb,Cz,aTn,a6H,bc7];grind;refine yV (L s.ay) (λk _ x=>∃a f,L x=4096/\box x (1,v1)=V ⟨145,7,U,U,[s.c]⟩/\box x (2,v2)=V ⟨145,7,U,U,[bsF]⟩/\box x (3,v3)=V ⟨145,7,U,U,[[a1,iv s.cw.tx,E,F,C,D,a]]⟩/\J7 x 2 1 C (s.cells.map ci)/\J7 x 2 1 D (s.bU.map ci)/\TTs (12,31,33) I x a f s.ay k/\Kx [10,12,14,31,41] Y x/\∀q∈aA a,∀y,box Y q≠V y) ⟨.l [] U U,λ_=>(.u, .u),aQ,aJ,aF,a6,aK,aM,⟨.inl ⟨A,A⟩,O,O,O,O,O,O⟩,aZ,aBY⟩ ?_;rintro k _ x hk ⟨a,f,aq,m1,m2,m3,ga,gb,T,Xq,na⟩;simp only[qz 25,qy 28,au,eT,m1,m3,J9,k1,k7,ixv,bh];refine⟨λh=>?_,λh=>?_⟩;have S:=aL h;refine⟨dJ S,?_⟩;obtain⟨q1,q2,q3⟩:=h5 _<|dB S;show cV 291 [.a [iv (gd s.ay k).pc,sl ci (gd s.ay k).aO6,sl cl (gd s.ay k).aPe,iv (gd s.ay k).ac]] _ _ _;refine baT aq A rfl q1 q2 q3 (aPi f k) (λp hp=>?_) (λp hp=>?_) λx1 x2 y G1 ag Y aa P1 P2=>?_;obtain⟨j,m,h|h⟩:=aXS hp;exact⟨_,_,_,_,T.g1 j m,h⟩;exact⟨_,_,_,_,T.g2 j m,h⟩;obtain⟨j,m,h|h⟩:=aXS hp;exact .inl<|T.p1 j m p h;exact .inr<|T.p2 j m p h;have Ty:TTs (12,31,33) I y a f s.ay k:=⟨T.bx.elim .inl λ⟨b,h1,h2,N⟩=> .inr ⟨b,h1,h2,Y.keep _ _ (by simp[h2]) N⟩,λj m=>aa (T.g1 j m)<|aWy m,λj m=>aa (T.g2 j m)<|aWz m,T.p1,T.p2,T.d1,T.d2⟩;have bq:=Y.len.trans aq;have o1:=Y.kq m1;have o2:=Y.kq m2;have o3:=Y.kq m3;have be:=Y.gr ga λq d=>(by simp[(ar d).1]);have bg:=Y.gr gb λq d=>(by simp[(av d).1]);have Xy:=Xq.kx Y O;simp only[qz 20,qy 22];refine a7Q Ty A rfl Z A Z H Z A rfl G1 ag P1 P2 λz a' bv hz K g aX=>?_;obtain⟨vz,rfl⟩:=hz;have bY:∀q∈aA a,q.1=33:=T.ids;have o4:=g.keep _ _ X o3;simp only[qz 24,eS,o4];refine A0 o4 K.ce O λch v a8=>?_;simp only[qz 26];refine dT ?_ ?_;have hx:∀j∈aNG (.a [iv (gd s.ay k).pc,x1,x2,iv (gd s.ay k).ac]),j=12\/j=31:=λj m=>(by have e:aNG (.a [iv (gd s.ay k).pc,x1,x2,iv (gd s.ay k).ac])=dK x1++dK x2:=btm;rw[e] at m;rcases dF.1 m with h|h;obtain⟨q,d,rfl⟩:=aQu G1 h;grind;obtain⟨q,d,rfl⟩:=aQu ag h;grind);have N:3∉aNG (.a [iv (gd s.ay k).pc,x1,x2,iv (gd s.ay k).ac]):=X;generalize AV.a [iv (gd s.ay k).pc,x1,x2,iv (gd s.ay k).ac]=b0 at N⊢;simp[eL,lb,Cz,aTn,N];simp only[au,eQ];have W:∀{b:Id},b.1≠33->b∉aA a:=X;refine dR (mk:=λ(_:Unit) i=>[iv i]) (s:=()) (s':=()) (λ_ _=>A) S Z ⟨a',_,(v.len.trans g.len).trans bq,v.kq<|g.keep _ _ (W O) o1,v.kq<|g.keep _ _ (W O) o2,a8,(be.fx g X).fx v λq d e=>?_,(bg.fx g X).fx v λq d e=>?_,K.fx v O,(Xy.fx g X).fx v λq d=> .inr (by simp at d;grind),λq d=>Xy.no (by rw[K.ids q d];decide)<|aX q d⟩;simp at e;grind;simp at e;grind;have bl:k=L s.ay:=X;subst bl;refine yv m2 A rfl λbv g a7=>?_;simp only[a7,a6X,qh,df,k7,aY];refine⟨a1,E,F,C,D,a,f,A,bm,ga.fx g λq d e=>?_,gb.fx g λq d e=>?_,T.fx g O,(by grind [Kx.fx]),λq d=>ar d,λq d=>av d,na⟩;grind;grind
def a7F:dO:=aYd
def aX6:eJ a7F:=a7n
def aWl:=@bcx
section
attribute[local irreducible] aX
def a9M:=I9 14 [(6,([5],[2,3]))]
def bhl{c0 b}:=y2 150 7 2 145 7 3 aX6 func288 a9M c0 b [.a c0, .a b]
def a9L:=I9 24 [(7,([4],[1,2,3])),(13,([5],[1,2,3])),(19,([6],[1,2,3]))]
def bhj{c0}:=y1 150 7 1 aX6 func124 a9L c0 [.a c0]
end
end Go.Ab
