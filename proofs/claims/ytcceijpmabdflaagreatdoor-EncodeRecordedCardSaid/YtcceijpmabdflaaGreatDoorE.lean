/- Part of the proof of EncodeRecorded. -/
import Derived.Test.YtcceijpmabdflaaGreatDoorD
set_option linter.all false
set_option maxRecDepth 100000
open And renaming intro->ai
open Bool renaming and_eq_false_iff->bik,and_eq_true->bN,and_false->bsm,and_true->ru,false->I,false_eq_true->eE,not_eq_false'->fK,not_eq_true'->eH,not_false->kN,not_true->fh,or_eq_false_iff->cP,true->U,true_eq_false->sr
open Decidable renaming decide->Q,not_not->aNS
open Go.IntKind renaming i64->dq
open Go.Proofs.Tryz renaming prog->aS
open Go.Value renaming bool.injEq->mV,int.injEq->mW,string.injEq->mX
open Int renaming toNat_natCast->bh,toNat_zero->Gx
open List renaming all_cons->Cs,all_eq_true->dV,all_nil->aqG,append_assoc->bje,append_nil->cL,cons.injEq->kO,cons_append->zn,drop->aOz,drop_succ_cons->nM,drop_zero->J3,flatMap_cons->Cz,flatMap_nil->RN,foldl_nil->aRl,getElem?_append_left->xe,getElem?_cons_zero->qh,getElem?_eq_getElem->eC,getElem?_map->bj9,getElem_of_mem->ou,length->L,length_append->a6G,length_cons->bZ,length_map->bJ,length_nil->aO1,map_append->dg,map_congr_left->ja,map_cons->ji,map_map->vA,map_nil->mU,map_set->vB,mem_append->dF,mem_cons->eW,mem_map->dN,mem_range->fq,mem_singleton->cE,nil_append->dW,nodup_append->xl,not_mem_nil->ql,range->aH,range_succ->qn,replicate->er,set_eq_take_append_cons_drop->GP,take_length->gV,take_succ_eq_append_getElem->iJ,take_zero->CE
open Nat renaming eq_zero_or_pos->oD,le_refl->dA,le_trans->gl,lt_of_lt_of_le->bkb,mul_le_mul_right->qo,succ_mul->tN,zero_add->aj
open Option renaming bind_some->aQd,map_some->df,none->J,some->V,some.injEq->bE
open Prod renaming mk.injEq->iK
namespace Go.Ab
open Go Go.RowKit Go.Proofs
def brQ(ns:List aH8)(w:gz):List (List Int):=bqD ns w++oH ns w++sN ns w (aR ns 5)++rJ ns w
def yc(w:gz)(u:Int)(l:List Int):L (fg w u l)<=L l:=by unfold fg bqV;have h:=jo (f:=λn=>fw (lm w u n)<|L w.ac) (m:=1) (l:=l.take<|L l) (by grind [Er]);simp_all
theorem KI{w:gz}(h:xv w){k:Nat}(b:k<L w.ac):L (gd w.ac k).dI<=2000/\L (gd w.ac k).ep<=2000:=by have i:∀x,x∈(gd w.ac k).dI\/x∈(gd w.ac k).ep-> -1000<=x/\x<=1000:=λx d=>⟨(h.rd k b x d).1,(h.rd k b x d).2.1⟩;have c:=(h.wo.wo.en k b).2;simp only[be3,bip,eH,cP,fK,yp] at c;obtain⟨_,_,_,_,⟨f,g⟩,_⟩:=c;constructor;rcases oD (L (gd w.ac k).dI) with a|a;omega;have e:=yq f (L (gd w.ac k).dI-1) (by omega);grind [asq];rcases oD (L (gd w.ac k).ep) with a|a;omega;have e:=yq g (L (gd w.ac k).ep-1) (by omega);grind [asq]
structure VW(w:gz):Prop where
 hf:hU w
 hv:bcV w=U
 ps:xv w
 wv:WV w
 ln:L (cw w)<2000
 l5:L (aR (cw w) 5)<=320
 nt:L w.aQ.ay<=4
 it:L w.init.gp.ay=L w.aQ.ay
 th:∀k,k<L w.ac->aF (L w.aQ.ay) (gd w.ac k).aq
 hp:∀r:Nat,r<L w.ac->((gd w.ac r).kind=23->aF (L w.init.gp.done) (gd w.ac r).f8/\aF (L w.init.bU) (gd w.ac r).f8)/\((gd w.ac r).kind=3->aF (L w.init.cells) (gd w.ac r).f8)
def vw{w:gz}(d:hU w)(a:bcV w=U):VW w:=by have s:=anT d a;have b:=vd d a;obtain⟨v,x,y,i,t⟩:=Bx a;obtain⟨fc,fl,z,e⟩:=iY i;have n:=b.th;have g:=(aQA a).1;simp only[oh,cP,fK,aNK] at g;have o:=g.1.1.1.1.2;simp only[fN,bN,yp] at o;have c:=Bq a 0<|Nat.zero_le _;have p:∀k,k<L w.ac->aF (L w.aQ.ay) (gd w.ac k).aq:=λk j=>(b.wo.named j).2;have m:=anE b.wo.ev (show L w.init.gp.ay<=4 by omega);refine⟨d,a,s,⟨b.wo,λk j=>?_,(by simp_all),λu B=>?_,by omega,⟨fl,by have:=c.lo;grind [cY]⟩,λl q=>?_⟩,m.1,by rw[Qf];exact m.2,n,e,p,λr A=>⟨λh=>?_,λh=>?_⟩⟩;grind [KI];grind [xv.ct,ii];have f:=c.rd l q;have:=AC f.1 f.2;omega;grind [oU,kB.named,vL.wo];grind [qP,kB.named,vL.wo]
section
variable{w:gz}{ns:List aH8}
theorem KB(e:L w.ac<=16):L (bqD ns w)<=1000:=by
 have a:=bhO (f:=jy ns<|L w.ac) (c:=16) (λx=>by
  have:=bhO (f:=my ns x) (c:=1) (by grind [my])<|L w.ac
  unfold jy;omega) (L w.ac)
 have b:=bhO (f:=kY ns w) (c:=2) (by grind [kY])<|L w.ac
 have d:=bhO (f:=mA ns w) (c:=2) (by grind [mA])<|L w.ac
 grind [bqD]
theorem axl{s:List bp}(h:L s<=100):L (rL ns s)<=40000:=by
 have:=bhO (f:=mw ns s) (c:=400) (λi=>by
  have a:=bhO (f:=λj=>iA ns (gd s i)<|gd (s.drop<|i+1) j) (c:=4) (λj=>axk)<|L<|s.drop<|i+1
  grind [mw]) (L s)
 unfold rL;omega
theorem btz(a:VW w)(k:Nat)(c:k<=L w.aQ.ak+1):L ((aH k).flatMap<|pE ns w)<=200000:=by have h:=jo (f:=pE ns w) (m:=40000) (l:=aH k) λi b=>axl (Q6 a.hf a.hv ⟨by omega,by have:=fq.1 b;omega⟩);have:=a.wv.lk.2;grind
theorem Kz{l:List aH8}(a:L l<=320)(b:L w.ac<=16):L (sN ns w l)<=400000:=by
 have m1:=bhO (f:=λk=>iW ns<|gd l k) (c:=3) (by grind [iW])<|L l
 have d:=bhO (f:=lP ns l) (c:=320) (λk=>gl (bhO (f:=λj=>ju ns (gd l k)<|gd (l.drop<|k+1) j) (c:=1) (by grind [ju]) _)<|by simp;omega)<|L l
 have e:=bhO (f:=lQ ns w l) (c:=320) (λk=>gl (bhO (f:=λj=>jk ns w (gd l k)<|gd (l.drop<|k+1) j) (c:=1) (by grind [jk]) _)<|by simp;omega)<|L l
 have g:=bhO (f:=λk=>nT ns w l<|gd l k) (c:=321) (by grind [alM])<|L l
 have h:=bhO (f:=ng ns w l) (c:=321) (λk=>by
  unfold ng
  split
  ·have:=bhO (f:=iO ns k (bh0 w k).1 l) (c:=1) (by grind [iO])<|L l
   grind
  ·simp) (L w.ac)
 grind [sN]
theorem KA(a:VW w)(k:Nat)(q:k<=L w.ac):L ((aH k).flatMap<|bqN ns w)<=1000000:=by have u:=a.wv.ok.ev;have h:=jo (f:=bqN ns w) (m:=60000) (l:=aH k) λr t=>(by unfold bqN;split;have e:=jo (f:=λj=>iP ns w r<|gd (dx w r) j) (m:=2020) (l:=aH<|L<|dx w r) λj d=>(by have hs:=(Kt<|asq<|fq.1 d).2;generalize gd (dx w r) j=s at hs⊢;unfold iP;rw[a6G];have g:L (kD ns w r s)<=2002:=(by unfold kD;split;rename_i b;have i:=bhO (f:=pD ns r s<|fg w (gd w.ac s.toNat).aq (gd w.ac s.toNat).ep) (c:=1) (λj=>by simp[pD])<|L<|fg w (gd w.ac s.toNat).aq (gd w.ac s.toNat).ep;have n:=yc w (gd w.ac s.toNat).aq (gd w.ac s.toNat).ep;have o:=(KI a.ps (k:=s.toNat) (by have:=(hs b).1.1;have:=(hs b).1.2;omega)).2;simp only[a6G,bZ,aO1];omega;simp);have p:=bhO (f:=bpl ns w r s) (c:=1) (by grind [bpl])<|L w.ac;omega);grind [vU];simp);grind
theorem Kw(a:VW w):L ((aH<|L w.ac).flatMap<|kX ns w)<=40000:=by have n:=a.wv.ok.ev;have h:=jo (f:=kX ns w) (m:=2000) (l:=aH<|L w.ac) λi b=>(by have d:=bhO (f:=qv ns i<|fg w (gd w.ac i).aq (gd w.ac i).dI) (c:=1) (λj=>by simp[qv])<|L<|fg w (gd w.ac i).aq (gd w.ac i).dI;have e:=yc w (gd w.ac i).aq (gd w.ac i).dI;have g:=(KI a.ps (k:=i)<|fq.1 b).1;unfold kX;omega);grind
def Kv(a:VW w)(b:L (aR ns 5)<=320):L (brQ ns w)<=2000000:=by have c:=KB (ns:=ns) a.wv.ok.ev;have d:=btz (ns:=ns) a (L w.aQ.ak+1)<|dA _;have e:=Kz (ns:=ns) (w:=w) b a.wv.ok.ev;have f:=KA (ns:=ns) a (L w.ac)<|dA _;have g:=Kw (ns:=ns) a;simp only[brQ,rJ,oH,a6G];omega
end
section
variable{Y:ae}
theorem ank{w:gz}(d:VW w)(hl:L Y=4096):∃r z,(∃b n m a i j f,r= .p b 0 0/\wl z b w (cw w) (brQ (cw w) w) n m a i j f/\Fx Y z []/\ig Y b)/\cZ aS GG 32 [.a w.c] Y r z:=by refine aJ5 hl rfl λs2 v1 K2 aG nf O=>?_;have x:Fx Y s2 []:=K2.fx [];have ab:L s2=4096:=x.len.trans hl;have r15:aN (V 15) w.c=V (.a w.c):=rfl;have e:=d.wv.ok.ev;have aE:=d.ln;have aF:=d.wv.lk.2;have M:jb w (cw w):=anG (by omega);have D:=an6 d.ps d.hf;have S:GU w (cw w):=aId e;have Wk:sE w (cw w):=Rq e d.wv.ts;have ad:=d.l5;have q1:=KB (ns:=cw w) e;have q3:=Kz (ns:=cw w) (w:=w) ad e;have q4:=KA (ns:=cw w) d (L w.ac)<|dA _;have q6:=Kw (ns:=cw w) d;have q2:=λk X=>btz (ns:=cw w) d k X;simp only[bt8,qy 4,u0,u1,O,r15];refine jH rfl (aCA ab d.hv d.hf aEm<|by omega) ?_;rintro r3 Y3 ⟨b,n,m,i,j,f,rfl,C3,y,Nb,_,_⟩;refine⟨y.len,?_⟩;have P:=y.kq O;have T:((1,v1):Id)≠b:=(by grind [wl.sb]);generalize cw w=ns at*;refine aEh C3 M d.th e (by grind) λa4 Y4 C4 A4=>?_;have R:=A4.keep P T (by simp[aA]);simp only[qz 6,u0,u1,R,rk,aj];refine yV (L w.aQ.ak) (λk _ Y'=>∃G,wl Y' b w ns (bqD ns w++(aH k).flatMap (pE ns w)) n m G i j f/\Ad Y3 Y' b (.l [] U U) G) (by grind) ?_;rintro k _ Y5 X ⟨a5,g,E⟩;have aJ:=q2 k (by omega);simp only[qz 31,au,aI,u0,u1];refine⟨λh=>?_,λh=>?_⟩;have o:=aL h;refine aEf g d.hf d.hv (dJ o) λt=>?_;simp only[qz 8];refine bsi rfl (anl g M (by grind [Q6,VW.hf,VW.hv]) (by grind [anV,VW.hf,VW.hv])<|by grind) λK Y6 v u=>?_;simp only[qz 10,au,u0,u1];refine yU o ⟨K,?_,E.trans u⟩;rw[aNG,<-bje];exact v;have Z:k=L w.aQ.ak:=(by grind);subst Z;have s:=q2 (L w.aQ.ak+1)<|dA _;rw[aNG,a6G] at s;have W:pE ns w (L w.aQ.ak)=rL ns (jE w.aQ w.init.gp w.ac<|L w.aQ.ak):=rfl;rw[W] at s;refine aEk g d.hf d.hv λt=>?_;simp only[qz 12,qy 14];refine bsi rfl (anl g M (by grind [Q6,VW.hf,VW.hv]) (by grind [anV,VW.hf,VW.hv])<|by grind) λK Y6 v u=>?_;refine bsi rfl (aDJ v M Wk e<|by grind) λa7 Y7 C7 A7=>?_;simp only[qz 16,qy 18];have hN:sN ns w (aR ns 5)=(((aH<|L<|aR ns 5).flatMap λk=>iW ns<|gd (aR ns 5) k)++((aH<|L<|aR ns 5).flatMap (lP ns<|aR ns 5)++((aH<|L<|aR ns 5).flatMap (lQ ns w<|aR ns 5)++((aH<|L<|aR ns 5).flatMap λk=>qw ns w<|gd (aR ns 5) k))))++(aH<|L w.ac).flatMap (bru ns w):=(by simp only[sN,bje];rfl);rw[hN,a6G] at q3;generalize(((aH<|L<|aR ns 5).flatMap λk=>iW ns<|gd (aR ns 5) k)++((aH<|L<|aR ns 5).flatMap (lP ns<|aR ns 5)++((aH<|L<|aR ns 5).flatMap (lQ ns w<|aR ns 5)++((aH<|L<|aR ns 5).flatMap λk=>qw ns w<|gd (aR ns 5) k))))=N at*;refine bsi rfl (aDv C7 M Wk d.th d.it d.nt e<|by grind) λa8 Y8 C8 A8=>?_;refine bsi rfl (aDV C8 M D S d.th e<|by grind) λa9 Y9 C9 A9=>?_;simp only[qz 20,qy 22];refine aEd C9 M D d.th e (by grind [a6G]) λH aD F C=>?_;have A:=((((E.trans u).trans A7).trans A8).trans A9).trans C;have B:brQ ns w=bqD ns w++(aH<|L w.aQ.ak).flatMap (pE ns w)++rL ns (jE w.aQ w.init.gp w.ac<|L w.aQ.ak)++N++(aH<|L w.ac).flatMap (bru ns w)++(aH<|L w.ac).flatMap (bqN ns w)++(aH<|L w.ac).flatMap (kX ns w):=(by simp_all [brQ,oH,aNG,rJ]);rw[B];refine⟨b,n,m,H,i,j,f,rfl,F,((x.trans y).trans A.fx).mono λq hq=>?_,Nb.old x⟩;simp only[dW,aA,cE] at hq;grind [ig.no,ig.old]
end
def apz:dO:=apy
def Ri:eJ apz:=aph
def Ld:=@aBq
def bzj a b R:=(.mk _:NR apz auF Tryz.f13 [.u] [a] b R).p
def aJ2{c0:List AV}{R:j4}(l0:L c0=15)(h:H1 43 15 1 c0 λia b=>bzj ia b R):Ct 13 [.a c0] R:=z1 auF Ri Tryz.func13 l0 h
def vZ(w:gz)(a:List<|List Int):br6:=⟨L w.ac,L<|cw w,lL<|cw w,a⟩
def Em{Y:ae}{p v:Nat}{zs:List AV}{a1 a:AV}{w:gz}{d:List (List Int)}{R:j4}(m:box Y (p,v)=V ⟨54,4,U,U,[zs]⟩)(K:L zs=4)(g1:bc Y 86 3 a1<|(lL<|cw w).map bqR.c)(g:bc Y 38 1 a<|d.map λc=>[sl ci c])(n:∀ds,Lk ds (vZ w d).c->R (.a ds)):sV (aK 4 Y (.p (p,v) 0 0)<|.a [iv<|L w.ac,iv<|L<|cw w,a1,a]) λs=>rV (vp (V 4) s<|.p (p,v) 0 0) λt=>aE R s [t]:=by have j:∀{x y x2 k:AV},aN (V 4) [x,y,x2,k]=V (.a [x,y,x2,k]):=rfl;refine cy (y:=4) (cs:=[iv<|L w.ac,iv<|L<|cw w,a1,a]) m rfl rfl (by omega) λb f F=>?_;have h:box b (p,v)=V ⟨54,4,U,U,[[iv<|L w.ac,iv<|L<|cw w,a1,a]]⟩:=(by simp_all);have i:∀{e:TypeId} {z:Nat} {x:AV} {bA:List (List AV)},bc Y e z x bA->∀q∈aA x,q∉[((p,v):Id)]:=(by intro e z x bA o q r G;rcases o with⟨_,rfl⟩|⟨E,rfl,H⟩;simp[aA] at r;grind [aA]);obtain⟨t1,o1,B⟩:=(g1.fx f<|i g1).frD;obtain⟨D,A,C⟩:=(g.fx f<|i g).frD;simp only[u1,h,u0,j];have u:jS b [.a [iv<|L w.ac,iv<|L<|cw w,a1,a]]= .a [iv<|L w.ac,iv<|L<|cw w, .l ((lL<|cw w).map bqR.c) t1 o1, .l (d.map λc=>[sl ci c]) D A]:=(by show AV.a [dQ b<|iv<|L w.ac,dQ b<|iv<|L<|cw w,dQ b a1,dQ b a]=_;rw[B,C];rfl);unfold aE;rw[u];exact⟨rfl,n _ ⟨rfl,rfl⟩⟩
def NN(w:gz)(s:bcV w=U/\hU w):Ct 13 [.a w.c] (λr=>∃ds,r= .a ds/\Lk ds (vZ w<|brQ (cw w) w).c):=by refine aJ2 rfl λD l p A=>?_;obtain⟨m,k⟩:=s;have d:=vw k m;have r15:aN (V 15) w.c=V (.a w.c):=rfl;simp only[bzj];refine ic l λF E e t q=>?_;have j:=e.kq p;simp only[qz 4,qy 6,qy 8,u0,u1,j,r15,ar,Ld,m,k,aOe,eE,aQ6,be8];refine jH rfl (ank d<|e.len.trans l) ?_;rintro B v ⟨b,n,G,a,y,z,f,rfl,o,h,u⟩;refine⟨h.len,?_⟩;refine jH rfl (anm o (by have:=d.ln;omega)) ?_;rintro C x ⟨a1,rfl,g1,g,i⟩;refine⟨i.len,?_⟩;simp only[qz 10,qy 12];exact Em ((h.trans i).kq q) rfl g1 g (by simp)
def E1:FT:=om NN
def ax0{w Lw K}:=f111 E1 NN w Lw K
structure bxT(w:gz)(g:cJ):Prop where
 h1:g.kind=1->aF (L w.ac) g.ea/\aF (L w.ac) g.eb
 h2:g.kind=2->(∀e∈g.cW,aF (L w.ac) e)/\L g.cW<=4
 h3:g.kind=3->aF (L w.ac) g.ea/\aF (L w.ac) g.eb/\g.ea≠g.eb
 h4:g.kind=4->aF (L w.ac) g.ea/\aF (L w.ac) g.eb/\aF (L w.ac) g.ec/\aF (L w.ac) g.ed/\g.ea≠g.ec
def apB:dO:=(13,E1)::apz
def Rj:eJ apB:=ve (rj NN)<|Ri
def amo:=ai @ax0<|@Ld

section
variable{Y:ae}{b:Id}{w:gz}{ns:List aH8}{out:List (List Int)}{n a:AV}{d:Nat}{K:be}
end
def apC:dO:=apB
def Rk:eJ apC:=Rj
def fsR:=@amo
section
attribute[local irreducible] aX
def a1q a s0 R:=(.mk _:NR apC auF Tryz.f311 [a] [] s0 R).p
def bgS{a:AV}{R:j4}(h:H0 λs0=>a1q a s0 R):Ct 311 [a] R:=z0 auF Rk Tryz.func311 h
def a9i:=lA 8 [(5,([5],[]))]
def a1m a a1 s0 R:=(.mk _:NR apC a9i Tryz.f294 [a,a1] [] s0 R).p
def bgQ{a a1:AV}{R:j4}(h:H0 λs0=>a1m a a1 s0 R):Ct 294 [a,a1] R:=z0 a9i Rk Tryz.func294 h
def a1M a s0 R:=(.mk _:NR apC at1 Tryz.f262 [a] [] s0 R).p
def bgW{a:AV}{R:j4}(h:H0 λs0=>a1M a s0 R):Ct 262 [a] R:=z0 at1 Rk Tryz.func262 h
def a2y a a1 s0 R:=(.mk _:NR apC at1 Tryz.f232 [a,a1] [] s0 R).p
def bg7{a a1:AV}{R:j4}(h:H0 λs0=>a2y a a1 s0 R):Ct 232 [a,a1] R:=z0 at1 Rk Tryz.func232 h
def a2D a a1 s0 R:=(.mk _:NR apC atS Tryz.f241 [a,a1] [] s0 R).p
def bg9{a a1:AV}{R:j4}(h:H0 λs0=>a2D a a1 s0 R):Ct 241 [a,a1] R:=z0 atS Rk Tryz.func241 h
def a9l:=lA 10 [(3,([5],[1,2]))]
def a1r a a1 b R:=(.mk _:NR apC a9l Tryz.f304 [.u,a1] [a] b R).p
def bgT{c0:List AV}{a1:AV}{R:j4}(l0:L c0=6)(h:H1 31 6 2 c0 λia b=>a1r ia a1 b R):Ct 304 [.a c0,a1] R:=z1 a9l Rk Tryz.func304 l0 h
def a9n:=lA 21 [(3,([5],[1,4])),(8,([13],[1,4])),(15,([37],[1,4]))]
def a1F a b R:=(.mk _:NR apC a9n Tryz.f192 [.u] [a] b R).p
def bgV{c0:List AV}{R:j4}(l0:L c0=6)(h:H1 264 6 1 c0 λia b=>a1F ia b R):Ct 192 [.a c0] R:=z1 a9n Rk Tryz.func192 l0 h
def a24 a s0 R:=(.mk _:NR apC auF Tryz.f296 [a] [] s0 R).p
def bhe{a:AV}{R:j4}(h:H0 λs0=>a24 a s0 R):Ct 296 [a] R:=z0 auF Rk Tryz.func296 h
def aVt b R t1 a:=aU b (iv 6) λt3=>bX t3 b λf=>aC t3 (aO .gtr f<|iv 28) λg=>aD t3 (bv U) g λh=>ah h (aE R a [iv 0]) (aO .sub b (iv 6) λc=>ao 1 a t1 c λd=>aM a d λe=>aE R a [e])
def aVs a s0 R:=eV (aX bH 23 s0 [(0,iv 3),(1,iv 3),(2,iv 4),(3,iv 4),(4,iv 5),(5,iv 6),(6,iv 7),(7,iv 8),(8,iv 9),(9,iv 10),(10,iv 11),(11,iv 12),(12,iv 13),(13,iv 14),(14,iv 15),(15,iv 16),(16,iv 18),(17,iv 19),(18,iv 20),(19,iv 21),(20,iv 22),(21,iv 23),(22,iv 2)])<|aVt a R
def bhn{a:AV}{R:j4}(h:H0 λs0=>aVs a s0 R):Ct 264 [a] R:=z0 asK Rk Tryz.func264 h
def a0p a a1 s0 R:=(.mk _:NR apC atS Tryz.f270 [a,a1] [] s0 R).p
def bgB{a a1:AV}{R:j4}(h:H0 λs0=>a0p a a1 s0 R):Ct 270 [a,a1] R:=z0 atS Rk Tryz.func270 h
def a0C a a1 s0 R:=(.mk _:NR apC atS Tryz.f271 [a,a1] [] s0 R).p
def bgG{a a1:AV}{R:j4}(h:H0 λs0=>a0C a a1 s0 R):Ct 271 [a,a1] R:=z0 atS Rk Tryz.func271 h
def a8V:=lA 9 []
def a0e a s0 R:=(.mk _:NR apC a8V Tryz.f318 [a] [] s0 R).p
def bgt{a:AV}{R:j4}(h:H0 λs0=>a0e a s0 R):Ct 318 [a] R:=z0 a8V Rk Tryz.func318 h
def a0l a b R:=(.mk _:NR apC at1 Tryz.f313 [.u] [a] b R).p
def bgy{c0:List AV}{R:j4}(l0:L c0=4)(h:H1 272 4 1 c0 λia b=>a0l ia b R):Ct 313 [.a c0] R:=z1 at1 Rk Tryz.func313 l0 h
def a0S a a1 s0 R:=(.mk _:NR apC auF Tryz.f300 [a,a1] [] s0 R).p
def bgK{a a1:AV}{R:j4}(h:H0 λs0=>a0S a a1 s0 R):Ct 300 [a,a1] R:=z0 auF Rk Tryz.func300 h
def a0R a s0 R:=(.mk _:NR apC auF Tryz.f303 [a] [] s0 R).p
def bgJ{a:AV}{R:j4}(h:H0 λs0=>a0R a s0 R):Ct 303 [a] R:=z0 auF Rk Tryz.func303 h
def a0c a s0 R:=(.mk _:NR apC at1 Tryz.f196 [a] [] s0 R).p
def bgs{a:AV}{R:j4}(h:H0 λs0=>a0c a s0 R):Ct 196 [a] R:=z0 at1 Rk Tryz.func196 h
def a0a a s0 R:=(.mk _:NR apC at1 Tryz.f280 [a] [] s0 R).p
def bgr{a:AV}{R:j4}(h:H0 λs0=>a0a a s0 R):Ct 280 [a] R:=z0 at1 Rk Tryz.func280 h
def aUG s0 R:=(.mk _:NR apC at1 Tryz.f193 [] [] s0 R).p
def bgk{R:j4}(h:H0 λs0=>aUG s0 R):Ct 193 [] R:=z0 at1 Rk Tryz.func193 h
def aVS s0 R:=(.mk _:NR apC at1 Tryz.f182 [] [] s0 R).p
def bhz{R:j4}(h:H0 λs0=>aVS s0 R):Ct 182 [] R:=z0 at1 Rk Tryz.func182 h
def a9S:=lA 21 [(3,([9],[0,1,2,3])),(11,([10,11,12],[0,1,2,3,9])),(14,([10,11],[0,1,2,3,9,12]))]
def a4p a a1 b c s0 R:=(.mk _:NR apC a9S Tryz.f124 [a,a1,b,c] [] s0 R).p
def bhq{a a1 b c:AV}{R:j4}(h:H0 λs0=>a4p a a1 b c s0 R):Ct 124 [a,a1,b,c] R:=z0 a9S Rk Tryz.func124 h
def aU6 a a1 s0 R:=(.mk _:NS apC atS Tryz.f276 [a,a1] [] s0 R).p
def bg3{a a1:AV}{s0:ae}{R:be}(hs:L s0=4096)(h:aU6 a a1 s0 R):EB 276 [a,a1] s0 R:=zB atS Rk Tryz.func276 h
end
inductive lD where
 |mk(op n:Int)(name:ByteArray)(l:List lD)
def lD.op:lD->Int| .mk a _ _ _=>a
def lD.n:lD->Int| .mk _ a _ _=>a
def lD.name:lD->ByteArray| .mk _ _ a _=>a
def lD.l:lD->List lD| .mk _ _ _ a=>a
instance:Inhabited lD:=⟨.mk 0 0 ⟨#[]⟩ []⟩
mutual
def lD.c:lD->List AV| .mk op n a l=>[iv op,iv n,st a, .l (lD.cr l) I I]
def lD.cr:List lD->List (List AV)|[]=>[]|e::l=>lD.c e::lD.cr l
end
def lD.cr_eq:∀{l:List lD},lD.cr l=l.map lD.c
 |[]=>by simp only[lD.cr,mU]
 |e::l=>by simp only[lD.cr,ji,lD.cr_eq]
def aoH{x:lD}:lD.c x=[iv x.op,iv x.n,st x.name,sl lD.c x.l]:=by cases x;simp only[lD.c,lD.cr_eq,lD.op,lD.n,lD.name,lD.l,sl]
inductive NA where
 |mk(op line:Int)(name arg:ByteArray)(index:List lD)(expr:lD)(body els:List NA)
def NA.op:NA->Int| .mk a _ _ _ _ _ _ _=>a
def NA.line:NA->Int| .mk _ a _ _ _ _ _ _=>a
def NA.name:NA->ByteArray| .mk _ _ a _ _ _ _ _=>a
def NA.arg:NA->ByteArray| .mk _ _ _ a _ _ _ _=>a
def NA.index:NA->List lD| .mk _ _ _ _ a _ _ _=>a
def NA.expr:NA->lD| .mk _ _ _ _ _ a _ _=>a
def NA.body:NA->List NA| .mk _ _ _ _ _ _ a _=>a
def NA.els:NA->List NA| .mk _ _ _ _ _ _ _ a=>a
instance:Inhabited NA:=⟨.mk 0 0 ⟨#[]⟩ ⟨#[]⟩ [] default [] []⟩
mutual
def NA.c:NA->List AV| .mk op e b arg index a d els=>[iv op,iv e,st b,st arg,sl lD.c index,iv a.op,iv a.n,st a.name,sl lD.c a.l, .l (NA.cr d) I I, .l (NA.cr els) I I]
def NA.cr:List NA->List (List AV)|[]=>[]|e::l=>NA.c e::NA.cr l
end
def NA.cr_eq:∀{l:List NA},NA.cr l=l.map NA.c
 |[]=>by simp only[NA.cr,mU]
 |e::l=>by simp only[NA.cr,ji,NA.cr_eq]
def a6X{x:NA}:NA.c x=[iv x.op,iv x.line,st x.name,st x.arg,sl lD.c x.index,iv x.expr.op,iv x.expr.n,st x.expr.name,sl lD.c x.expr.l,sl NA.c x.body,sl NA.c x.els]:=by cases x;simp only[NA.c,NA.cr_eq,NA.op,NA.line,NA.name,NA.arg,NA.index,NA.expr,NA.body,NA.els,sl]
structure w6 where
 kind:Int
 line:Int
 name:ByteArray
 size:Int
 init:Int
 on:ByteArray
 deriving Inhabited
def w6.c(x:w6):List AV:=[iv x.kind,iv x.line,st x.name,iv x.size,iv x.init,st x.on]
structure aO6 where
 name:ByteArray
 line:Int
 locs:List ByteArray
 body:List NA
 deriving Inhabited
def aO6.c(x:aO6):List AV:=[st x.name,iv x.line,sl cs x.locs,sl NA.c x.body]
structure aQl where
 bm0:List w6
 ay:List aO6
 deriving Inhabited
def aQl.c(x:aQl):List AV:=[sl w6.c x.bm0,sl aO6.c x.ay]
structure aNZ where
 op:Int
 a:Int
 b:Int
 k:Int
 n:Int
 site:Int
 deriving Inhabited
def aNZ.c(x:aNZ):List AV:=[iv x.op,iv x.a,iv x.b,iv x.k,iv x.n,iv x.site]
structure aTo where
 y7:Int
 bid:List aNZ
 deriving Inhabited
def aTo.c(x:aTo):List AV:=[iv x.y7,sl aNZ.c x.bid]
structure aBY where
 aQ:J9
 ay:List aTo
 deriving Inhabited
def aBY.c(x:aBY):List AV:=x.aQ.c++[sl aTo.c x.ay]
structure aNQ where
 pc:Int
 y7:List Int
 J6:List (List Int)
 ac:Int
 deriving Inhabited
def aNQ.c(x:aNQ):List AV:=[iv x.pc,sl ci x.y7,sl cl x.J6,iv x.ac]
structure atC where
 gp:aW
 cells:List Int
 bU:List Int
 ay:List aNQ
 deriving Inhabited
def atC.c(x:atC):List AV:=x.gp.c++[sl ci x.cells,sl ci x.bU,sl aNQ.c x.ay]
structure aOx where
 aQ:J9
 ac:List aP
 deriving Inhabited
def aOx.c(x:aOx):List AV:=x.aQ.c++[sl aP.c x.ac]
def aN9{x:lD}:L (lD.c x)=4:=by rw[aoH];rfl
theorem bit{x:NA}:L (NA.c x)=11:=by rw[a6X];rfl
section
variable{K:j4}{Y:ae}{i:Int}
def bcY{l:List lD}:rV (cz 4 Y (sl lD.c l)<|iv i) K=(aF (L l) i/\K (.q<|lD.c<|gd l i.toNat)):=aBz λ_=>aN9
def bc0{l:List NA}:rV (cz 11 Y (sl NA.c l)<|iv i) K=(aF (L l) i/\K (.q<|NA.c<|gd l i.toNat)):=aBz λ_=>bit
def bcX{l:List w6}:rV (cz 6 Y (sl w6.c l)<|iv i) K=(aF (L l) i/\K (.q<|w6.c<|gd l i.toNat)):=aBz λ_=>rfl
def bc2{l:List aO6}:rV (cz 4 Y (sl aO6.c l)<|iv i) K=(aF (L l) i/\K (.q<|aO6.c<|gd l i.toNat)):=aBz λ_=>rfl
def bcZ{l:List aNZ}:rV (cz 6 Y (sl aNZ.c l)<|iv i) K=(aF (L l) i/\K (.q<|aNZ.c<|gd l i.toNat)):=aBz λ_=>rfl
def bc1{l:List aTo}:rV (cz 2 Y (sl aTo.c l)<|iv i) K=(aF (L l) i/\K (.q<|aTo.c<|gd l i.toNat)):=aBz λ_=>rfl
def bc3{l:List aNQ}:rV (cz 4 Y (sl aNQ.c l)<|iv i) K=(aF (L l) i/\K (.q<|aNQ.c<|gd l i.toNat)):=aBz λ_=>rfl
def aPR{a b:Int}:a6F .rem 0 [] (iv a) (iv b)=if b≠0 then V (iv<|a.tmod b) else J:=by by_cases h:b=0<;>simp[a6F,zP,h]
def a5N{a b:Int}:a6F .quo 0 [] (iv a) (iv b)=if b≠0 then V (iv<|dq.wrap<|a.tdiv b) else J:=by by_cases h:b=0<;>simp[a6F,zP,h]
end
def ixv:=ai @bcY<|ai @bc0<|ai @bcX<|ai @bc2<|ai @bcZ<|ai @bc1<|@bc3
mutual
def a53:∀{x y:lD},lD.c x=lD.c y->x=y
 | .mk a b c d, .mk e f g j,h=>by
  simp only[lD.c,kO,AV.s.injEq,mW,mX,AV.l.injEq,GL,aO5] at h
  obtain⟨rfl,rfl,rfl,h⟩:=h
  rw[a6d h]
def a6d:∀{x y:List lD},lD.cr x=lD.cr y->x=y
 |[],[],_=>rfl
 |[],_::_,h=>by grind [lD.cr]
 |_::_,[],h=>by grind [lD.cr]
 |a::l,b::m,h=>by
  simp only[lD.cr,kO] at h
  rw[a53 h.1,a6d h.2]
end
theorem aOD{x y:lD}:(lD.c x=lD.c y)=(x=y):=aPe ⟨a53,λh=>by rw[h]⟩
def aOZ{l l':List lD}:(sl lD.c l=sl lD.c l')=(l=l'):=(by grind [kL,aOD])
mutual
def a54:∀{x y:NA},NA.c x=NA.c y->x=y
 | .mk a b c d e f g i, .mk k m o p t j u B,h=>by
  simp only[NA.c,kO,AV.s.injEq,mW,mX,AV.l.injEq,GL,aO5,aOZ] at h
  obtain⟨rfl,rfl,rfl,rfl,rfl,v,w,z,A,q,r⟩:=h
  have:f=j:=by
   obtain⟨a,b,c,d⟩:=f;obtain⟨k,m,o,p⟩:=j
   grind [lD.op,lD.n,lD.name,lD.l]
  rw[this,aV9 q,aV9 r]
def aV9:∀{x y:List NA},NA.cr x=NA.cr y->x=y
 |[],[],_=>rfl
 |[],_::_,h=>by grind [NA.cr]
 |_::_,[],h=>by grind [NA.cr]
 |a::l,b::m,h=>by
  simp only[NA.cr,kO] at h
  rw[a54 h.1,aV9 h.2]
end
theorem a6B{x y:NA}:(NA.c x=NA.c y)=(x=y):=aPe ⟨a54,λh=>by rw[h]⟩
def aO0{l l':List NA}:(sl NA.c l=sl NA.c l')=(l=l'):=(by grind [kL,a6B])
structure BF where
 aq:Int
 amt:Int
 deriving Inhabited,DecidableEq
def BF.c(x:BF):List AV:=[iv x.aq,iv x.amt]
theorem aOY{x y:w6}:(w6.c x=w6.c y)=(x=y):=by apply aPe;constructor;intro h;(cases x;cases y);simp only[w6.c,J9.c,aW.c,zn,dW,kO,AV.s.injEq,mW,mV,mX,GL,aO5,amV,aOD,aOZ,aO0] at h;simp only[w6.mk.injEq,J9.ext_iff',aW.ext_iff',sA.ext_iff',bj5];exact h;intro h;rw[h]
def aPj{l l':List w6}:(sl w6.c l=sl w6.c l')=(l=l'):=(by grind [kL,aOY])
theorem aPD{x y:aO6}:(aO6.c x=aO6.c y)=(x=y):=by apply aPe;constructor;intro h;(cases x;cases y);simp only[aO6.c,J9.c,aW.c,zn,dW,kO,AV.s.injEq,mW,mV,mX,GL,aO5,amV,aOD,aOZ,aO0,aOY,aPj] at h;simp only[aO6.mk.injEq,J9.ext_iff',aW.ext_iff',sA.ext_iff',bj5];exact h;intro h;rw[h]
def aPE{l l':List aO6}:(sl aO6.c l=sl aO6.c l')=(l=l'):=(by grind [kL,aPD])
theorem aPC{x y:aQl}:(aQl.c x=aQl.c y)=(x=y):=by apply aPe;constructor;intro h;(cases x;cases y);simp only[aQl.c,J9.c,aW.c,zn,dW,kO,AV.s.injEq,mW,mV,mX,GL,aO5,amV,aOD,aOZ,aO0,aOY,aPj,aPD,aPE] at h;simp only[aQl.mk.injEq,J9.ext_iff',aW.ext_iff',sA.ext_iff',bj5];exact h;intro h;rw[h]
def aQr{l l':List aQl}:(sl aQl.c l=sl aQl.c l')=(l=l'):=(by grind [kL,aPC])
theorem aPX{x y:aNZ}:(aNZ.c x=aNZ.c y)=(x=y):=by apply aPe;constructor;intro h;(cases x;cases y);simp only[aNZ.c,J9.c,aW.c,zn,dW,kO,AV.s.injEq,mW,mV,mX,GL,aO5,amV,aOD,aOZ,aO0,aOY,aPj,aPD,aPE,aPC,aQr] at h;simp only[aNZ.mk.injEq,J9.ext_iff',aW.ext_iff',sA.ext_iff',bj5];exact h;intro h;rw[h]
def aQq{l l':List aNZ}:(sl aNZ.c l=sl aNZ.c l')=(l=l'):=(by grind [kL,aPX])
theorem aQp{x y:aTo}:(aTo.c x=aTo.c y)=(x=y):=by apply aPe;constructor;intro h;(cases x;cases y);simp only[aTo.c,J9.c,aW.c,zn,dW,kO,AV.s.injEq,mW,mV,mX,GL,aO5,amV,aOD,aOZ,aO0,aOY,aPj,aPD,aPE,aPC,aQr,aPX,aQq] at h;simp only[aTo.mk.injEq,J9.ext_iff',aW.ext_iff',sA.ext_iff',bj5];exact h;intro h;rw[h]
def aRT{l l':List aTo}:(sl aTo.c l=sl aTo.c l')=(l=l'):=(by grind [kL,aQp])
theorem aQY{x y:aBY}:(aBY.c x=aBY.c y)=(x=y):=by apply aPe;constructor;intro h;(cases x;cases y);simp only[aBY.c,J9.c,aW.c,zn,dW,kO,AV.s.injEq,mW,mV,mX,GL,aO5,amV,aOD,aOZ,aO0,aOY,aPj,aPD,aPE,aPC,aQr,aPX,aQq,aQp,aRT] at h;simp only[aBY.mk.injEq,J9.ext_iff',aW.ext_iff',sA.ext_iff',bj5];exact h;intro h;rw[h]
def aTm{l l':List aBY}:(sl aBY.c l=sl aBY.c l')=(l=l'):=(by grind [kL,aQY])
theorem aRS{x y:aNQ}:(aNQ.c x=aNQ.c y)=(x=y):=by apply aPe;constructor;intro h;(cases x;cases y);simp only[aNQ.c,J9.c,aW.c,zn,dW,kO,AV.s.injEq,mW,mV,mX,GL,aO5,amV,aOD,aOZ,aO0,aOY,aPj,aPD,aPE,aPC,aQr,aPX,aQq,aQp,aRT,aQY,aTm] at h;simp only[aNQ.mk.injEq,J9.ext_iff',aW.ext_iff',sA.ext_iff',bj5];exact h;intro h;rw[h]
def aWB{l l':List aNQ}:(sl aNQ.c l=sl aNQ.c l')=(l=l'):=(by grind [kL,aRS])
theorem aTl{x y:atC}:(atC.c x=atC.c y)=(x=y):=by apply aPe;constructor;intro h;(cases x;cases y);simp only[atC.c,J9.c,aW.c,zn,dW,kO,AV.s.injEq,mW,mV,mX,GL,aO5,amV,aOD,aOZ,aO0,aOY,aPj,aPD,aPE,aPC,aQr,aPX,aQq,aQp,aRT,aQY,aTm,aRS,aWB] at h;simp only[atC.mk.injEq,J9.ext_iff',aW.ext_iff',sA.ext_iff',bj5];exact h;intro h;rw[h]
def a6C{l l':List atC}:(sl atC.c l=sl atC.c l')=(l=l'):=(by grind [kL,aTl])
theorem aWA{x y:aOx}:(aOx.c x=aOx.c y)=(x=y):=by apply aPe;constructor;intro h;(cases x;cases y);simp only[aOx.c,J9.c,aW.c,zn,dW,kO,AV.s.injEq,mW,mV,mX,GL,aO5,amV,aOD,aOZ,aO0,aOY,aPj,aPD,aPE,aPC,aQr,aPX,aQq,aQp,aRT,aQY,aTm,aRS,aWB,aTl,a6C] at h;simp only[aOx.mk.injEq,J9.ext_iff',aW.ext_iff',sA.ext_iff',bj5];exact h;intro h;rw[h]
def bcS{l l':List aOx}:(sl aOx.c l=sl aOx.c l')=(l=l'):=(by grind [kL,aWA])
theorem a6A{x y:BF}:(BF.c x=BF.c y)=(x=y):=by apply aPe;constructor;intro h;(cases x;cases y);simp only[BF.c,J9.c,aW.c,zn,dW,kO,AV.s.injEq,mW,mV,mX,GL,aO5,amV,aOD,aOZ,aO0,aOY,aPj,aPD,aPE,aPC,aQr,aPX,aQq,aQp,aRT,aQY,aTm,aRS,aWB,aTl,a6C,aWA,bcS] at h;simp only[BF.mk.injEq,J9.ext_iff',aW.ext_iff',sA.ext_iff',bj5];exact h;intro h;rw[h]
def bcR{l l':List BF}:(sl BF.c l=sl BF.c l')=(l=l'):=(by grind [kL,a6A])
def ijv:=ai @aOD<|ai @a6B<|ai @aO0<|ai @aOY<|ai @aPj<|ai @aPE<|ai @aPC<|ai @aPX<|ai @aQq<|ai @aQp<|ai @aQY<|ai @aRS<|ai @aTl<|ai @aWA<|ai @a6A<|@bcR
def ben{x:lD}:aN J (lD.c x)=V (iv x.op):=by rw[aoH];rfl
def beo{x:lD}:aN J ((lD.c x).drop 1)=V (iv x.n):=by rw[aoH];rfl
def bep{x:lD}:aN J ((lD.c x).drop 2)=V (st x.name):=by rw[aoH];rfl
def ber{x:lD}:aN J ((lD.c x).drop 3)=V (sl lD.c x.l):=by rw[aoH];rfl
theorem a69{x:lD}:aN (V 4) (lD.c x)=V (.a<|lD.c x):=by rw[aoH];rfl
def beI{x:NA}:aN J (NA.c x)=V (iv x.op):=by rw[a6X];rfl
def beJ{x:NA}:aN J ((NA.c x).drop 1)=V (iv x.line):=by rw[a6X];rfl
def beL{x:NA}:aN J ((NA.c x).drop 2)=V (st x.name):=by rw[a6X];rfl
def beM{x:NA}:aN J ((NA.c x).drop 3)=V (st x.arg):=by rw[a6X];rfl
def beN{x:NA}:aN J ((NA.c x).drop 4)=V (sl lD.c x.index):=by rw[a6X];rfl
def beO{x:NA}:aN J ((NA.c x).drop 9)=V (sl NA.c x.body):=by rw[a6X];rfl
def beK{x:NA}:aN J ((NA.c x).drop 10)=V (sl NA.c x.els):=by rw[a6X];rfl
def beP{x:NA}:aN (V 4) ((NA.c x).drop 5)=V (.a<|lD.c x.expr):=by rw[a6X,aoH];rfl
def beQ{x:NA}:aN (V 11) (NA.c x)=V (.a<|NA.c x):=by rw[a6X];rfl
def bef{x:w6}:aN J (w6.c x)=V (iv x.kind):=rfl
def beg{x:w6}:aN J ((w6.c x).drop 1)=V (iv x.line):=rfl
def beh{x:w6}:aN J ((w6.c x).drop 2)=V (st x.name):=rfl
def bei{x:w6}:aN J ((w6.c x).drop 3)=V (iv x.size):=rfl
def bej{x:w6}:aN J ((w6.c x).drop 4)=V (iv x.init):=rfl
def bek{x:w6}:aN J ((w6.c x).drop 5)=V (st x.on):=rfl
def bem{x:w6}:aN (V 6) (w6.c x)=V (.a<|w6.c x):=rfl
def beU{x:aO6}:aN J (aO6.c x)=V (st x.name):=rfl
def beV{x:aO6}:aN J ((aO6.c x).drop 1)=V (iv x.line):=rfl
def beW{x:aO6}:aN J ((aO6.c x).drop 2)=V (sl cs x.locs):=rfl
def beX{x:aO6}:aN J ((aO6.c x).drop 3)=V (sl NA.c x.body):=rfl
def beY{x:aO6}:aN (V 4) (aO6.c x)=V (.a<|aO6.c x):=rfl
def bez{x:aQl}:aN J (aQl.c x)=V (sl w6.c x.bm0):=rfl
def beA{x:aQl}:aN J ((aQl.c x).drop 1)=V (sl aO6.c x.ay):=rfl
def beB{x:aQl}:aN (V 2) (aQl.c x)=V (.a<|aQl.c x):=rfl
def bes{x:aNZ}:aN J (aNZ.c x)=V (iv x.op):=rfl
def bet{x:aNZ}:aN J ((aNZ.c x).drop 1)=V (iv x.a):=rfl
def beu{x:aNZ}:aN J ((aNZ.c x).drop 2)=V (iv x.b):=rfl
def bev{x:aNZ}:aN J ((aNZ.c x).drop 3)=V (iv x.k):=rfl
def bew{x:aNZ}:aN J ((aNZ.c x).drop 4)=V (iv x.n):=rfl
def bex{x:aNZ}:aN J ((aNZ.c x).drop 5)=V (iv x.site):=rfl
def bey{x:aNZ}:aN (V 6) (aNZ.c x)=V (.a<|aNZ.c x):=rfl
def beR{x:aTo}:aN J (aTo.c x)=V (iv x.y7):=rfl
def beS{x:aTo}:aN J ((aTo.c x).drop 1)=V (sl aNZ.c x.bid):=rfl
def beT{x:aTo}:aN (V 2) (aTo.c x)=V (.a<|aTo.c x):=rfl
def bBA{x:aBY}:aN J (aBY.c x)=V (sl cA.c x.aQ.cells):=rfl
def bea{x:aBY}:aN J ((aBY.c x).drop 3)=V (sl cs x.aQ.bU):=rfl
def beb{x:aBY}:aN J ((aBY.c x).drop 4)=V (sl cs x.aQ.ay):=rfl
def bec{x:aBY}:aN J ((aBY.c x).drop 6)=V (sl aTo.c x.ay):=rfl
def bed{x:aBY}:aN (V 6) (aBY.c x)=V (.a<|x.aQ.c):=rfl
def bee{x:aBY}:aN (V 7) (aBY.c x)=V (.a<|aBY.c x):=rfl
def beZ{x:aNQ}:aN J (aNQ.c x)=V (iv x.pc):=rfl
def be0{x:aNQ}:aN J ((aNQ.c x).drop 1)=V (sl ci x.y7):=rfl
def be1{x:aNQ}:aN J ((aNQ.c x).drop 2)=V (sl cl x.J6):=rfl
def be2{x:aNQ}:aN (V 4) (aNQ.c x)=V (.a<|aNQ.c x):=rfl
def beC{x:atC}:aN J ((atC.c x).drop 3)=V (sl aoC.c x.gp.ay):=rfl
def beD{x:atC}:aN J ((atC.c x).drop 4)=V (sl ci x.cells):=rfl
def beE{x:atC}:aN J ((atC.c x).drop 5)=V (sl ci x.bU):=rfl
def beF{x:atC}:aN J ((atC.c x).drop 6)=V (sl aNQ.c x.ay):=rfl
def beG{x:atC}:aN (V 4) (atC.c x)=V (.a<|x.gp.c):=rfl
def beH{x:atC}:aN (V 7) (atC.c x)=V (.a<|atC.c x):=rfl
def bpn{x:BF}:aN J (BF.c x)=V (iv x.aq):=rfl
def bpo{x:BF}:aN J ((BF.c x).drop 1)=V (iv x.amt):=rfl
def bpp{x:BF}:aN (V 2) (BF.c x)=V (.a<|BF.c x):=rfl
def aRV{a:AV}{l:List AV}:aN J (a::l)=V a:=rfl
def bfx{α:Type}{a:α}{n:Nat}{l:List α}:aOz (n+1) (a::l)=aOz n l:=rfl
def aRa{α:Type}{l:List α}:aOz 0 l=l:=rfl
def pz:=ai @ben<|ai @beo<|ai @bep<|ai @ber<|ai @a69<|ai @beI<|ai @beJ<|ai @beL<|ai @beM<|ai @beN<|ai @beO<|ai @beK<|ai @beP<|ai @beQ<|ai @bef<|ai @beg<|ai @beh<|ai @bei<|ai @bej<|ai @bek<|ai @bem<|ai @beU<|ai @beV<|ai @beW<|ai @beX<|ai @beY<|ai @bez<|ai @beA<|ai @beB<|ai @bes<|ai @bet<|ai @beu<|ai @bev<|ai @bew<|ai @bex<|ai @bey<|ai @beR<|ai @beS<|ai @beT<|ai @bBA<|ai @bea<|ai @beb<|ai @bec<|ai @bed<|ai @bee<|ai @beZ<|ai @be0<|ai @be1<|ai @be2<|ai @beC<|ai @beD<|ai @beE<|ai @beF<|ai @beG<|ai @beH<|ai @bpn<|ai @bpo<|ai @bpp<|ai @aRV<|ai @bfx<|@aRa
def bab{Y:ae}{x:lD}:dG Y (.a<|lD.c x)= .a (lD.c x):=by rw[aoH];rfl
def baf{Y:ae}{x:NA}:dG Y (.a<|NA.c x)= .a (NA.c x):=by rw[a6X];rfl
def baa{Y:ae}{x:w6}:dG Y (.a<|w6.c x)= .a (w6.c x):=rfl
def bad{Y:ae}{x:aQl}:dG Y (.a<|aQl.c x)= .a (aQl.c x):=rfl
def bac{Y:ae}{x:aNZ}:dG Y (.a<|aNZ.c x)= .a (aNZ.c x):=rfl
def bag{Y:ae}{x:aTo}:dG Y (.a<|aTo.c x)= .a (aTo.c x):=rfl
def a99{Y:ae}{x:aBY}:dG Y (.a<|aBY.c x)= .a (aBY.c x):=rfl
def bai{Y:ae}{x:aNQ}:dG Y (.a<|aNQ.c x)= .a (aNQ.c x):=rfl
def bae{Y:ae}{x:atC}:dG Y (.a<|atC.c x)= .a (atC.c x):=rfl
def bah{Y:ae}{x:aOx}:dG Y (.a<|aOx.c x)= .a (aOx.c x):=rfl
def a98{Y:ae}{x:BF}:dG Y (.a<|BF.c x)= .a (BF.c x):=rfl
def bba{v:Value}:iX (.s v)=U:=rfl
def ba8{α:Type}{f:α->List AV}{l:List α}:iX (sl f l)=U:=rfl
def bbb{x:lD}:iX (.a<|lD.c x)=U:=by simp[iX,eN,aoH,sl]
def bbd{x:NA}:iX (.a<|NA.c x)=U:=by simp[iX,eN,a6X,sl]
def bbc{x:aQl}:iX (.a<|aQl.c x)=U:=rfl
def aOW:=ai @bba<|ai @ba8<|ai @bbb<|ai @bbd<|@bbc
def Fa:=ai @bab<|ai @baf<|ai @baa<|ai @bad<|ai @bac<|ai @bag<|ai @a99<|ai @bai<|ai @bae<|ai @bah<|@a98
section
variable{K:j4}{Y:ae}{i:Int}
def boW{l:List BF}:rV (cz 2 Y (sl BF.c l)<|iv i) K=(aF (L l) i/\K (.q<|BF.c<|gd l i.toNat)):=aBz λ_=>rfl
end
abbrev qN:ByteArray:=⟨#[113]⟩
def shE:Nat->lD->Prop|0,_=>False|n+1,e=>(((e.op=1\/e.op=2)/\e.l=[])\/(e.op=3/\e.name=qN/\L e.l=1)\/(6<=e.op/\L e.l=2))/\∀x∈e.l,shE n x
theorem shE.len{n:Nat}{e:lD}(h:shE n e):L e.l<=2:=by cases n with|zero=>exact h.elim|succ n=>rcases h.1 with⟨_,h⟩|⟨_,_,h⟩|⟨_,h⟩<;>simp[h]
theorem shE.sub{n:Nat}{e:lD}(h:shE n e){k:Nat}(a:k<L e.l):∃m,n=m+1/\shE m (gd e.l k):=by cases n with|zero=>exact h.elim|succ n=>exact⟨n,rfl,h.2 _ (asq a)⟩
theorem shE.mono:∀{n m:Nat} {e:lD},shE n e->n<=m->shE m e
 |0,_,_,h,_=>h.elim
 |n+1,0,_,_,h=>by omega
 |n+1,m+1,e,h,b=>⟨h.1,λx a=>(h.2 x a).mono<|by omega⟩
def shS:Nat->NA->Prop|0,_=>False|n+1,s=>((s.op=1\/s.op=2\/s.op=3\/s.op=14)->shE 2 s.expr)/\L s.index<=1/\(∀x∈s.index,shE 2 x)/\(s.index≠[]->s.name=qN)/\L s.expr.l<=2/\L s.body<=4/\(∀x∈s.body,shS n x)/\L s.els<=4/\(∀x∈s.els,shS n x)/\1<=s.op/\s.op<=15
def shS.up{n:Nat}{s:NA}(h:shS n s):∃m,n=m+1/\(∀x∈s.body,shS m x)/\∀x∈s.els,shS m x:=by cases n with|zero=>exact h.elim|succ n=>exact⟨n,rfl,h.2.2.2.2.2.2.1,h.2.2.2.2.2.2.2.2.1⟩
theorem shS.at{n:Nat}{s:NA}(h:shS n s):((s.op=1\/s.op=2\/s.op=3\/s.op=14)->shE 2 s.expr)/\L s.index<=1/\(∀x∈s.index,shE 2 x)/\(s.index≠[]->s.name=qN)/\L s.expr.l<=2/\L s.body<=4/\L s.els<=4:=by cases n with|zero=>exact h.elim|succ n=>exact⟨h.1,h.2.1,h.2.2.1,h.2.2.2.1,h.2.2.2.2.1,h.2.2.2.2.2.1,h.2.2.2.2.2.2.2.1⟩
def shS.ops{n:Nat}{s:NA}(h:shS n s):1<=s.op/\s.op<=15:=by cases n with|zero=>exact h.elim|succ n=>exact h.2.2.2.2.2.2.2.2.2
theorem shS.mono:∀{n m:Nat} {s:NA},shS n s->n<=m->shS m s
 |0,_,_,h,_=>h.elim
 |n+1,0,_,_,h=>by omega
 |n+1,m+1,s,⟨c,d,e,f,g,i,j,k,l,b⟩,o=>⟨c,d,e,f,g,i,λx a=>(j x a).mono (by omega),k,λx a=>(l x a).mono (by omega),b⟩
def shL(n m:Nat)(l:List NA):Prop:=L l<=m/\∀s∈l,shS n s
def shS.body{n:Nat}{s:NA}(h:shS n s):∃m,n=m+1/\shL m 4 s.body/\shL m 4 s.els:=by obtain⟨m,e,a,b⟩:=h.up;exact⟨m,e,⟨h.at.2.2.2.2.2.1,a⟩,⟨h.at.2.2.2.2.2.2,b⟩⟩
def shT(t:aO6):Prop:=L t.locs<=4/\shL 4 8 t.body
def PrB(p:aQl):Prop:=L p.bm0<1000/\L p.ay<1000/\∀t∈p.ay,L t.locs<1000
def shP(p:aQl):Prop:=PrB p/\L p.ay<=4/\∀t∈p.ay,shT t
section
variable{i:Nat}(F:FT)
def aP7{A:Type}{b:A->List AV}{c:A->j4}(k:∀a,Ct i (b a)<|c a):FT:=λys K=>∃a,ys=b a/\∀r,c a r->K r
def aRM{A:Type}{b:A->List AV}{d:A->j4}(k:∀a,Ct i (b a)<|d a)(a:A)(Lw K:j4)(f:F=aP7 k:=by exact rfl)(j:∀a c,b a=b c->a=c:=by simp+contextual only[ij]):fW F (b a) Lw K=(∀r,d a r->Lw r/\K r):=by subst f;apply aPe;constructor;rintro⟨c,h,e⟩;obtain rfl:=j _ _ h;exact e;intro h;exact⟨_,rfl,h⟩
def aR6{A:Type}{b:A->List AV}{e:A->j4}(k:∀a,Ct i (b a)<|e a)(c:∀a,(b a).all iX=U:=by intros;exact rfl):∀ys K,aP7 k ys K->jz aS GG i ys K:=by rintro ys K ⟨a,rfl,h⟩;exact nX (k a) (c a) (λr d=>h r d)
def aRd{A B:Type}{c:A->B->List AV}{d:A->B->j4}(k:∀a b,Ct i (c a b)<|d a b):FT:=λys K=>∃a b,ys=c a b/\∀r,d a b r->K r
def f201{A B:Type}{c:A->B->List AV}{f:A->B->j4}(k:∀a b,Ct i (c a b)<|f a b)(a:A)(b:B)(Lw K:j4)(l:F=aRd k:=by exact rfl)(j:∀a b d e,c a b=c d e->a=d/\b=e:=by simp+contextual only[ij]):fW F (c a b) Lw K=(∀r,f a b r->Lw r/\K r):=by subst l;apply aPe;constructor;rintro⟨d,e,h,g⟩;obtain⟨rfl,rfl⟩:=j _ _ _ _ h;exact g;intro h;exact⟨_,_,rfl,h⟩
def aYm{A B:Type}{c:A->B->List AV}{f:A->B->j4}(k:∀a b,Ct i (c a b)<|f a b)(d:∀a b,(c a b).all iX=U:=by intros;exact rfl):∀ys K,aRd k ys K->jz aS GG i ys K:=by rintro ys K ⟨a,b,rfl,h⟩;exact nX (k a b) (d a b) (λr e=>h r e)
def aSb{A B C:Type}{d:A->B->C->List AV}{e:A->B->C->j4}(k:∀a b c,Ct i (d a b c)<|e a b c):FT:=λys K=>∃a b c,ys=d a b c/\∀r,e a b c r->K r
def f301{A B C:Type}{d:A->B->C->List AV}{l:A->B->C->j4}(k:∀a b c,Ct i (d a b c)<|l a b c)(a:A)(b:B)(c:C)(Lw K:j4)(n:F=aSb k:=by exact rfl)(j:∀a b c e f g,d a b c=d e f g->a=e/\b=f/\c=g:=by simp+contextual only[ij]):fW F (d a b c) Lw K=(∀r,l a b c r->Lw r/\K r):=by subst n;apply aPe;constructor;rintro⟨e,f,g,h,m⟩;obtain⟨rfl,rfl,rfl⟩:=j _ _ _ _ _ _ h;exact m;intro h;exact⟨_,_,_,rfl,h⟩
def a7W{A B C:Type}{d:A->B->C->List AV}{g:A->B->C->j4}(k:∀a b c,Ct i (d a b c)<|g a b c)(e:∀a b c,(d a b c).all iX=U:=by intros;exact rfl):∀ys K,aSb k ys K->jz aS GG i ys K:=by rintro ys K ⟨a,b,c,rfl,h⟩;exact nX (k a b c) (e a b c) (λr f=>h r f)
def bix{A B C D:Type}{e:A->B->C->D->List AV}{f:A->B->C->D->Prop}{v:A->B->C->D->AV}(k:∀a b c d,f a b c d->Ct i (e a b c d) (·=v a b c d)):FT:=λys K=>∃a b c d,ys=e a b c d/\f a b c d/\K (v a b c d)
def bmX{A B C D:Type}{e:A->B->C->D->List AV}{n:A->B->C->D->Prop}{v:A->B->C->D->AV}(k:∀a b c d,n a b c d->Ct i (e a b c d) (·=v a b c d))(a:A)(b:B)(c:C)(d:D)(Lw K:j4)(p:F=bix k:=by exact rfl)(j:∀a b c d f g l m,e a b c d=e f g l m->a=f/\b=g/\c=l/\d=m:=by simp+contextual only[ij]):fW F (e a b c d) Lw K=(n a b c d/\Lw (v a b c d)/\K (v a b c d)):=by subst p;apply aPe;constructor;rintro⟨f,g,l,m,h,o⟩;obtain⟨rfl,rfl,rfl,rfl⟩:=j _ _ _ _ _ _ _ _ h;exact o;intro h;exact⟨_,_,_,_,rfl,h⟩
def bnA{A B C D:Type}{e:A->B->C->D->List AV}{l:A->B->C->D->Prop}{v:A->B->C->D->AV}(k:∀a b c d,l a b c d->Ct i (e a b c d) (·=v a b c d))(f:∀a b c d,(e a b c d).all iX=U:=by intros;exact rfl):∀ys K,bix k ys K->jz aS GG i ys K:=by rintro ys K ⟨a,b,c,d,rfl,g,h⟩;exact nX (k a b c d g) (f a b c d) (λr j=>by rw[j];exact h)
def aTQ{A B C D E:Type}{f:A->B->C->D->E->List AV}{g:A->B->C->D->E->Prop}{h:A->B->C->D->E->j4}(k:∀a b c d e,g a b c d e->Ct i (f a b c d e) (h a b c d e)):FT:=λys K=>∃a b c d e,ys=f a b c d e/\g a b c d e/\∀r,h a b c d e r->K r
def bbn{A B C D E:Type}{f:A->B->C->D->E->List AV}{p:A->B->C->D->E->Prop}{q:A->B->C->D->E->j4}(k:∀a b c d e,p a b c d e->Ct i (f a b c d e) (q a b c d e))(a:A)(b:B)(c:C)(d:D)(e:E)(Lw K:j4)(t:F=aTQ k:=by exact rfl)(j:∀a b c d e g l m n o,f a b c d e=f g l m n o->a=g/\b=l/\c=m/\d=n/\e=o:=by simp+contextual only[ij]):fW F (f a b c d e) Lw K=(p a b c d e/\∀r,q a b c d e r->Lw r/\K r):=by subst t;apply aPe;constructor;rintro⟨g,l,m,n,o,h,s⟩;obtain⟨rfl,rfl,rfl,rfl,rfl⟩:=j _ _ _ _ _ _ _ _ _ _ h;exact s;intro h;exact⟨_,_,_,_,_,rfl,h⟩
def bhJ{A B C D E:Type}{f:A->B->C->D->E->List AV}{m:A->B->C->D->E->Prop}{n:A->B->C->D->E->j4}(k:∀a b c d e,m a b c d e->Ct i (f a b c d e) (n a b c d e))(g:∀a b c d e,(f a b c d e).all iX=U:=by intros;exact rfl):∀ys K,aTQ k ys K->jz aS GG i ys K:=by rintro ys K ⟨a,b,c,d,e,rfl,j,h⟩;exact nX (k a b c d e j) (g a b c d e) (λr l=>h r l)
end
def bm1:AV->AV| .t vs=> .t (vs.map nrm)|x=>nrm x
theorem bdV{κ:vg}{w:World}{Y:ae}{β:Id->Nat}{v:Value}{x:AV}(h:ba κ w Y β v x):ba κ w Y β v (bm1 x):=by cases x with|t vs=>(cases h with|t d h=>refine .t (by grind) λi v c f b=>?_;grind [bE,yo])|_=>exact yo h
theorem a6f{x:AV}:nj (gK x)=nj x:=by cases x<;>rfl
theorem aWa{x:AV}:pF (nrm x)=pF x:=by cases x with|a cs=>grind [nrm,pF,List.all_map,a6f]|_=>first|rfl|exact a6f
def ba7{x:AV}:kG (bm1 x)=kG x:=by have h:=@aWa x;(cases x<;>first|exact h|skip);grind [bm1,kG,List.all_map,aWa]
def aDq{fn:Nat}{ys:List AV}{Q:j4}(h:Ct fn ys λr=>Q<|bm1 r):Ct fn ys Q:=by obtain⟨r,f,g,i,j⟩:=h;refine⟨bm1 r,f,by rw[ba7];exact g,i,λF w d a b c=>(j F w d a b c).mono ?_⟩;grind [bdV]
def fz(Y:ae)(c:AV):AV:=gK<|dQ Y c
def fzT(Y:ae):AV->AV| .a cs=> .a (cs.map<|fz Y)|x=>fz Y x
def bcq{Y:ae}{c:AV}:(∃l t o,dQ Y c= .l l t o)\/dQ Y c=c:=by(cases c<;>first|exact .inr rfl|skip);grind [box,dQ,eN,frN]
theorem aXU{Y:ae}{x:AV}:nrm (iZ Y x)=fzT Y x:=by cases x with|a cs=>simp only[iZ,nrm,fzT,vA];rfl|m b n=>show nrm (dQ Y<|.m b n)=gK (dQ Y<|.m b n);(rcases bcq (Y:=Y) (c:= .m b n) with⟨l,t,o,h⟩|h<;>rw[h]<;>rfl)|_=>rfl
theorem a6g{Y:ae}{x:AV}(h:iX (fzT Y x)=U):pF (iZ Y x)=U:=by have b:pF (nrm<|iZ Y x)=U:=(by rw[aXU];generalize fzT Y x=y at h;cases y with|a cs=>simp only[iX,dV] at h;simp only[pF,dV];intro c d;have:=h c d;(cases c<;>first|rfl|grind [eN])|_=>first|rfl|grind [iX,eN]);rwa [aWa] at b
def aOH{Q:j4}{Y:ae}{vs vs':List AV}(h:vs.map (fzT Y)=vs')(d:vs'.all iX=U)(c:Q<|aoz vs'):aE (λr=>Q<|bm1 r) Y vs:=by have b:kG (.t<|vs.map<|iZ Y)=U/\bm1 (.t<|vs.map<|iZ Y)= .t vs':=(by constructor;grind [kG,List.all_map,dV,a6g,List.mem_map_of_mem];simp only[bm1,vA,<-h];grind [ja,aXU]);unfold aE jS;rcases vs with _|⟨v,_|⟨w,l⟩⟩;subst h;exact⟨rfl,c⟩;subst h;simp only[ji,mU,Cs,aqG,ru] at d;have f:=a6g d;have g:bm1 (iZ Y v)=fzT Y v/\kG (iZ Y v)=pF (iZ Y v):=(by rw[<-aXU];generalize iZ Y v=y at f;cases y<;>first|exact⟨rfl,rfl⟩|grind [pF,nj]);refine⟨by simp_all,?_⟩;show Q<|bm1<|iZ Y v;rw[g.1];exact c;subst h;refine⟨b.1,?_⟩;show Q<|bm1<|.t<|(v::w::l).map<|iZ Y;rw[b.2];exact c
def aOv{Q:j4}{Y:ae}{v v':AV}(h:fzT Y v=v')(c:iX v'=U)(b:Q v'):aE (λr=>Q<|bm1 r) Y [v]:=by subst h;exact aOH (vs':=[fzT Y v]) rfl (by simp[c]) b
theorem aQ7{Y:ae}{v x:AV}(h:fzT Y v=x)(b:iX x=U):aE (λr=>bm1 r=x) Y [v]:=aOv (Q:=(·=x)) h b rfl
def qc(Y:ae)(e:TypeId)(z:Nat)(a:AV)(bA:List<|List AV):Prop:=(bA=[]/\a= .l [] U U)\/∃b m,a= .m b (L bA)/\box Y b=V ⟨e,z,U,I,bA++m⟩
theorem bc.p{Y:ae}{e:TypeId}{z:Nat}{a:AV}{bA:List (List AV)}(h:bc Y e z a bA):qc Y e z a bA:=by rcases h with h|⟨b,c,d⟩;exact .inl h;exact .inr ⟨b,[],c,by simpa using d⟩
section
variable{Y Y':ae}{e:TypeId}{z:Nat}{a:AV}{bA:List (List AV)}
theorem qc.fx{ks:List Id}(f:qc Y e z a bA)(d:Fx Y Y' ks)(g:∀b∈aA a,b∉ks):qc Y' e z a bA:=by rcases f with h|⟨b,m,rfl,c⟩;exact .inl h;exact .inr ⟨b,m,rfl,d.keep b _ (g b<|by simp[aA]) c⟩
def aWt{v:Value}:fz Y (.s v)= .s v:=rfl
def bcz{t o:Bool}:fz Y (.l bA t o)= .l bA I I:=rfl
def aBr(h:qc Y e z a bA):fz Y a= .l bA I I:=by rcases h with⟨rfl,rfl⟩|⟨b,m,rfl,c⟩;rfl;simp[fz,dQ,c,gK]
def aWs(h:qc Y e z a bA):fzT Y a= .l bA I I:=by rw[<-aBr h];rcases h with⟨rfl,rfl⟩|⟨b,m,rfl,c⟩<;>rfl
def lz(Y:ae)(c:AV):AV:=gK<|gi Y c
def aQ5{v:Value}:lz Y (.s v)= .s v:=rfl
def aXQ{t o:Bool}:lz Y (.l bA t o)= .l bA I I:=rfl
def aOb(h:qc Y e z a bA):lz Y a= .l bA I I:=by rcases h with⟨rfl,rfl⟩|⟨b,m,rfl,c⟩;rfl;simp[lz,gi,c,gK]
theorem qc.ce(h:qc Y e z a bA):eY a=V [a]:=by rcases h with⟨_,rfl⟩|⟨b,m,rfl,_⟩<;>rfl
theorem qc.ln(h:qc Y e z a bA):fS Y a=V (iv<|L bA):=by rcases h with⟨rfl,rfl⟩|⟨b,m,rfl,c⟩;rfl;simp[fS,c]
def qc.ar(h:qc Y e z a bA):dG Y a= .l bA I I:=by rcases h with⟨rfl,rfl⟩|⟨b,m,rfl,c⟩;rfl;simp[dG,eR,gi,c,nrm,gK]
def qb{b:Id}{i j:Nat}{x:bY}(h:box Y b=V x):cO Y (.p b i j)=V (.p b i j):=by simp[cO,h]
theorem qs{d by':Nat}{zs:List AV}{new:List (List AV)}{t o:Bool}{K:be}(i:qc Y e z a bA)(k:L zs=z)(n:0<z)(c:d<L Y)(u:∀r∈bA,L r=z)(s:∀r∈new,L r=z)(p:new≠[])(q:(L bA+L new)*(by'+1)<=1099511627776)(h:∀f Y',bc Y' e z f (bA++new)->Fx Y Y' (aA a)->(∀b∈aA f,ig Y b/\b.1=d)->K f Y'):eV (Gy e zs by' Y d a<|.l new t o) K:=by unfold Gy;simp only[gL];rw[j5 (by grind),lC ⟨by omega,by simp[aRI,c],by simp_all⟩];rcases i with⟨rfl,rfl⟩|⟨b,m,rfl,g⟩;simp only;rw[lC ⟨by simp,by grind [lx]⟩];refine h _ _ (.inr ⟨zt Y d,by simp,?_⟩) ((kH c).mono<|by simp) (by simp[aA];exact⟨qQ Y d,rfl⟩);grind [be7];simp only[g];rw[lC ⟨trivial,trivial,k.symm,by simp,by grind [lx]⟩];have j:d<L (kill Y b):=(by grind [yg]);refine h _ _ (.inr ⟨zt Y d,by simp,?_⟩) (((Le g).trans<|kH j).mono<|by simp[aA]) (by simp[aA];exact⟨qQ Y d,rfl⟩);grind [List.take_left',anF,be7]
theorem slP{i:Int}{K:j4}(g:qc Y e z a bA)(f:0<=i)(j:i<=L bA)(d:∀c,qc Y e z c (bA.take i.toNat)->aA c=aA a->K c):rV (fo z Y a J (V<|iv i) J) K:=by have k:i.toNat<=L bA:=(by omega);rcases g with⟨rfl,rfl⟩|⟨b,m,rfl,n⟩;have h:i.toNat=0:=(by grind);have:fo z Y (.l [] U U) J (V<|iv i) J=V (.l [] U U):=(by simp[fo,lM,f,qY,h]);rw[this];exact d _ (.inl ⟨by simp,rfl⟩) rfl;have:fo z Y (.m b<|L bA) J (V<|iv i) J=V (.m b i.toNat):=(by grind [fo,lM,qY]);rw[this];refine d _ (.inr ⟨b,bA.drop i.toNat++m,?_,?_⟩) rfl;simp_all;grind [bje,List.take_append_drop]
theorem aOp:∀(l:List Id) (Y:ae),Fx Y (kills Y l) l:=by intro l;induction l with|nil=>intro Y;exact Fx.refl _ _|cons b l d=>intro Y;show Fx Y (kills (if(box Y b).isSome then kill Y b else Y) l) (b::l);cases c:box Y b with|none=>grind [Fx.mono]|some x=>exact(Le c).trans<|d<|kill Y b
end
structure Lv(Y0 Y:ae)(cs tgt:List AV):Prop where
 eq:cs.map (lz Y)=tgt
 nw:∀b∈eB (.a cs),ig Y0 b
def aQm{Y:ae}{zs cs tgt:List AV}(d:cs.map (lz Y)=tgt)(b:L tgt=L zs)(f:0<L zs)(g:tgt.all eN=U)(i:L zs<=1000):aX zs 1 Y [(0, .a cs)]=V (.l [tgt] U U,kills Y<|eB<|.a cs):=by have h:nrm (eR Y<|.a cs)= .a tgt:=(by simp only[eR,nrm,vA,<-d];rfl);simp only[aX,ji,mU,h,Cz,RN,cL];have c:(er 1 zs).flatten=zs:=(by simp);rw[lC ⟨by omega,f⟩,c];simp only[aly,eY,b,Nat.zero_mul,aj,dA,aOe,aPI,CE,dW,List.drop_length,cL,aQd,g,df];simp[bqL,<-b]
theorem Lv.fx{d Y Y':ae}{cs tgt:List AV}{ks:List Id}(h:Lv d Y cs tgt)(f:Fx Y Y' ks)(l:∀b∈eB (.a cs),b∉ks)(i:tgt.all eN=U):Lv d Y' cs tgt:=by refine⟨?_,h.nw⟩;rw[<-h.eq];refine ja λc k=>?_;have j:eN (lz Y c)=U:=(by rw[<-h.eq] at i;simp_all);cases c with|m b n=>(cases g:box Y b with|none=>grind [lz,gi,gK,eN]|some x=>have:=f.keep b x (by grind [eB,iR]) g;grind [lz,gi])|_=>rfl
def aRA{e:TypeId}{z d:Nat}{zs cs:List AV}{Y:ae}{K:be}(l:L zs=z)(j:L cs=z)(h:0<z)(k:d<L Y)(i:∀v Y',Fx Y Y' []->ig Y (d,v)->box Y' (d,v)=V ⟨e,z,U,U,[cs]⟩->K (.p (d,v) 0 0) Y'):eV (alA e zs Y d) λp s=>sV (aK z s p<|.a cs) λs'=>K p s':=by refine alI l h k λv o b f g=>?_;refine cy (y:=z) (cs:=cs) g rfl j (by omega) λm c n=>?_;refine i v m ((b.trans c).mono<|by grind [ig.no]) f ?_;simp_all
def stW{Y:ae}{b:Id}{z:Nat}{e:TypeId}{o:Bool}{r cs:List AV}{K:ae->Prop}(f:box Y b=V ⟨e,z,o,U,[r]⟩)(j:L r=z)(g:L cs=z)(d:∀Y',Fx Y Y' [b]->box Y' b=V ⟨e,z,o,U,[cs]⟩->K Y'):sV (aK z Y (.p b 0 0)<|.a cs) K:=by refine cy (y:=z) (cs:=cs) f rfl g (by omega) λh c i=>d h c ?_;simp_all
def bdJ{Y:ae}{q:Option Nat}{cs:List AV}:vp q Y (.q cs)=aN q cs:=rfl
def A0{Y:ae}{b:Id}{j z:Nat}{e:TypeId}{o:Bool}{r:List AV}{x:AV}{K:ae->Prop}(d:box Y b=V ⟨e,z,o,U,[r]⟩)(g:eY x=V [x])(f:j<L r)(c:∀Y',Fx Y Y' [b]->box Y' b=V ⟨e,z,o,U,[r.set j x]⟩->K Y'):sV (aK 1 Y (.p b 0 j) x) K:=by grind [cy,GP]
def aPW{i:Nat}{ys:List AV}{R Lw K:j4}(h:Ct i ys R)(b:ys.all iX=U)(c:∀r,R r->Lw r/\K r):fW (cX i) ys Lw K:=nX h b c
def a6h{x:lD}:iX (.a<|lD.c x)=U:=by simp[iX,eN,aoH,sl]
def aS7{x:NA}:iX (.a<|NA.c x)=U:=by simp[iX,eN,a6X,sl]
def aV2{x:AV}(h:iX x=U):[x].all iX=U:=by simp[h]
def apQ{Y:ae}{e:TypeId}{z d by' n:Nat}{zs:List AV}{a:AV}{bA new:List (List AV)}{t o:Bool}{K:be}(h:qc Y e z a bA)(m:L Y=n)(q:∀r∈bA,L r=z)(p:∀r∈new,L r=z)(g:new≠[])(j:(L bA+L new)*(by'+1)<=1099511627776)(i:∀c Y',bc Y' e z c (bA++new)->Fx Y Y' (aA a)->(∀b∈aA c,ig Y b/\b.1=d)->K c Y')(s:L zs=z:=by exact rfl)(f:0<z:=by decide)(k:d<n:=by decide):eV (Gy e zs by' Y d a<|.l new t o) K:=qs h s f (m▸k) q p g j i
def anu{e:TypeId}{z d n:Nat}{zs cs:List AV}{Y:ae}{K:be}(h:L Y=n)(c:∀v Y',Fx Y Y' []->ig Y (d,v)->box Y' (d,v)=V ⟨e,z,U,U,[cs]⟩->K (.p (d,v) 0 0) Y')(i:L zs=z:=by exact rfl)(f:L cs=z:=by exact rfl)(b:0<z:=by decide)(g:d<n:=by decide):eV (alA e zs Y d) λp s=>sV (aK z s p<|.a cs) λs'=>K p s':=aRA i f b (h▸g) c
def isI(r:AV):Prop:=∃x:Int,r=iv x
def isB(r:AV):Prop:=∃b:Bool,r=bv b
def aPG{x:Int}:isI (iv x)=True:=buO ⟨x,rfl⟩
def aNP{b:Bool}:isB (bv b)=True:=buO ⟨b,rfl⟩
def aP1{c:Prop}[Decidable c]{v:AV}{K:j4}:rV (if c then V v else J) K=(c/\K v):=by grind [rV]
def aWE(r:AV):Prop:=∃(x:Int) (b:Bool),r= .t [iv x,bv b]
def aQ1(r:AV):Prop:=∃x y:Int,r= .t [iv x,iv y]
def a6D{x:Int}{b:Bool}:aWE (.t [iv x,bv b])=True:=buO ⟨x,b,rfl⟩
def aO2{x y:Int}:aQ1 (.t [iv x,iv y])=True:=buO ⟨x,y,rfl⟩
def bd7{R:j4}{Y:ae}{x y:Int}:aE R Y [iv x,iv y]=R (.t [iv x,iv y]):=by simp[aE,jS,iZ,dQ,kG,pF,nj]
def aTb{p:Nat->Bool}{n:Nat}: -1<=uo p n/\uo p n<n:=by grind [uo,List.mem_of_find?_eq_some]
def aXc(b:Bool):Ct 311 [bv b] (·=iv (if b then 1 else 0)):=by refine bgS λs0 c a=>?_;cases b<;>simp[a1q,u1,ah]
def aOT:FT:=lH aXc
def bbU{b Lw K}:=np aOT aXc b Lw K
def aXa(i n:Int):Ct 294 [iv i,iv n] (λr=>isI r):=by refine bgQ λs0 b a=>?_;simp+contextual only[a1m,u0,u1,aPR,↓uL,aP1,aPG];refine⟨λh=>trivial,λh=>⟨by grind,?_⟩⟩;simp+contextual only[qz 35,qz 33,↓uL,u0,u1,aPG,aNV,aOe]
def aSe:FT:=aRd aXa
def bbS{i n Lw K}:=f201 aSe aXa i n Lw K
def aXg(o:Int):Ct 262 [iv o] (·=bv (Q (1<=o)&&Q (o<=5))):=by refine bgW λs0 b a=>?_;simp+contextual only[a1M,u0,u1,↓uL]
def aSf:FT:=lH aXg
def bbY{o Lw K}:=np aSf aXg o Lw K
def aXk(i n:Int):Ct 232 [iv i,iv n] (·=bv (dh i n)):=by refine bg7 λs0 b a=>?_;simp+contextual only[a2y,u0,u1,dh,↓uL]
def aN3:FT:=lI aXk
def bb2{i n Lw K}:=f200 aN3 aXk i n Lw K
def aXm(l:List dS)(s:ByteArray)(f:L l<4611686018427387904):Ct 241 [sl dS.c l,st s] (λr=>isI r):=by refine bg9 λs0 e a=>?_;simp only[a2D];refine bhZ (L l) (λk=>True) trivial λk d b=>?_;simp+contextual only[qz 19,u0,u1,ix,rk,bh,aPG,aNV,GL,aO5,↓uL];grind [dJ,aL,gS]
def aQE:FT:=pn aXm
def bb4{l s Lw K}:=f211 aQE aXm l s Lw K
def aXd(w:J9)(s:ByteArray)(m:L w.cells<4611686018427387904):Ct 304 [.a w.c,st s] (·=iv (uo (λi=>Q<|(gd w.cells i).name=s)<|L w.cells)):=by refine bgT rfl λn l b f=>?_;simp only[a1r];refine bhZ (L w.cells) (λk=>∀j,j<k->Q ((gd w.cells j).name=s)=I) (by simp) λk g e=>?_;simp+contextual only[qz 19,u0,u1,b,ix,rk,aj,bh,↓uL];refine⟨λh=>⟨u7 h,λd=>?_,by grind [gS,aL]⟩,λh=>?_⟩;rw[KW (aL h) d e];grind [KX,bkb,bw]
def aQD:FT:=aIc aXd
def bbV{w s Lw K}:=f210 aQD aXd w s Lw K
def aOB(l:List w6)(s:ByteArray):Int:=uo (λi=>Q<|(gd l i).name=s)<|L l
def aYi(l:List aO6)(s:ByteArray):Int:=uo (λi=>Q<|(gd l i).name=s)<|L l
def aWX(l:List w6)(s:ByteArray)(g:L l<4611686018427387904):Ct 270 [sl w6.c l,st s] (·=iv (aOB l s)):=by refine bgB λi f d=>?_;simp only[a0p];refine bhZ (L l) (λk=>∀j,j<k->Q ((gd l j).name=s)=I) (by simp) λk e b=>?_;simp+contextual only[qz 19,u0,u1,ixv,rk,pz,bh,↓uL];refine⟨λh=>⟨u7 h,λa=>?_,by grind [gS,aL]⟩,λh=>?_⟩;rw[aOB,KW (aL h) a b];grind [aOB,KX,bkb,bw]
def aPO:FT:=aIc aWX
def bbF{l s Lw K}:=f210 aPO aWX l s Lw K (j:=by simp+contextual only[ij,ijv])
def aW2(l:List aO6)(s:ByteArray)(g:L l<4611686018427387904):Ct 271 [sl aO6.c l,st s] (·=iv (aYi l s)):=by refine bgG λi f d=>?_;simp only[a0C];refine bhZ (L l) (λk=>∀j,j<k->Q ((gd l j).name=s)=I) (by simp) λk e b=>?_;simp+contextual only[qz 19,u0,u1,ixv,rk,pz,bh,↓uL];refine⟨λh=>⟨u7 h,λa=>?_,by grind [gS,aL]⟩,λh=>?_⟩;rw[aYi,KW (aL h) a b];grind [aYi,KX,bkb,bw]
def aP9:FT:=aIc aW2
def bbK{l s Lw K}:=f210 aP9 aW2 l s Lw K (j:=by simp+contextual only[ij,ijv])
def aXp(n:Int):Ct 296 [iv n] (λr=>isI r):=by refine bhe λs0 b a=>?_;simp+contextual only[a24,u0,u1,aPG,aNV,aOe,↓uL]
def aSh:FT:=aP7 aXp
def bb7{n Lw K}:=aRM aSh aXp n Lw K
def aWQ(n:Int):Ct 318 [iv n] (λr=>isI r):=by refine bgt λs0 b a=>?_;simp+contextual only[a0e,u0,u1,aPG,aNV,aOe,↓uL]
def aTZ:FT:=aP7 aWQ
def bby{n Lw K}:=aRM aTZ aWQ n Lw K
def aW6(a b:Int):Ct 300 [iv a,iv b] (·=iv (if a≠0 then a else b)):=by refine bgK λs0 d c=>?_;simp+contextual only[a0S,u0,u1,↓uL];simp_all
def aOi:FT:=lI aW6
def bbO{a b Lw K}:=f200 aOi aW6 a b Lw K
def aW5(b:Bool):Ct 303 [bv b] (·=iv (if b then 7 else 0)):=by refine bgJ λs0 c a=>?_;cases b<;>simp[a0R,u1,ah]
def aOS:FT:=lH aW5
def bbN{b Lw K}:=np aOS aW5 b Lw K
def aWU(e:lD):Ct 313 [.a e.c] (λr=>isB r):=by refine bgy aN9 λg f b d=>?_;simp+contextual only[a0l,u0,u1,b,pz,aj,aNP,↓uL]
def aT2:FT:=aP7 aWU
def bbC{e Lw K}:=aRM aT2 aWU e Lw K (j:=by simp+contextual only[ij,ijv])
def aWP(n:Int):Ct 196 [iv n] (·= .a (lD.mk 1 n ⟨#[]⟩ []).c):=by refine aDq (bgs λs0 d i=>?_);simp only[a0c];refine mo d λj e f=>?_;have b:bM bth brF [(0,iv 1),(1,iv n)]=V (.a [iv 1,iv n,sv [], .l [] U U]):=rfl;simp only[qz 2,qy 4,b,aY,↓uL];refine gN f (by rw[e.1,d];decide) rfl rfl λk h g=>?_;simp only[u0,u1,g,aj,aN,bZ,aO1,dA,aPI,List.take_succ_cons,CE,↓uL];exact aQ7 (by rw[aoH];rfl) (by rw[aoH];rfl)
def aQC:FT:=lH aWP
def bbx{n Lw K}:=np aQC aWP n Lw K
def a6z(i:aNZ):List Int:=
 bif Q (i.op=1)||(Q (i.op=6)||(Q (i.op=10)||Q (i.op=27))) then[i.a]
 else bif Q (i.op=2)||Q (i.op=3) then[i.a,i.b]
 else bif Q (i.op=4) then[i.a,i.b,i.k]
 else bif Q (i.op=7) then[i.a,i.k]
 else bif Q (i.op=8)||Q (i.op=26) then[i.b]
 else bif Q (i.op=9) then[i.b,i.k]
 else[]
attribute[local irreducible] aX
def aRU(l:List Int)(r:AV):Prop:=∃t o,r= .l (l.map ci) t o
def rLI{l:List Int}{Y:ae}{t o:Bool}:aE (λr=>aRU l r) Y [.l (l.map ci) t o]=True:=buO ⟨rfl,t,o,rfl⟩
def bd0{Y:ae}{t o:Bool}:aE (λr=>aRU [] r) Y [.l [] t o]=True:=buO ⟨rfl,t,o,rfl⟩
def aXf(i:aNZ):Ct 192 [.a i.c] (λr=>aRU (a6z i) r):=by refine bgV rfl λf e b d=>?_;simp only[a1F,u0,u1,b,pz,aj,↓uL];simp only[qz 23,iM,aY,sw,↓uL];simp only[qz 21,qy 4,aI,au,↓uL];simp only[a7i,qz 53,iM,aY,sw,↓uL];simp only[qz 51,qy 6,qy 8,qy 10,aI,au,↓uL];simp only[a7i,qz 95,iM,aY,sw,↓uL];simp only[qz 93,qy 12,qy 14,aI,au,↓uL];simp+contextual (maxSteps:=2000000) only[↓iS,u0,u1,b,pz,aj,a5Y,fi,xA,a6z,bie,bkl,rLI,bd0,aNV,aOe,↓uL]
def aRj:FT:=aP7 aXf
def bbX{i Lw K}:=aRM aRj aXf i Lw K (j:=by simp+contextual only[ij,ijv])
def aTp:List Int:=[3,3,3,3,3,4,4,4,4,4,5,5,5,6,6,6,7,7,7,8,9,10,11,12,13,14,14,15,16,16,17,17,18,18,19,20,1,1,2,21,22,23,23]
def aXF:Ct 182 [] (λr=>aRU aTp r):=by refine bhz λs0 c b=>?_;have a:∀R,aVS s0 R=aE R s0 [.l (aTp.map ci) U U]:=λR=>(by kernel_rfl);show aVS s0 _;rw[a];exact⟨rfl,U,U,rfl⟩
def aUt:FT:=BK aXF
def bcm{Lw K}:=al3 aUt aXF Lw K
def aWO(s:ByteArray):Ct 280 [st s] (·= .a (lD.mk 2 0 s []).c):=by refine aDq (bgr λs0 d i=>?_);simp only[a0a];refine mo d λj e f=>?_;have b:bM bth brF [(0,iv 2),(2,st s)]=V (.a [iv 2,iv 0,st s, .l [] U U]):=rfl;simp only[qz 2,qy 4,b,aY,↓uL];refine gN f (by rw[e.1,d];decide) rfl rfl λk h g=>?_;simp only[u0,u1,g,aj,aN,bZ,aO1,dA,aPI,List.take_succ_cons,CE,↓uL];exact aQ7 (by rw[aoH];rfl) (by rw[aoH];rfl)
def aQB:FT:=lH aWO
def bbw{s Lw K}:=np aQB aWO s Lw K
def aXK:List Int:=[3,3,4,4,5,6,7,8,9,10,11,12,13,14,15,16,18,19,20,21,22,23,2]
def aPY(o:Int):Int:=bif Q (o<6)||Q (28<o) then 0 else gd aXK (o-6).toNat
def aXv(o:Int):Ct 264 [iv o] (·=iv (aPY o)):=by refine bhn λs0 c b=>?_;have a:∀R,aVs (iv o) s0 R=aVt (iv o) R (.l (aXK.map ci) U U) s0:=λR=>(by kernel_rfl);show aVs (iv o) s0 _;rw[a];simp+contextual only[aVt,u0,u1,tf,rk,↓uL];refine⟨(by grind [aPY]),λh=>?_⟩;rw[aPY,h];simp only[cP,aNK] at h;rw[eM (by omega)<|by omega];exact⟨⟨by omega,by show o-6<23;omega⟩,rfl⟩
def aUm:FT:=lH aXv
def bcd{o Lw K}:=np aUm aXv o Lw K
def aNF:List w6:=[⟨1,0,⟨#[120]⟩,0,0,⟨#[]⟩⟩,⟨1,0,⟨#[121]⟩,0,1,⟨#[]⟩⟩,⟨2,0,⟨#[118]⟩,0,0,⟨#[]⟩⟩,⟨1,0,⟨#[113]⟩,2,0,⟨#[]⟩⟩,⟨3,0,⟨#[109]⟩,0,0,⟨#[]⟩⟩,⟨3,0,⟨#[110]⟩,0,0,⟨#[]⟩⟩,⟨4,0,⟨#[114]⟩,0,0,⟨#[]⟩⟩,⟨5,0,⟨#[99]⟩,0,0,⟨#[109]⟩⟩,⟨6,0,⟨#[102]⟩,0,0,⟨#[]⟩⟩]
def aWN:Ct 193 [] (·=sl w6.c aNF):=by refine aDq (bgk λs0 d b=>?_);have a:∀R,aUG s0 R=aE R s0 [.l (aNF.map w6.c) U U]:=λR=>(by kernel_rfl);show aUG s0 _;rw[a];exact aQ7 rfl rfl
def aSd:FT:=BJ aWN
def bbv{Lw K}:=al2 aSd aWN Lw K
attribute[local semireducible] aX
def bkk(l:List aP)(t:Int)(j:Nat):Nat:=L ((l.take j).filter λe=>Q<|e.aq=t)
theorem aV8{l:List aP}{t:Int}{j:Nat}(h:j<L l):bkk l t (j+1)=bkk l t j+if(gd l j).aq=t then 1 else 0:=by grind [bkk,iJ,bT,a6G]
theorem a6c{l:List aP}{t:Int}{j:Nat}:bkk l t j<=j:=gl (List.length_filter_le _ _) (by simp;omega)
def aOE(l:List aP)(i:Nat)(t n:Int):Prop:=∃j,j<i/\(gd l j).aq=t/\((gd l j).kind=3\/(gd l j).kind=23)/\(bkk l t j:Int)=n
def aXy(l:List aP)(i:Nat)(t:Int)(ns:List Int)(u:i<=L l/\L l<1000000/\L ns<4611686018427387904):Ct 124 [sl aP.c l,iv i,iv t,sl ci ns] (λr=>∃b,r=bv b/\(b=U->∀n∈ns,aOE l i t n)):=by obtain⟨y,z,A⟩:=u;refine bhq λs0 D x=>?_;simp only[a4p];refine bhZ (L ns) (λk=>∀j,j<k->aOE l i t (gd ns j)) (by simp) λk C p=>?_;simp only[qz 19,aI,u0,u1,↓uL];refine⟨λh=>?_,λh=>⟨U,rfl,λ_=>?_⟩⟩;(focus refine yh (λs:Bool×Nat=>[iv<|bkk l t s.2,bv s.1,iv s.2]) 2 i (λs=>s.2<=i/\(s.1=U->aOE l i t (gd ns k))) (I,0) ⟨by omega,by simp⟩ ?_;rintro⟨v,j⟩ ⟨B,E⟩;simp only[qz 67,aI,au,u0,u1,↓uL];refine⟨λh=>?_,λh=>⟨(by simp),λd=>?_⟩⟩;(focus have g:j<i:=aL h;have f:j<L l:=(by omega);have e:=aV8 (t:=t) f;have w:=a6c (l:=l) (t:=t) (j:=j);have nx:∀(a b:Bool) (c:Int),c=((bkk l t (j+1):Nat):Int)->(b=U->aOE l i t (gd ns k))->tI (λs:Bool×Nat=>[iv<|bkk l t s.2,bv s.1,iv s.2]) (λs=>s.2<=i/\(s.1=U->aOE l i t (gd ns k))) [iv c,bv b,iv ((j+1:Nat):Int)]/\pM 2 i [iv c,bv b,iv ((j+1:Nat):Int)]<pM 2 i [iv<|bkk l t j,bv a,iv j]:=λa b c p h=>(by subst p;exact wN (enc:=λs:Bool×Nat=>[iv<|bkk l t s.2,bv s.1,iv s.2]) (s:=(a,j)) (s':=(b,j+1)) rfl rfl rfl g ⟨g,h⟩);(cases v<;>simp+contextual only[qz 89,ix,bh,u0,u1,rk,pz,↓uL,jA,jN,qz 87,uO,bie,bkl]);(all_goals refine⟨dJ f,λd=>?_,λd=>?_⟩;all_goals rw[fX<|by omega]);simp_all;simp at d;rw[lC d] at e;rw[fX<|by omega];refine⟨dJ<|aL ‹_›,λ_=>dJ f,λ_ _=>dJ f,?_⟩;(cases m:Q ((bkk l t j:Int)=gd ns k)<;>cases q:Q ((gd l j).kind=3)<;>simp only[bie,bkl,qE,xM,ru,bsm,fh,kN]);simp_all;simp_all;exact nx _ _ _ (by rw[e]) λo=>⟨j,g,d, .inr (by simpa using o),by simpa using m⟩;exact nx _ _ _ (by rw[e]) λo=>⟨j,g,d, .inl (by simpa using q),by simpa using m⟩;simp_all;simp at d;rw[lC d] at e;rw[fX<|by omega];simp_all);grind [gS,aL]);grind [ou,bT,bkb,bw]
def aSi:FT:=ER aXy
def bcg{l i t ns Lw K}:=axQ aSi aXy l i t ns Lw K (j:=by simp+contextual only[ij,Int.natCast_inj])
section
variable{Q:j4}{Y:ae}{xs:List AV}
def bd1:(∀r,isB r->Q r)=∀b,Q (bv b):=aPe ⟨λh b=>h _ ⟨b,rfl⟩,by rintro h r ⟨b,rfl⟩;exact h b⟩
def a65:(∀r,isI r->Q r)=∀x,Q (iv x):=aPe ⟨λh b=>h _ ⟨b,rfl⟩,by rintro h r ⟨b,rfl⟩;exact h b⟩
def bd4:(∀r,aQ1 r->Q r)=∀x y,Q (.t [iv x,iv y]):=aPe ⟨λh x b=>h _ ⟨x,b,rfl⟩,by rintro h r ⟨x,b,rfl⟩;exact h x b⟩
def bdO{v w:Value}:lo Y xs (.t [.s v, .s w])=True:=by simp[lo,uN,yv,wD]
def bcB{α:Type}[Nonempty α]{b:Bool}{f:α->AV}{K:j4}:gB b (λk=>∀x,k<|f x) K=∀x,K (gv b<|f x):=by(cases b);exact aPe ⟨λh x=>h,λh=>h<|Classical.choice ‹_›⟩;rfl
def bcD{α:Type}[Nonempty α]{b:Bool}{S:Prop}{f:α->AV}{K:j4}:gB b (λk=>S/\∀x,k<|f x) K=((b=U->S)/\∀x,K<|gv b<|f x):=by(cases b);exact aPe ⟨λh=>⟨(λh=>by cases h),λx=>h⟩,λh=>h.2<|Classical.choice ‹_›⟩;simp[gB,gv]
def bcC{b:Bool}{f:Bool->AV}{K:j4}:gB b (λk=>∀x,k<|f x) K=∀x,K (gv b<|f x):=bcB
def bcE{b:Bool}{S:Prop}{f:Bool->AV}{K:j4}:gB b (λk=>S/\∀x,k<|f x) K=((b=U->S)/\∀x,K<|gv b<|f x):=bcD
def rg:=ai @bcC<|@bcE
def rr:=ai @bd1<|ai @a65<|ai @bd4<|ai @bdO<|ai @AL<|ai @oJ<|ai @pG<|ai @bdJ<|@bd7
end
def a6n{a:Int}{p:Int->Prop}:(∃k,iv a=iv k/\p k)=p a:=(by simp)
def aRB{a b:ByteArray}:a6F .neq 0 [] (st a) (st b)=V (bv<|Q<|a≠b):=by have h:=@alq a b;simp only[a6F,zP,df,bE,AV.s.injEq,mV] at h;simp only[a6F,zP,df,h,decide_not]
def a7w:dO:=(311,aOT)::(294,aSe)::(262,aSf)::(232,aN3)::(241,aQE)::(304,aQD)::(270,aPO)::(271,aP9)::(296,aSh)::(318,aTZ)::(300,aOi)::(303,aOS)::(313,aT2)::(196,aQC)::(192,aRj)::(182,aUt)::(280,aQB)::(264,aUm)::(193,aSd)::(124,aSi)::apC
def aOh:eJ a7w:=ve (nH aXc) (ve (aYm aXa)<|ve (nH aXg)<|ve (nI aXk)<|ve (aN0 aXm)<|ve (aCb aXd)<|ve (aCb aWX)<|ve (aCb aW2)<|ve (aR6 aXp)<|ve (aR6 aWQ)<|ve (nI aW6)<|ve (nH aW5)<|ve (aR6 aWU<|λ_=>by simp only[Cs,aqG,aOW,Bool.and_self])<|ve (nH aWP)<|ve (aR6 aXf)<|ve (apN aXF)<|ve (nH aWO)<|ve (nH aXv)<|ve (apM aWN)<|ve (aM6 aXy)<|Rk)
def aOX:=ai @bbU<|ai @bbS<|ai @bbY<|ai @bb2<|ai @bb4<|ai @bbV<|ai @bbF<|ai @bbK<|ai @bb7<|ai @bby<|ai @bbO<|ai @bbN<|ai @bbC<|ai @bbx<|ai @bbX<|ai @bcm<|ai @bbw<|ai @bcd<|ai @bbv<|ai @bcg<|@fsR
section
attribute[local irreducible] aX
def a9j:=lA 8 []
def a1p a a1 s0 R:=(.mk _:NR a7w a9j Tryz.f295 [a,a1] [] s0 R).p
def bgR{a a1:AV}{R:j4}(h:H0 λs0=>a1p a a1 s0 R):Ct 295 [a,a1] R:=z0 a9j aOh Tryz.func295 h
def a9h:=lA 36 []
def aU1 a a1 b s0 R:=(.mk _:NR a7w a9h Tryz.f297 [a,a1,b] [] s0 R).p
def bgP{a a1 b:AV}{R:j4}(h:H0 λs0=>aU1 a a1 b s0 R):Ct 297 [a,a1,b] R:=z0 a9h aOh Tryz.func297 h
def a14 a a1 b c R:=(.mk _:NR a7w at1 Tryz.f261 [.u,a1,b] [a] c R).p
def bgZ{c0:List AV}{a1 b:AV}{R:j4}(l0:L c0=6)(h:H1 31 6 3 c0 λia c=>a14 ia a1 b c R):Ct 261 [.a c0,a1,b] R:=z1 at1 aOh Tryz.func261 l0 h
def a9B:=lA 15 [(3,([1,5],[0])),(6,([1],[0,5]))]
def a2z a a1 s0 R:=(.mk _:NR a7w a9B Tryz.f231 [a,a1] [] s0 R).p
def bg8{a a1:AV}{R:j4}(h:H0 λs0=>a2z a a1 s0 R):Ct 231 [a,a1] R:=z0 a9B aOh Tryz.func231 h
def a9P:=lA 18 [(3,([7],[2,3,6])),(10,([40],[2]))]
def a4h a b c R:=(.mk _:NR a7w a9P Tryz.f265 [.u, .u] [a,b] c R).p
def bho{c0:List AV}{b:List AV}{R:j4}(l0:L c0=6)(l1:L b=4)(h:H2 264 6 2 c0 251 4 3 b λia c d=>a4h ia c d R):Ct 265 [.a c0, .a b] R:=z2 a9P aOh Tryz.func265 l0 l1 h
def a0m a b R:=(.mk _:NR a7w a9j Tryz.f268 [.u] [a] b R).p
def bgz{c0:List AV}{R:j4}(l0:L c0=6)(h:H1 308 6 1 c0 λia b=>a0m ia b R):Ct 268 [.a c0] R:=z1 a9j aOh Tryz.func268 l0 h
def a85:=lA 26 [(20,([56],[3,7]))]
def a0s a a1 b c R:=(.mk _:NR a7w a85 Tryz.f314 [.u,a1,b] [a] c R).p
def bgD{c0:List AV}{a1 b:AV}{R:j4}(l0:L c0=2)(h:H1 196 2 3 c0 λia c=>a0s ia a1 b c R):Ct 314 [.a c0,a1,b] R:=z1 a85 aOh Tryz.func314 l0 h
def a89:=lA 33 [(4,([4,5,6,7,8],[0])),(7,([4,5,6,7],[0,8])),(15,([4,5,6,7],[0,8,9])),(17,([39],[0,4,5,6,7,8,9,36])),(19,([47],[0,4,5,6,7,8,9,36]))]
def a0E a s0 R:=(.mk _:NR a7w a89 Tryz.f237 [a] [] s0 R).p
def bgH{a:AV}{R:j4}(h:H0 λs0=>a0E a s0 R):Ct 237 [a] R:=z0 a89 aOh Tryz.func237 h
def a9d:=lA 29 [(3,([4],[1])),(12,([6],[1])),(21,([8],[1,6,7]))]
def a0T a b R:=(.mk _:NR a7w a9d Tryz.f238 [.u] [a] b R).p
def bgL{c0:List AV}{R:j4}(l0:L c0=2)(h:H1 196 2 1 c0 λia b=>a0T ia b R):Ct 238 [.a c0] R:=z1 a9d aOh Tryz.func238 l0 h
def a8H:=lA 9 [(4,([3,4],[0]))]
def aYP a s0 R:=(.mk _:NR a7w a8H Tryz.f60 [a] [] s0 R).p
def bgd{a:AV}{R:j4}(h:H0 λs0=>aYP a s0 R):Ct 60 [a] R:=z0 a8H aOh Tryz.func60 h
def aZh b a c R:=(.mk _:NR a7w at1 Tryz.f195 [b, .u] [a] c R).p
def bgi{c:AV}{b:List AV}{R:j4}(l1:L b=4)(h:H1 272 4 3 b λia d=>aZh c ia d R):Ct 195 [c, .a b] R:=z1 at1 aOh Tryz.func195 l1 h
def aZj c a b d R:=(.mk _:NR a7w at1 Tryz.f279 [c, .u, .u] [a,b] d R).p
def bgj{d:AV}{b:List AV}{c:List AV}{R:j4}(l1:L b=4)(f:L c=4)(h:H2 272 4 4 b 272 4 5 c λia e g=>aZj d ia e g R):Ct 279 [d, .a b, .a c] R:=z2 at1 aOh Tryz.func279 l1 f h
def a94:=lA 11 [(4,([3,10],[8,9])),(7,([3],[8,9,10]))]
def a5v a b R:=(.mk _:NR a7w a94 Tryz.f229 [.u] [a] b R).p
def bhE{c0:List AV}{R:j4}(l0:L c0=7)(h:H1 40 7 1 c0 λia b=>a5v ia b R):Ct 229 [.a c0] R:=z1 a94 aOh Tryz.func229 l0 h
end
def aUw{a b:AV}:mL (bv U) a b=V a:=rfl
def a7c{a b:AV}:mL (bv I) a b=V b:=rfl
def aXX{P:Int->Prop}{Q:j4}:(∀r,(∃k:Int,r=iv k/\P k)->Q r)=∀k,P k->Q (iv k):=(by grind)
def bd8{a b c d e f g h i j k:AV}:aN (V 11) [a,b,c,d,e,f,g,h,i,j,k]=V (.a [a,b,c,d,e,f,g,h,i,j,k]):=rfl
def rkx{s:aoC}:aN (V 3) (aoC.c s)=V (.a<|aoC.c s):=rfl
def aXb(o a:Int):Ct 295 [iv o,iv a] (λr=>aWE r):=by refine bgR λs0 c b=>?_;simp+contextual only[a1p,u0,u1,aEn,aOX,ar,a6D,QV,aNV,aOe,↓uL]
def aUb:FT:=aRd aXb
def bbT{o a Lw K}:=f201 aUb aXb o a Lw K
def aW9(o a b:Int):Ct 297 [iv o,iv a,iv b] (λr=>aWE r):=by refine bgP λs0 d c=>?_;simp+contextual only[aU1,u0,u1,aPR,a5N,aP1,aOX,ar,a6D,QV,aNV,aOe,↓uL,aU1,aO5,aNK,yp,bsM,not_false_iff]
def aUa:FT:=aSb aW9
def bbR{o a b Lw K}:=f301 aUa aW9 o a b Lw K
def aXj(w:J9)(b n:Int):Ct 261 [.a w.c,iv b,iv n] (λr=>isB r):=by refine bgZ rfl λg f d e=>?_;simp+contextual only[a14,u0,u1,d,ix,rk,ar,aOX,aj,DR,aNP,↓uL];grind [dX]
def aSg:FT:=aSb aXj
def bb1{w b n Lw K}:=f301 aSg aXj w b n Lw K
def aXl(l:List aNZ)(a:Int)(n:L l<1000000):Ct 231 [sl aNZ.c l,iv a] (λr=>isB r):=by refine bg8 λs0 m i=>?_;simp only[a2z];have nx:∀(a b:Int) (k:Nat),k<L l+1->tI (λs:Int×Nat=>[iv s.1,iv s.2]) (λs=>s.2<=L l+1) [iv b,iv ((k+1:Nat):Int)]/\pM 1 (L l+1) [iv b,iv ((k+1:Nat):Int)]<pM 1 (L l+1) [iv a,iv k]:=λa b k e=>wN (enc:=λs:Int×Nat=>[iv s.1,iv s.2]) (s:=(a,k)) (s':=(b,k+1)) rfl rfl rfl e e;refine yh (λs:Int×Nat=>[iv s.1,iv s.2]) 1 (L l+1) (λs=>s.2<=L l+1) (a,0) (by simp) ?_;rintro⟨f,k⟩ e;simp+contextual only[qz 39,qz 41,qz 19,a7i,aI,au,u0,u1,ixv,rk,pz,ar,aOX,aNP,aNV,aO5,rr,↓uL];intro j h;have g:k<L l+1:=(by grind);have d:aF (L l) f:=(by simp at h;exact⟨by omega,by omega⟩);rw[fX<|by omega];exact⟨d,λ_=>⟨d,λ_=>⟨d,nx _ _ _ g⟩,λ_=>nx _ _ _ g⟩⟩
def aUe:FT:=pn aXl
def bb3{l a Lw K}:=f211 aUe aXl l a Lw K (j:=by simp+contextual only[ij,ijv])
def a8e(i:aNZ)(s:aNQ):Prop:=i.op=7\/i.op=9->aF (L s.y7) i.k
def aXw(i:aNZ)(s:aNQ)(b:a8e i s):Ct 265 [.a i.c, .a s.c] (λr=>isI r):=by refine bho rfl rfl λj g d e f=>?_;simp+contextual only[qz 63,qz 65,qz 21,qz 23,a4h,a7i,aI,au,u0,u1,d,e,ix,rk,pz,ar,aOX,aj,aPG,aNV,aOe,aO5,rr,↓uL];simp only[yp,aNK,sr,aQ6,aNV,GL];exactλ_ _=>⟨λh=>b<|.inl h,λ_ h=>b<|.inr h⟩
def aUn:FT:=pn aXw
def bce{i s Lw K}:=f211 aUn aXw i s Lw K (j:=by simp+contextual only[ij,ijv])
def aWV(d:w6):Ct 268 [.a d.c] (λr=>isB r):=by refine bgz rfl λg f b e=>?_;simp+contextual only[a0m,u0,u1,b,pz,ar,aOX,aj,aRB,aNP,aNV,aOe,↓uL]
def aT3:FT:=aP7 aWV
def bbD{d Lw K}:=aRM aT3 aWV d Lw K (j:=by simp+contextual only[ij,ijv])
def slc{Y:ae}{K:j4}{i:Int}{l:List ByteArray}:rV (fo 1 Y (sl cs l) J (V<|iv i) J) K=((0<=i/\i<=L l)/\K (sl cs<|l.take i.toNat)):=aIk λ_=>rfl
def aWZ(p:aQl)(t:Int)(s:ByteArray)(e:PrB p):Ct 314 [.a p.c,iv t,st s] (λr=>∃k,r=iv k/\(k=5->0<=aOB p.bm0 s)):=by obtain⟨g,j,l⟩:=e;refine bgD rfl λq o b f=>?_;have d:=aTb (p:=λi=>Q<|(gd p.bm0 i).name=s) (n:=L p.bm0);have m:∀t:Int,L (gd p.ay t.toNat).locs<4611686018427387904:=λt=>(by by_cases h:t.toNat<L p.ay;grind [asq];rw[gd,List.getD_eq_getElem?_getD,List.getElem?_eq_none<|by omega];decide);rw[<-aOB] at d;simp+contextual only[qz 123,qz 125,a0s,a7i,aI,au,u0,u1,b,ixv,rk,pz,ar,aOX,aj,a6n,↓uL];simp only[aF];(try simp only[yp,aNK,bN,bik,aNS,bsM]);grind
def aT5:FT:=vn aWZ
def bbH{p t s Lw K}:=f311 aT5 aWZ p t s Lw K (j:=by simp+contextual only[ij,ijv])
def aW3(l:List w6)(N:L l<1000):Ct 237 [sl w6.c l] (λr=>aQ1 r):=by
 refine bgH λs0 E G=>?_
 simp only[a0E]
 refine jD (α:=Int×Int×Int×Int) (λs i=>[iv s.1,iv s.2.1,iv s.2.2.1,iv s.2.2.2,iv i]) 4 (L l) (λ_ _ Y=>L Y=4096) (s0:=(0,0,0,0)) E ?_
 rintro k ⟨a,b,c,d⟩ Y M e
 have nx:∀(x y z u:Int) Y',L Y'=4096->k<L l->yI (λ(s:Int×Int×Int×Int) i=>[iv s.1,iv s.2.1,iv s.2.2.1,iv s.2.2.2,iv i]) (L l) (λ_ _ Y=>L Y=4096) [iv x,iv y,iv z,iv u,iv<|dq.wrap<|(k:Int)+1] Y'/\gM 4 (L l) [iv x,iv y,iv z,iv u,iv<|dq.wrap<|(k:Int)+1] Y'<gM 4 (L l) [iv a,iv b,iv c,iv d,iv k] Y:=λx y z u Y' m g=>
  dR (mk:=λ(s:Int×Int×Int×Int) i=>[iv s.1,iv s.2.1,iv s.2.2.1,iv s.2.2.2,iv i]) (s:=(a,b,c,d)) (s':=(x,y,z,u)) (λ_ _=>rfl) g (by omega) m
 have t:∀{Y:ae} {K:j4} {i:Int},rV (fo 6 Y (sl w6.c l) J (V<|iv i) J) K=((0<=i/\i<=L l)/\K (sl w6.c<|l.take i.toNat)):=aIk λ_=>rfl
 simp only[qz 25,aI,au,u0,u1,aO2,rr,aNV,aO5,qz 47,qy 2,ixv,bh,pz,rr,↓uL]
 intro h
 have f:=aL h
 refine⟨dJ f,anu e λv A w F B=>?_⟩
 have o:L A=4096:=w.len.trans e
 have j:(0:Int)<=k/\(k:Int)<=L l:=(by omega)
 have D:=aTb (p:=λi=>Q<|(gd (l.take k) i).name=(gd l k).on) (n:=L<|l.take k)
 have q:L (l.take k)<4611686018427387904:=by simp;omega
 have C:Q (aOB (l.take k) (gd l k).on<0)=I->aF (L l) (aOB (l.take k) (gd l k).on):=λh=>by
  simp only[aNK] at h
  have H:L (l.take k)<=L l:=by simp only[List.length_take];omega
  exact⟨by omega,by have:=D.2;rw[aOB];omega⟩
 simp+contextual only[qz 4,t,bh,u0,u1,B,rk,pz,aj,ar,aOX,rr,aO2,aNV,aO5,qz 45,qz 93,qz 117,qz 119,qz 105,qz 107,qz 95,qz 4,j,ixv,C,nx,f,o,q,aRW,aOe,↓uL]
def aT7:FT:=om aW3
def bbL{l Lw K}:=f111 aT7 aW3 l Lw K (j:=by simp+contextual only[ij,ijv])
def aW7(p:aQl)(B:PrB p):Ct 238 [.a p.c] (λr=>aQ1 r):=by refine bgL rfl λm t o D=>?_;obtain⟨E,G,y⟩:=B;simp only[a0T];have w:∀{Y:ae} {K:j4} {i:Int},rV (fo 4 Y (sl aO6.c p.ay) J (V<|iv i) J) K=((0<=i/\i<=L p.ay)/\K (sl aO6.c<|p.ay.take i.toNat)):=aIk λ_=>rfl;refine yV (L p.ay) (λ_ _ Y=>Fx m Y []) (Fx.refl _ _) ?_;rintro k _ Y A F;have e:=F.kq o;have f:L Y=4096:=F.len.trans t;simp only[qz 19,qy 4,aI,au,u0,u1,e,rk,pz,aj,ixv,bh,↓uL];refine⟨λh=>⟨u7 h,anu f λv n d x g=>?_⟩,λh=>?_⟩;have b:=aL h;have l:=d.kq e;have q:(0:Int)<=k/\(k:Int)<=L p.ay:=(by omega);have u:L (p.ay.take k)<4611686018427387904:=(by simp;omega);have nx:=dR (mk:=λ(_:Unit) i=>[iv i]) (p:=0) (s:=()) (s':=()) (Inv:=λ_ _ Y=>Fx m Y []) (Y:=Y) (Y':=n) (λ_ _=>rfl) b (by omega)<|F.trans d;simp+contextual only[qz 6,w,bh,u0,u1,l,g,pz,aj,ar,aOX,rr,aO2,aNV,aO5,q,u,nx,↓uL];omega;refine yV (L p.ay) (λ_ _ Y=>Fx m Y []) F ?_;rintro k _ Y A F;have e:=F.kq o;have f:L Y=4096:=F.len.trans t;simp only[qz 73,qy 8,aI,au,u0,u1,e,rk,pz,aj,ixv,bh,rr,aO2,aNV,aO5,↓uL];refineλh=>⟨u7 h,anu f λv n d x g=>?_⟩;have b:=aL h;have l:=d.kq e;simp+contextual only[qz 10,u0,u1,g,pz,aj,rr,aO2,aNV,GL,↓uL];intro H;have C:=y _<|asq b;refine bhZ (L (gd p.ay k).locs) (λ_=>True) trivial λj M _=>?_;simp+contextual only[qz 127,aI,au,u0,u1,l,g,rk,pz,aj,ix,bh,ar,aOX,rr,aO2,aNV,slc,↓uL];refine⟨λz=>?_,λz=>dR (mk:=λ(_:Unit) i=>[iv i]) (s:=()) (s':=()) (λ_ _=>rfl) b (by omega)<|F.trans d⟩;grind [aL,dJ,gS]
def aT9:FT:=om aW7
def bbP{p Lw K}:=f111 aT9 aW7 p Lw K (j:=by simp+contextual only[ij,ijv])
def cu(x:Int):List AV:=[.s<|.int .u8 x]
def a6E{Y:ae}{K:j4}{i:Int}{l:List Int}:rV (cz 1 Y (sl cu l)<|iv i) K=(aF (L l) i/\K (.q<|cu<|gd l i.toNat)):=aBz λ_=>rfl
theorem bcP{x y:Int}:(cu x=cu y)=(x=y):=by simp[cu]
def aQZ{l l':List Int}:(sl cu l=sl cu l')=(l=l'):=(by grind [kL,bcP])
def aWH(l:List Int)(t:L l<1000):Ct 60 [sl cu l] (λr=>∃cs:List BF,r=sl BF.c cs/\L cs=L l):=by refine aDq (bgd λs0 n o=>?_);simp only[aYP];refine jD (α:=AV) (λa i=>[a,iv i]) 1 (L l) (λk a Y=>L Y=4096/\∃cs:List BF,L cs=k/\bc Y 170 2 a (cs.map BF.c)) (s0:= .l [] U U) ⟨n,[],rfl,bc.nil⟩ ?_;rintro k a Y q ⟨b,cs,m,d⟩;simp+contextual only[qz 25,qy 2,aI,au,u0,u1,a6E,bh,cu,qM,aS6,aPR,a5N,aP1,↓uL];refine⟨λh=>⟨u7 h,by decide,u7 h,by decide,by decide,?_⟩,λh=>?_⟩;generalize(dq.wrap<|gd l k).tmod 4=x;generalize dq.wrap ((dq.wrap<|(dq.wrap<|gd l k).tdiv 4).tmod 5-1)=y;have e:bM buY bmK [(0,iv x),(1,iv y)]=V (.a<|BF.c ⟨x,y⟩):=rfl;have f:aX buT 1 Y [(0, .a<|BF.c ⟨x,y⟩)]=V (.l ([(⟨x,y⟩:BF)].map BF.c) U U,Y):=ua rfl rfl rfl (by decide) rfl (by decide);simp only[e,f,aY,bQ];refine apQ d.p b (by grind [BF.c]) (by grind [BF.c]) (by simp) (by simp;omega) λj Y' g F N=>?_;refine dT (by first|rfl|(simp[eL,okT,tok,lb,cq,Qh,m8,dC,pP,dK];done)) ?_;simp only[u0,u1,↓uL];refine dR (mk:=λa i=>[a,iv i]) (s:=a) (s':=j) (λ_ _=>rfl) (aL h) (by omega) ⟨F.len.trans b,cs++[⟨x,y⟩],by simp[m],by simp_all⟩;exact aOv (Q:=λr=>∃cs:List BF,r=sl BF.c cs/\L cs=L l) (aWs d.p) (by simp[iX,eN]) ⟨cs,rfl,by grind⟩
def aTT:FT:=om aWH
def bbp{l Lw K}:=f111 aTT aWH l Lw K (j:=by simp+contextual only[ij,aQZ])
def aWL(s:ByteArray)(e:lD):Ct 195 [st s, .a e.c] (·= .a (NA.mk 1 0 s ⟨#[]⟩ [] e [] []).c):=by refine aDq (bgi aN9 λp j f o=>?_);simp only[aZh];refine ic j λv q d m g=>?_;have i:=d.kq f;have b:bM brG alz [(0,iv 1),(2,st s),(5, .a e.c)]=V (.a [iv 1,iv 0,st s,sv [], .l [] U U,iv e.op,iv e.n,st e.name,sl lD.c e.l, .l [] U U, .l [] U U]):=(by rw[aoH];rfl);simp only[qz 4,qy 6,u0,u1,i,pz,b,↓uL];refine stW g rfl rfl λr k h=>?_;simp only[u0,u1,h,bd8,↓uL];exact aQ7 (by rw[a6X];rfl) (by rw[a6X];rfl)
def aPN:FT:=lI aWL
def bbt{s e Lw K}:=f200 aPN aWL s e Lw K (j:=by simp+contextual only[ij,ijv])
def aWM(o:Int)(a b:lD):Ct 279 [iv o, .a a.c, .a b.c] (·= .a (lD.mk o 0 ⟨#[]⟩ [a,b]).c):=by refine aDq (bgj aN9 aN9 λt p h i s=>?_);simp only[aZj];refine ic p λv g d r j=>?_;have m:=d.kq h;have n:=d.kq i;have f:aX bts 2 g [(0, .a a.c),(1, .a b.c)]=V (.l [a.c,b.c] U U,g):=(by rw[aoH (x:=a),aoH (x:=b)];kernel_rfl);simp only[qz 6,u0,u1,m,n,pz,f,↓uL];have e:bM bth brF [(0,iv o),(3, .l [a.c,b.c] U U)]=V (.a [iv o,iv 0,sv [], .l [a.c,b.c] U U]):=rfl;simp only[qz 8,qy 10,e,aY,↓uL];refine stW j rfl rfl λu q k=>?_;simp only[u0,u1,k,uS,↓uL];exact aQ7 (by rw[aoH (x:= .mk o 0 ⟨#[]⟩ [a,b])];rfl) (by rw[aoH (x:= .mk o 0 ⟨#[]⟩ [a,b])];rfl)
def aRg:FT:=za aWM
def bbu{o a b Lw K}:=f300 aRg aWM o a b Lw K (j:=by simp+contextual only[ij,ijv])
def aXG(s:sA)(E:L s.gp.ay<1000):Ct 229 [.a s.c] (λr=>∃l:List Int,r=sl ci l/\L l<=L s.gp.ay):=by refine aDq (bhE rfl λj x t B=>?_);simp only[a5v,u0,u1,t,rk,aj,↓uL];refine jD (α:=AV) (λa i=>[a,iv i]) 1 (L s.gp.ay) (λk a Y=>Fx j Y []/\∃l:List Int,L l<=k/\bc Y 3 1 a (l.map ci)/\∀q∈aA a,ig j q) (s0:= .l [] U U) ⟨Fx.refl _ _,[],by simp,bc.nil,by simp[aA]⟩ ?_;rintro k a Y D ⟨F,l,C,f,w⟩;have d:L Y=4096:=F.len.trans x;simp only[qz 25,aI,au,u0,u1,qz 47,qy 4,ix,bh,rkx,rr,↓uL];refine⟨λh=>⟨u7 h,anu d λv n b A u=>?_⟩,λh=>?_⟩;have e:=aL h;have y:L n=4096:=b.len.trans d;simp+contextual only[qz 6,qy 8,qy 10,u0,u1,u,rk,aj,a5Y,qz 45,↓uL];refine⟨λ_=>?_,λ_=>dR (mk:=λa i=>[a,iv i]) (s:=a) (s':=a) (λ_ _=>rfl) e (by omega) ⟨F.trans b,l,by omega,f.fx b (by simp),w⟩⟩;refine qs (f.fx b<|by simp).p rfl (by decide) (by omega) pU pU (by simp) (by simp;omega) λo Y' g m z=>?_;refine dR (mk:=λa i=>[a,iv i]) (s:=a) (s':=o) (λ_ _=>rfl) e (by omega) ⟨((F.trans b).trans m).mono λq G=> .inr ?_,l++[(k:Int)],by simp;omega,by simp_all,by grind [ig.old]⟩;grind [ig.no];exact aOv (Q:=λr=>∃l:List Int,r=sl ci l/\L l<=L s.gp.ay) (aWs f.p) (by simp[iX,eN]) ⟨l,rfl,by omega⟩
def aSk:FT:=om aXG
def bcn{s Lw K}:=f111 aSk aXG s Lw K
def a7x:dO:=(295,aUb)::(297,aUa)::(261,aSg)::(231,aUe)::(265,aUn)::(268,aT3)::(314,aT5)::(237,aT7)::(238,aT9)::(60,aTT)::(195,aPN)::(279,aRg)::(229,aSk)::a7w
def aNH:eJ a7x:=ve (aYm aXb) (ve (a7W aW9)<|ve (a7W aXj)<|ve (aN0 aXl)<|ve (aN0 aXw)<|ve (aR6 aWV)<|ve (By aWZ)<|ve (rj aW3)<|ve (rj aW7)<|ve (rj aWH)<|ve (nI aWL<|λ_ _=>by simp only[Cs,aqG,aOW,Bool.and_self])<|ve (Rs aWM<|λ_ _ _=>by simp only[Cs,aqG,aOW,Bool.and_self])<|ve (rj aXG)<|aOh)
def aD6:=ai @bbT<|ai @bbR<|ai @bb1<|ai @bb3<|ai @bce<|ai @bbD<|ai @bbH<|ai @bbL<|ai @bbP<|ai @bbp<|ai @bbt<|ai @bbu<|ai @bcn<|@aOX
section
attribute[local irreducible] aX
def a1l a a1 b c d e R:=(.mk _:NR a7x a8V Tryz.f301 [.u,a1,b,c,d] [a] e R).p
def bgO{c0:List AV}{a1 b c d:AV}{R:j4}(l0:L c0=2)(h:H1 196 2 5 c0 λia e=>a1l ia a1 b c d e R):Ct 301 [.a c0,a1,b,c,d] R:=z1 a8V aNH Tryz.func301 l0 h
def a86:=lA 10 [(4,([4,5,6],[1]))]
def a0v a b R:=(.mk _:NR a7x a86 Tryz.f315 [.u] [a] b R).p
def bgE{c0:List AV}{R:j4}(l0:L c0=4)(h:H1 272 4 1 c0 λia b=>a0v ia b R):Ct 315 [.a c0] R:=z1 a86 aNH Tryz.func315 l0 h
def a0n a s0 R:=(.mk _:NR a7x a8H Tryz.f239 [a] [] s0 R).p
def bgA{a:AV}{R:j4}(h:H0 λs0=>a0n a s0 R):Ct 239 [a] R:=z0 a8H aNH Tryz.func239 h
def a8X:=lA 14 [(7,([4],[1]))]
def aSt a b R:=(.mk _:NR a7x a8X Tryz.f312 [.u] [a] b R).p
def bgv{c0:List AV}{R:j4}(l0:L c0=4)(h:H1 272 4 1 c0 λia b=>aSt ia b R):Ct 312 [.a c0] R:=z1 a8X aNH Tryz.func312 l0 h
def a9D:=lA 35 [(11,([59],[2,3,6])),(14,([78],[2,3,6])),(19,([98],[2,3,6])),(23,([108],[2,3,6]))]
def a2F b a c R:=(.mk _:NR a7x a9D Tryz.f230 [.u, .u] [b,a] c R).p
def bha{c0:List AV}{b:List AV}{R:j4}(l0:L c0=6)(l1:L b=6)(h:H2 31 6 2 c0 264 6 3 b λia c d=>a2F ia c d R):Ct 230 [.a c0, .a b] R:=z2 a9D aNH Tryz.func230 l0 l1 h
end
def aW8(p:aQl)(t:Int)(s:ByteArray)(a b:Int)(e:PrB p):Ct 301 [.a p.c,iv t,st s,iv a,iv b] (λr=>∃k,r=iv k/\(k=0->a=5->b=5->0<=aOB p.bm0 s)):=by refine bgO rfl λh g d f=>?_;simp+contextual only[a1l,u0,u1,d,pz,ar,Fa,aD6,e,aXX,a6n];grind
def aOd:FT:=aTQ aW8
def bbQ{p t s a b Lw K}:=bbn aOd aW8 p t s a b Lw K (j:=by simp+contextual only[ij,ijv])
def aW0(e:lD)(f:∃n,shE n e):Ct 315 [.a e.c] (λr=>aQ1 r):=by obtain⟨n,f⟩:=f;induction n generalizing e with|zero=>exact f.elim|succ n j=>have i:=f.len;refine bgE aN9 λp o g m=>?_;simp only[a0v];refine yh (λs:Int×Int×Nat=>[iv s.1,iv s.2.1,iv s.2.2]) 2 (L e.l) (λ_=>True) (1,0,0) trivial ?_;rintro⟨a,b,k⟩ _;simp only[qz 25,aI,au,u0,u1,g,pz,aj,ixv,bh,rr,jM,kU,jt,Fa,aO2,aNV,aO5];intro h;have d:=aL h;refine⟨dJ d,aPW (j _<|f.2 _<|asq d) (aV2 a6h) ?_⟩;rintro r ⟨x,y,rfl⟩;simp only[u0,u1,rr,aRW,GL];exact wN (enc:=λs:Int×Int×Nat=>[iv s.1,iv s.2.1,iv s.2.2]) (s:=(a,b,k)) (s':=(_,_,k+1)) (by rw[fX<|by omega]) rfl rfl d trivial
def aT6:FT:=om aW0
def bbI{e Lw K}:=f111 aT6 aW0 e Lw K (j:=by simp+contextual only[ij,ijv])
def aWW(l:List NA)(d:∃n,shL n 8 l):Ct 239 [sl NA.c l] (λr=>isI r):=by obtain⟨n,d⟩:=d;induction n using Nat.strongRecOn generalizing l with|ind n f=>obtain⟨j,g⟩:=d;refine bgA λs0 o i=>?_;simp only[a0n,u0,u1];refine yh (λs:Int×Nat=>[iv s.1,iv s.2]) 1 (L l) (λ_=>True) (L l,0) trivial ?_;rintro⟨a,k⟩ _;simp only[qz 25,aI,au,u0,u1,ixv,rr,pz,bh,jM,kU,jt,alg,aPG,aNV,aO5];intro h;have b:=aL h;obtain⟨m,rfl,g1,e⟩:=(g _<|asq b).body;refine⟨dJ b,aPW (f m (by omega) _ ⟨by have:=g1.1;omega,g1.2⟩) rfl ?_⟩;rintro r ⟨x,rfl⟩;simp only[u0,u1,AL,GL];refine⟨dJ b,aPW (f m (by omega) _ ⟨by have:=e.1;omega,e.2⟩) rfl ?_⟩;rintro r ⟨y,rfl⟩;simp only[u0,u1,AL,GL];exact wN (enc:=λs:Int×Nat=>[iv s.1,iv s.2]) (s:=(a,k)) (s':=(_,k+1)) (by rw[fX<|by omega]) rfl rfl b trivial
def aT4:FT:=om aWW
def bbE{l Lw K}:=f111 aT4 aWW l Lw K (j:=by simp+contextual only[ij,ijv])
def aWS(e:lD)(f:∃n,shE n e):Ct 312 [.a e.c] (λr=>isB r):=by obtain⟨n,f⟩:=f;induction n generalizing e with|zero=>exact f.elim|succ n p=>have o:=f.len;refine bgv aN9 λu t g q=>?_;simp only[aSt];generalize m:@qp _ 43 ⟨_⟩=Lw;have d:lR [iv 0] Lw:=(by rw[<-m];refine bhZ (L e.l) (λ_=>True) trivial λk s _=>?_;simp only[qz 43,aI,au,u0,u1,g,pz,aj,ixv,bh,rr,jM,kU,jt,Fa,aNP,aNV,aO5];intro h;have i:=aL h;refine⟨dJ i,aPW (p _<|f.2 _<|asq i) (aV2 a6h) ?_⟩;rintro r ⟨x,rfl⟩;simp only[u0,u1,AL,GL,aNV];grind [gS]);have b:e.op=2\/e.op=3\/(e.op≠2/\e.op≠3):=(by omega);rcases b with b|b|⟨j,b⟩;simp+contextual only[u0,u1,g,pz,ar,aD6,aj,rr,aRB,aNP,aNV,b,brp,d,aUw,Bool.and_self,↓jN];simp+contextual only[u0,u1,g,pz,ar,aD6,aj,rr,aRB,aNP,aNV,b,brp,bq0,Bool.or_true,d,Int.reduceEq,aUw,Bool.and_self,↓jA];simp+contextual only[u0,u1,g,pz,ar,aD6,aj,rr,aRB,aNP,aNV,j,b,bq0,d,a7c,Bool.and_self,↓jA,↓jN]
def aRh:FT:=om aWS
def bbA{e Lw K}:=f111 aRh aWS e Lw K (j:=by simp+contextual only[ij,ijv])
def aXn(w:J9)(i:aNZ):Ct 230 [.a w.c, .a i.c] (λr=>isB r):=by refine bha rfl rfl λg f b d e=>?_;simp+contextual (maxSteps:=2000000) only[qz 141,qz 143,qz 117,qz 119,qz 87,qz 89,qz 69,qz 71,a2F,a7i,au,u0,u1,b,d,ix,rk,pz,ar,aD6,aj,rr,aNP,DR,aNV,aOe];(try simp only[yp,aNK,bN,bik,aNS,bsM]);(repeat' (first|apply ai|intro _));all_goals first|omega|trivial
def aUf:FT:=aRd aXn
def bb5{w i Lw K}:=f201 aUf aXn w i Lw K (j:=by simp+contextual only[ij,ijv])
def a7y:dO:=(301,aOd)::(315,aT6)::(239,aT4)::(312,aRh)::(230,aUf)::a7x
def aR1:eJ a7y:=ve (bhJ aW8) (ve (rj aW0<|λ_=>by simp only[Cs,aqG,aOW,Bool.and_self])<|ve (rj aWW<|λ_=>by simp only[Cs,aqG,aOW,Bool.and_self])<|ve (rj aWS<|λ_=>by simp only[Cs,aqG,aOW,Bool.and_self])<|ve (aYm aXn)<|aNH)
def aRO:=ai @bbQ<|ai @bbI<|ai @bbE<|ai @bbA<|ai @bb5<|@aD6
section
attribute[local irreducible] aX
def a9a:=lA 13 [(2,([7],[1,3,5])),(8,([7,8],[1,3,5]))]
def a0O b a1 a c R:=(.mk _:NR a7y a9a Tryz.f316 [.u,a1, .u] [b,a] c R).p
def bgI{c0:List AV}{a1:AV}{b:List AV}{R:j4}(l0:L c0=2)(d:L b=4)(h:H2 196 2 3 c0 272 4 5 b λia c e=>a0O ia a1 c e R):Ct 316 [.a c0,a1, .a b] R:=z2 a9a aR1 Tryz.func316 l0 d h
def a8Y:=lA 23 []
def aUS a b R:=(.mk _:NR a7y a8Y Tryz.f298 [.u] [a] b R).p
def bgw{c0:List AV}{R:j4}(l0:L c0=11)(h:H1 274 11 1 c0 λia b=>aUS ia b R):Ct 298 [.a c0] R:=z1 a8Y aR1 Tryz.func298 l0 h
def a8Z:=lA 10 [(3,([3],[0]))]
def a0g a s0 R:=(.mk _:NR a7y a8Z Tryz.f269 [a] [] s0 R).p
def bgx{a:AV}{R:j4}(h:H0 λs0=>a0g a s0 R):Ct 269 [a] R:=z0 a8Z aR1 Tryz.func269 h
def a9F:=lA 30 [(7,([8],[1,3,5,7])),(23,([11],[1,3,5,7,8,10]))]
def a2R b a1 a c R:=(.mk _:NR a7y a9F Tryz.f186 [.u,a1, .u] [b,a] c R).p
def bhb{c0:List AV}{a1:AV}{b:List AV}{R:j4}(l0:L c0=6)(d:L b=2)(h:H2 31 6 3 c0 247 2 5 b λia c e=>a2R ia a1 c e R):Ct 186 [.a c0,a1, .a b] R:=z2 a9F aR1 Tryz.func186 l0 d h
end
def aW4(p:aQl)(t:Int)(e:lD)(d:PrB p/\∃n,shE n e):Ct 316 [.a p.c,iv t, .a e.c] (λr=>isI r):=by obtain⟨j,n,d⟩:=d;induction n generalizing e with|zero=>exact d.elim|succ n q=>have o:=d.len;refine bgI rfl aN9 λw v g i u=>?_;simp only[a0O];generalize m:@qp _ 49 ⟨_⟩=Lw;have f:∀x:Int,lR [iv x,iv 0] Lw:=(by intro x;rw[<-m];refine yh (λs:Int×Nat=>[iv s.1,iv s.2]) 1 (L e.l) (λ_=>True) (x,0) trivial ?_;rintro⟨a,k⟩ _;simp+contextual only[qz 49,aI,au,u0,u1,g,i,pz,aj,ixv,bh,rr,jM,kU,jt,Fa,aPG,tW,aNV,aO5];intro h;have b:k<L e.l:=(by simp_all);refine⟨dJ b,aPW (q _<|d.2 _<|asq b) (by simp only[Cs,aqG,aOW,Bool.and_self]) ?_⟩;rintro r ⟨y,rfl⟩;simp only[AL,GL];exact wN (enc:=λs:Int×Nat=>[iv s.1,iv s.2]) (s:=(a,k)) (s':=(y,k+1)) (by grind [fX]) rfl rfl b trivial);simp+contextual only[a7i,qz 17,qz 15,aI,au,u0,u1,g,i,pz,aj,aRO,j,aXX,AL,ar,Fa,f,aNV,aOe]
def aT8:FT:=vn aW4
def bbM{p t e Lw K}:=f311 aT8 aW4 p t e Lw K (j:=by simp+contextual only[ij,ijv])
def aX1(n:Nat)(h:∀s,shS n s->Ct 298 [.a s.c] isB)(l:List NA)(i:L l<=8)(hs:∀s∈l,shS n s):Ct 269 [sl NA.c l] isB:=by refine bgx λs0 e f=>?_;simp only[a0g];refine bhZ (L l) (λ_=>True) trivial λk g _=>?_;simp only[qz 19,aI,au,u0,u1,ixv,bh,rr,pz,jM,kU,jt,Fa,aNP,aNV,aO5];intro d;have b:=aL d;refine⟨dJ b,aPW (h _<|hs _<|asq b) (aV2 aS7) ?_⟩;rintro r ⟨x,rfl⟩;simp only[u0,u1,AL,GL,aNV];grind [gS]
set_option maxHeartbeats 8000000 in
def a7f:∀(n:Nat) (s:NA),shS n s->Ct 298 [.a s.c] isB:=by intro n;induction n with|zero=>intro s h;exact h.elim|succ n o=>intro s l;have A:=l.at;obtain⟨m,C,g1,q⟩:=l.body;obtain rfl:n=m:=(by omega);refine bgw bit λd B f z=>?_;have hI:Q ((L s.index:Int)=1)=U->∃n,shE n (gd s.index 0):=(by grind [asq]);have u:s.op=1\/s.op=2\/s.op=3\/s.op=14->∃n,shE n s.expr:=(by grind);have k:fW (cX 269) [sl NA.c s.body] (lo d [sl NA.c s.body]) (λb=>gR (gP U b) (λg=>g<|AV.p (1,1) 0 10) λt=>gR (gP U b) (λg=>rV (vp J d t) λv=>g v) λe=>gR (gP U b) (λg=>fW (cX 269) [dG d e] (lo d [e]) λv=>g v) λi=>rV (mL b i<|bv I) λj=>aE isB d [j]):=(by refine aPW (aX1 n o _ (by omega) g1.2) rfl ?_;rintro r ⟨x,rfl⟩;(cases x);simp only[u0,AL,a7c,aNP,u1,jN,GL];simp only[u0,u1,AL,GL,jA,f,pz,alg,aUw];refine aPW (aX1 n o _ (by omega) q.2) rfl ?_;rintro r ⟨y,rfl⟩;simp only[AL,u1,aNP,GL]);have cs:(Q (s.op<1)||Q (15<s.op))=U\/s.op=1\/s.op=2\/s.op=3\/s.op=4\/s.op=5\/s.op=6\/s.op=7\/s.op=8\/s.op=9\/s.op=10\/s.op=11\/s.op=12\/s.op=13\/s.op=14\/s.op=15:=(by grind);rcases cs with h|h|h|h|h|h|h|h|h|h|h|h|h|h|h|h;simp+contextual only[aUS,u0,u1,f,pz,aj,h,aNP,↓iC];trace_state;all_goals(try have w:=u<|by omega);simp+contextual only[aUS,u0,u1,f,rk,pz,ar,Fa,aRO,aj,rr,rg,ixv,Gx,aRB,aNP,h,k,brp,bq0,Int.reduceLT,Int.reduceEq,Int.reduceLE,bsM,bBu,bBv,aUw,a7c,↓jA,↓jN,Bool.and_self,aNV,aO5];(try simp only[aF,yp,aNK,bN,Bool.or_eq_true,cP,bik,aNS,eH,fK]);simp_all
def a6L(s:NA)(b:∃n,shS n s):Ct 298 [.a s.c] (λr=>isB r):=by obtain⟨n,b⟩:=b;exact a7f n s b
def a8a:FT:=om a6L
def aWT(l:List NA)(a:∃n,shL n 8 l):Ct 269 [sl NA.c l] (λr=>isB r):=by obtain⟨n,a⟩:=a;exact aX1 n (a7f n) l a.1 a.2
def aT1:FT:=om aWT
def bbB{l Lw K}:=f111 aT1 aWT l Lw K (j:=by simp+contextual only[ij,ijv])
def aYh(c:aTo):Prop:=0<=c.y7/\c.y7<=32/\∀k,k<L c.bid->∀j∈a6z (gd c.bid k),0<=j/\j<c.y7
def aTv{P:Bool->Prop}{Q:j4}:(∀r,(∃b:Bool,r=bv b/\P b)->Q r)=∀b,P b->Q (bv b):=(by grind)
def aPA{a:Bool}{p:Bool->Prop}:(∃k,bv a=bv k/\p k)=p a:=(by simp)
def bd5{l:List Int}{Q:j4}:(∀r,aRU l r->Q r)=∀t o,Q (.l (l.map ci) t o):=QS
def bdN{Y:ae}{x:aNZ}{r:AV}:lo Y [.a x.c] r=True:=by simp[lo,nA,eB,iR,aNZ.c]
def aXo(w:J9)(t:Int)(c:aTo)(H:L c.bid<1000000):Ct 186 [.a w.c,iv t, .a c.c] (λr=>∃b,r=bv b/\(b=U->aYh c)):=by refine bhb rfl rfl λK E z g P=>?_;simp+contextual only[a2R,u0,u1,g,pz,ar,aj,aPA,eE,aQ6,aNV];intro f;refine yV (L c.bid) (λk _ Y=>Fx K Y []/\∀u,u<k->∀j∈a6z (gd c.bid u),0<=j/\j<c.y7) ⟨Fx.refl _ _,by simp⟩ ?_;rintro k _ Y W ⟨F,hI⟩;have p:L Y=4096:=F.len.trans E;have B:=F.kq z;have l:=F.kq g;simp only[qz 43,qy 6,aI,au,u0,u1,l,rk,pz,aj,ixv,bh,aPA];refine⟨λh=>⟨u7 h,anu p λv O e N A=>?_⟩,λh _=>?_⟩;have q:=aL h;have C:=e.kq B;have m:=e.kq l;simp+contextual only[qz 8,au,u0,u1,C,m,A,ix,rk,pz,ar,Fa,aRO,aj,rr,rg,aPA,bd5,bdN,H,eE,aQ6,aNV];refineλx y _=>⟨(by grind [dX]),λ_ _ X o=>?_⟩;refine bhZ (L<|a6z<|gd c.bid k) (λi=>∀d,d<i->0<=gd (a6z<|gd c.bid k) d/\gd (a6z<|gd c.bid k) d<c.y7) (by simp) λi T S=>?_;have G:L (a6z<|gd c.bid k)<=3:=(by grind [a6z]);simp only[qz 139,aI,au,u0,u1,gT,tf,rk,pz,m,bh,aj,ar,aRO,rr,aPA,eE,aQ6,aNV];refine⟨(by grind [dJ,aL,gS,dh]),λR=>?_⟩;refine dR (mk:=λ(_:Unit) i=>[iv i]) (s:=()) (s':=()) (λ_ _=>rfl) q (by omega) ⟨F.trans e,a6p hI λj D=>?_⟩;obtain⟨d,M,rfl⟩:=ou D;grind [bT,bkb,bw];simp at f;have n:k=L c.bid:=(by grind);subst n;exact⟨by omega,by omega,hI⟩
def aUg:FT:=vn aXo
def bAP{w t c Lw K}:=f311 aUg aXo w t c Lw K (j:=by simp+contextual only[ij,ijv])
def a7z:dO:=(316,aT8)::(298,a8a)::(269,aT1)::(186,aUg)::a7y
def aTB:eJ a7z:=ve (By aW4<|λ_ _ _=>by simp only[Cs,aqG,aOW,Bool.and_self]) (ve (rj a6L<|λ_=>by simp only[Cs,aqG,aOW,Bool.and_self])<|ve (rj aWT<|λ_=>by simp only[Cs,aqG,aOW,Bool.and_self])<|ve (By aXo)<|aR1)
def aQT:=ai @bbM<|ai @bbB<|ai @bAP<|@aRO
section
attribute[local irreducible] aX
def a8W:=lA 27 [(3,([3],[1])),(11,([4],[1])),(18,([6],[1,4,5]))]
def a0f a b R:=(.mk _:NR a7z a8W Tryz.f236 [.u] [a] b R).p
def bgu{c0:List AV}{R:j4}(l0:L c0=2)(h:H1 196 2 1 c0 λia b=>a0f ia b R):Ct 236 [.a c0] R:=z1 a8W aTB Tryz.func236 l0 h
def a0r b a1 a c R:=(.mk _:NR a7z a8V Tryz.f302 [.u,a1, .u] [b,a] c R).p
def bgC{c0:List AV}{a1:AV}{b:List AV}{R:j4}(l0:L c0=2)(d:L b=4)(h:H2 196 2 3 c0 272 4 5 b λia c e=>a0r ia a1 c e R):Ct 302 [.a c0,a1, .a b] R:=z2 a8V aTB Tryz.func302 l0 d h
def a9p:=lA 13 [(6,([3],[1]))]
def a1N a b R:=(.mk _:NR a7z a9p Tryz.f119 [.u] [a] b R).p
def bgX{c0:List AV}{R:j4}(l0:L c0=7)(h:H1 129 7 1 c0 λia b=>a1N ia b R):Ct 119 [.a c0] R:=z1 a9p aTB Tryz.func119 l0 h
end
def aWR(p:aQl)(u:shP p):Ct 236 [.a p.c] (λr=>isB r):=by obtain⟨⟨A,B,C⟩,D,o⟩:=u;refine bgu rfl λw t e z=>?_;simp only[a0f];refine bhZ (L p.bm0) (λ_=>True) trivial λk q _=>?_;simp+contextual only[qz 19,aI,au,u0,u1,e,rk,pz,aj,ixv,bh,ar,Fa,aQT,rr,aNP,aNV];refine⟨λh=>⟨u7 h,by grind [gS,aL]⟩,λ_=>?_⟩;refine yV (L p.ay) (λ_ _ Y=>Fx w Y []) (Fx.refl _ _) ?_;rintro k _ Y q F;have n:=F.kq e;have f:L Y=4096:=F.len.trans t;simp only[qz 67,qy 4,qy 6,aI,au,u0,u1,n,rk,pz,aj,ixv,bh,aNP,aNV,aO5];intro h;have d:=aL h;refine⟨dJ d,anu f λv y l x m=>?_⟩;have g:=o _<|asq d;refine bhZ (L (gd p.ay k).locs) (λ_=>True) trivial λj E _=>?_;simp+contextual only[qz 109,aI,au,u0,u1,m,rk,pz,aj,ix,bh,ar,aQT,rr,rg,aNP,aNV];refine⟨λh=>⟨u7 h,λ_=>gS (aL h) (by have:=g.1;omega) trivial⟩,λ_=>⟨λ_=>⟨4,g.2⟩,λb _=>dR (mk:=λ(_:Unit) i=>[iv i]) (s:=()) (s':=()) (λ_ _=>rfl) d (by omega)<|F.trans l⟩⟩
def aT0:FT:=om aWR
def bbz{p Lw K}:=f111 aT0 aWR p Lw K (j:=by simp+contextual only[ij,ijv])
def aWY(p:aQl)(t:Int)(e:lD)(f:PrB p/\∃n,shE n e):Ct 302 [.a p.c,iv t, .a e.c] (λr=>isI r):=by refine bgC rfl aN9 λi h b d g=>?_;simp+contextual only[a0r,u0,u1,b,d,pz,ar,Fa,aQT,f,rr,aPG,aNV,aOe]
def aP8:FT:=vn aWY
def bbG{p t e Lw K}:=f311 aP8 aWY p t e Lw K (j:=by simp+contextual only[ij,ijv])
def aPU(c:aBY):Prop:=mQ c.aQ=U/\L c.ay=L c.aQ.ay/\∀t∈c.ay,aYh t
def aOc(c:aBY):Prop:=L c.ay<1000/\∀t∈c.ay,L t.bid<1000000
def aXh(c:aBY)(f:aOc c):Ct 119 [.a c.c] (λr=>∃b,r=bv b/\(b=U->aPU c)):=by obtain⟨i,e⟩:=f;refine bgX rfl λp n d g=>?_;simp+contextual only[a1N,u0,u1,d,pz,aj,ar,aQT,rr,aPA,eE,aQ6,aNV];intro o;refine bhZ (L c.ay) (λk=>∀j,j<k->aYh (gd c.ay j)) (by simp) λk m l=>?_;simp+contextual only[qz 37,aI,au,u0,u1,d,rk,pz,aj,ixv,bh,ar,Fa,aQT,rr,aTv,aPA,eE,aQ6,aNV];refine⟨λh=>⟨u7 h,e _<|asq<|aL h,by grind [gS,aL]⟩,λh _=>⟨?_,?_,?_⟩⟩;simp_all;grind;grind [ou,bT,bkb,bw]
def aRk:FT:=om aXh
def bbZ{c Lw K}:=f111 aRk aXh c Lw K (j:=by simp+contextual only[ij,ijv])
def aYb:dO:=(236,aT0)::(302,aP8)::(119,aRk)::a7z
def aTC:eJ aYb:=ve (rj aWR) (ve (By aWY<|λ_ _ _=>by simp only[Cs,aqG,aOW,Bool.and_self])<|ve (rj aXh)<|aTB)
def aQU:=ai @bbz<|ai @bbG<|ai @bbZ<|@aQT
section
attribute[local irreducible] aX
def a9e:=lA 11 [(3,([9],[0,1,2,3]))]
def aUX a a1 b c s0 R:=(.mk _:NS aYb a9e Tryz.f299 [a,a1,b,c] [] s0 R).p
def bgM{a a1 b c:AV}{s0:ae}{R:be}(hs:L s0=4096)(h:aUX a a1 b c s0 R):EB 299 [a,a1,b,c] s0 R:=zB a9e aTC Tryz.func299 h
def a9f:=lA 56 [(12,([67],[0,3,5,6,7,8,9,30])),(17,([91],[0,3,5,6,7,8,9,30])),(24,([119],[0,3,5,6,7,8,9,30])),(51,([14],[0,3,5,6]))]
def aUY b a c R:=(.mk _:NS aYb a9f Tryz.f272 [b, .u] [a] c R).p
def bgN{c:AV}{b:List AV}{s0:ae}{R:be}(hs:L s0=4096)(l1:L b=11)(h:HB1 274 11 3 b s0 λe d=>aUY c e d R):EB 272 [c, .a b] s0 R:=zB1 a9f aTC Tryz.func272 hs l1 h
def a5F:=lA 22 [(3,([6],[0,1])),(9,([8],[0,1,6,7])),(16,([8,9],[0,1,6]))]
def aRq a a1 s0 R:=(.mk _:NF<|zF GGV aYb a5F Tryz.f240 [a,a1] [] s0<|QDb Tryz.f240 R).p
def a7S{a a1:AV}{s0:ae}{R:be}(hs:L s0=4096)(h:aRq a a1 s0 R):EB 240 [a,a1] s0 R:=aTc<|zB a5F (aQ9 aTC) Tryz.func240 h
end
def aV6{fn:Nat}{xs:List AV}{Y:ae}{d:Nat}{K:be}{P:Value->Prop}(i:uQ.elem fn=U)(h:∃r b,((∃v,r= .s v/\P v)/\Fx Y b [])/\cZ aS GG fn xs Y r b)(g:∀v,P v->K (.s v) Y):cB fn xs Y d K:=by obtain⟨r,b,⟨⟨v,rfl,j⟩,c⟩,f⟩:=h;exact aS2 i ⟨_,b,⟨rfl,c⟩,f⟩<|g v j
section
variable{Y:ae}{e:TypeId}{z:Nat}{a:AV}{bA:List (List AV)}
theorem ixG{i:Int}{K:j4}(d:qc Y e z a bA)(c:aF (L bA) i)(h:∀b m,a= .m b (L bA)->box Y b=V ⟨e,z,U,I,bA++m⟩->K (.p b i.toNat 0)):rV (cz z Y a<|iv i) K:=by have f:=c.1;have g:=c.2;rcases d with⟨rfl,rfl⟩|⟨b,m,rfl,j⟩;grind;grind [cz,rV]
theorem stG{b:Id}{i:Nat}{cs:List AV}{K:ae->Prop}(c:box Y b=V ⟨e,z,U,I,bA⟩)(m:i<L bA)(n:∀r∈bA,L r=z)(k:L cs=z)(l:cs.all eN=U)(h:nrm (eR Y<|.a cs)= .a cs)(hI:eB (.a cs)=[])(g:∀Y',Fx Y Y' [b]->box Y' b=V ⟨e,z,U,I,bA.set i cs⟩->K Y'):sV (aK z Y (.p b i 0)<|.a cs) K:=by have d:bA[i]?=V bA[i]:=(by simp);have j:bA[i].length=z:=(by simp_all);have f:aK z Y (.p b i 0) (.a cs)=V (wr Y b ⟨e,z,U,I,bA.set i cs⟩):=(by simp only[aK,aBG,c,eE,brW,hI,kills,aRl,h,pW,eY,d];grind);rw[f];exact g _ (wc c)<|lO c
theorem aQz{b:Id}{i j:Nat}{x:AV}{r:List AV}{K:ae->Prop}(c:box Y b=V ⟨e,z,U,I,bA⟩)(h:bA[i]?=V r)(l:j<L r)(g:eY (nrm<|eR Y x)=V [nrm<|eR Y x])(k:eN (nrm<|eR Y x)=U)(hI:eB x=[])(f:∀Y',Fx Y Y' [b]->box Y' b=V ⟨e,z,U,I,bA.set i<|r.set j<|nrm<|eR Y x⟩->K Y'):sV (aK 1 Y (.p b i j) x) K:=by have d:aK 1 Y (.p b i j) x=V (wr Y b ⟨e,z,U,I,bA.set i<|r.set j<|nrm<|eR Y x⟩):=(by simp only[aK,aBG,c,eE,brW,hI,kills,aRl,pW,g,h,bZ,aO1];grind [GP]);rw[d];exact f _ (wc c)<|lO c
end
def bxL{e:TypeId}{z d:Nat}{cs:List AV}{Y:ae}{K:be}(h:L cs=z)(g:0<z)(b:d<L Y)(f:∀v Y',Fx Y Y' []->ig Y (d,v)->box Y' (d,v)=V ⟨e,z,U,U,[cs]⟩->K (.p (d,v) 0 0) Y'):eV (bxA e z Y d<|.a cs) K:=by have c:bxA e z Y d (.a cs)=V (.p (zt Y d) 0 0,put Y d ⟨e,z,U,U,[cs]⟩):=(by grind [bxA,eY,aRI]);rw[c];exact f _ _ (kH b) (qQ Y d)<|be7 b
def gfP{Y:ae}{b:Id}{T e:TypeId}{z ze j d by':Nat}{cs zs:List AV}{a:AV}{bA new:List (List AV)}{t o:Bool}{K:AV->be}(B:box Y b=V ⟨T,z,U,U,[cs]⟩)(G:j<L cs)(w:qc Y e ze a bA)(i:b∉aA a)(O:L zs=ze)(k:0<ze)(D:d<L Y)(M:∀r∈bA,L r=ze)(H:∀r∈new,L r=ze)(v:new≠[])(h:(L bA+L new)*(by'+1)<=1099511627776)(C:b.1≠d)(A:∀c Y',box Y' b=V ⟨T,z,U,U,[cs.set j c]⟩->bc Y' e ze c (bA++new)->Fx Y Y' (b::aA a)->(∀q∈aA c,ig Y q/\q.1=d)->K (.p b 0 j) c Y'):eV (Gy e zs by' Y d a<|.l new t o) λx s=>rV (iQ j s<|.p b 0 0) λy=>sV (aK 1 s y x) (K y x):=by refine qs w O k D M H v h λc Y' g F N=>?_;have f:=F.keep _ _ i B;have E:iQ j Y' (.p b 0 0)=V (.p b 0 j):=(by simp[iQ,f]);simp only[E,aY];refine A0 f g.p.ce G λn m u=>?_;have P:b∉aA c:=(by grind);refine A c n u (by grind [bc.fx]) ((F.trans m).mono λq R=>?_) N;grind
def bfa{α:Type}{l:List α}{x y:α}:(l++[x]).set (L l) y=l++[y]:=by simp
structure Wk(Y:ae)(b:Id)(p:aQl)(al:List NA)(n:Nat)(a s t:AV):Prop where
 bx:∃th:Int,box Y b=V ⟨305,6,U,U,[[sl w6.c p.bm0,sl aO6.c p.ay,iv th,a,s,t]]⟩
 ga:qc Y 274 11 a (al.map NA.c)
 gs:∃l:List ByteArray,qc Y 9 1 s (l.map cs)/\L l<=n
 gt:∃l:List ByteArray,qc Y 9 1 t (l.map cs)/\L l<=n
 la:L al<=6
 le:L Y=4096
 sb:b.1=60
 sa:∀q∈aA a,q.1=42
 ss:∀q∈aA s,q.1=204
 st:∀q∈aA t,q.1=262
section
variable{Y Y':ae}{b:Id}{p:aQl}{al:List NA}{n:Nat}{a s t:AV}
theorem Wk.fx{ks:List Id}(W:Wk Y b p al n a s t)(F:Fx Y Y' ks)(d:b∉ks)(e:∀q∈aA a,q∉ks)(f:∀q∈aA s,q∉ks)(h:∀q∈aA t,q∉ks):Wk Y' b p al n a s t:=by obtain⟨o,i⟩:=W.bx;obtain⟨l,g,j⟩:=W.gs;obtain⟨m,c,k⟩:=W.gt;exact⟨⟨o,F.keep _ _ d i⟩,W.ga.fx F e,⟨l,g.fx F f,j⟩,⟨m,c.fx F h,k⟩,W.la,F.len.trans W.le,W.sb,W.sa,W.ss,W.st⟩
theorem Wk.fx0(W:Wk Y b p al n a s t)(F:Fx Y Y' []):Wk Y' b p al n a s t:=(by grind [Wk.fx])
theorem Wk.mono{m:Nat}(W:Wk Y b p al n a s t)(h:n<=m):Wk Y b p al m a s t:=by obtain⟨l,g,e⟩:=W.gs;obtain⟨k,c,d⟩:=W.gt;exact⟨W.bx,W.ga,⟨l,g,by omega⟩,⟨k,c,by omega⟩,W.la,W.le,W.sb,W.sa,W.ss,W.st⟩
theorem ixL{i:Int}{K:j4}{α:Type}[Inhabited α]{f:α->List AV}{l:List α}{z:Nat}{e:TypeId}(d:qc Y e z a<|l.map f)(c:aF (L l) i)(w:∀x,L (f x)=z)(g:∀y,(∀q,vp q Y y=aN q (f<|gd l i.toNat))->(∀j q,rV (iQ j Y y) q=q (match y with| .p b k o=> .p b k (o+j)|y=>y))->K y):rV (cz z Y a<|iv i) K:=by refine ixG d (by grind) λb m v h=>g _ (λq=>?_) (λj q=>?_);have r:=c.1;have u:=c.2;grind [gd,xe,eC,bT,vp,iE];simp[iQ,h,rV]
def bdi(W:Wk Y b p al n a s t)(x y:Int)(q:ByteArray):∃r c,((∃v,r= .s v/\∃u:Bool,v= .bool u)/\Fx Y c [])/\cZ aS GG 299 [.p b 0 0,iv x,iv y,st q] Y r c:=by refine bgM W.le ?_;simp only[aUX];refine yV (L al) (λ_ _ Y'=>Fx Y Y' []) (Fx.refl _ _) ?_;rintro k _ c B F;have e:=W.fx0 F;obtain⟨C,g⟩:=e.bx;have j:∀u Y',Fx Y Y' []->aNN (λr c=>(∃v,r= .s v/\∃u:Bool,v= .bool u)/\Fx Y c []) Y' [bv u]:=λu Y' d=>⟨⟨_,rfl,u,rfl⟩,d⟩;simp only[qz 19,qy 2,aI,au,qb g,u0,u1,g,pz,aj,e.ga.ln,bJ,↓uL];refine⟨λh=>?_,λ_=>j _ _ F⟩;have f:=aL h;refine ixL e.ga (dJ f) (λ_=>bit) λD o _=>?_;simp only[o,bh,pz,aY];refine aRA rfl bit (by decide) (by rw[e.le];decide) λv A l z m=>?_;have d:=F.trans l;simp+contextual only[qz 4,au,u0,u1,m,pz,aj,j _ _ d,aNV,GL,↓uL];have w:=W.la;exactλ_=>dR (mk:=λ(_:Unit) i=>[iv i]) (s:=()) (s':=()) (λ_ _=>rfl) f (by omega) d
theorem aRE(W:Wk Y b p al n a s t){x y:Int}{c:ByteArray}{d:Nat}{K:be}(e:∀u:Bool,K (bv u) Y):cB 299 [.p b 0 0,iv x,iv y,st c] Y d K:=aV6 rfl (bdi W x y c) (by simp_all)
def aPr(Y:ae)(b:Id)(p:aQl)(al:List NA)(n:Nat)(a s t:AV)(r:AV)(c:ae):Prop:=∃(e:Int) (s' d:AV),r=iv e/\Wk c b p al (n+1) a s' d/\Fx Y c (b::(aA s++aA t))/\(∀q∈aA s',q∈aA s\/ig Y q)/\∀q∈aA d,q∈aA t\/ig Y q
theorem aPr.no(W:Wk Y b p al n a s t)(F:Fx Y Y' [])(e:Int):aPr Y b p al n a s t (iv e) Y':=⟨e,s,t,rfl,(W.fx0 F).mono (by omega),F.mono (by simp),λ_ h=> .inl h,λ_ h=> .inl h⟩
def bd6{Q:j4}:(∀r,(∃k:Int,r=iv k)->Q r)=∀k,Q (iv k):=a65
def a52{x:ByteArray}:aX zd9 1 Y [(0,st x)]=V (.l ([x].map cs) U U,Y):=iz
set_option maxHeartbeats 8000000 in
theorem bdl(W:Wk Y b p al n a s t)(O:PrB p){m:Nat}{x:NA}(hx:shS m x)(hn:n<100000):∃r Y1,aPr Y b p al n a s t r Y1/\cZ aS GG 272 [.p b 0 0, .a x.c] Y r Y1:=by have hw:=W;have ha:=hx.at;obtain⟨b1,B⟩:=b;obtain rfl:b1=60:=W.sb;refine bgN W.le bit λs2 v3 K2 a0 nf2 b3=>?_;have F2:Fx Y s2 []:=K2.fx [];have T:=W.fx0 F2;obtain⟨th,D⟩:=T.bx;have rp:∀{l:List AV},aN (V 2) (sl w6.c p.bm0::sl aO6.c p.ay::l)=V (.a p.c):=rfl;simp only[aUY,qy 4,qb D,u0,u1,D,rp,pz,aj,↓uL];refine anu T.le λv5 A E aQ b5=>?_;have f:=T.fx0 E;have X:=E.kq b3;have F:=F2.trans E;obtain⟨th,D⟩:=f.bx;have aZ:cO A (.p (60,B) 0 0)=V (.p (60,B) 0 0):=qb D;obtain⟨ls,N,aX⟩:=f.gs;obtain⟨lt,H,aY⟩:=f.gt;have aK:dG A s=sl Ab.cs ls:=N.ar;have aL:dG A t=sl Ab.cs lt:=H.ar;refine dT (by first|rfl|(simp[eL,okT,tok,lb,cq,Qh,m8,dC,pP,dK];done)) ?_;refine aRE f λtx=>?_;simp only[qz 8,↓uL];refine aRE f λaR=>?_;simp only[qz 10,↓uL];refine aRE f λlp=>?_;have dn:∀e:Int,aNN (aPr Y (60,B) p al n a s t) A [iv e]:=λe=>aPr.no W F e;have hI:∀y∈x.index,∃n,shE n y:=(by grind);have hX:x.op=1\/x.op=2\/x.op=3\/x.op=14->∃n,shE n x.expr:=(by grind);have an:=aTb (p:=λi=>Q<|(gd p.bm0 i).name=x.name) (n:=L p.bm0);have ah:(x.op=1\/x.op=2\/x.op=3\/x.op=4\/x.op=5\/x.op=6\/x.op=7\/x.op=8\/x.op=9\/x.op=10\/x.op=11\/x.op=12\/x.op=13\/x.op=14)\/(x.op≠1/\x.op≠2/\x.op≠3/\x.op≠4/\x.op≠5/\x.op≠6/\x.op≠7/\x.op≠8/\x.op≠9/\x.op≠10/\x.op≠11/\x.op≠12/\x.op≠13/\x.op≠14):=(by omega);have lock:∀(i j:Int) (d:Nat) (k:Int),gF (!tx) (λk=>cB 299 [AV.p (60,B) 0 0,iv i,iv j,st x.name] A d λax av=>k ax av) A λaz C=>rV (mL (bv tx) (bv U) az) λR=>fW aOS [dG C R] (lo C [R]) λS=>fW aOi [AV.s<|Value.int dq k,dG C S] (lo C [iv k,S]) λaB=>aNN (aPr Y (60,B) p al n a s t) C [aB]:=(by intro i j d k;(cases tx);simp only[kN,gF,bie];refine aRE f λu=>?_;simp only[u0,ar,aQU,dn,aOe];simp only[gF,fh,bkl,aUw,u0,ar,aQU,dn,aOe]);simp only[qz 12,u0,u1,X,pz,aj,↓uL];rcases ah with(h|h|h|h|h|h|h|h|h|h|h|h|h|h)|⟨g1,g2,g3,g4,g5,g6,g7,g8,g9,aT,aU,z,aV,aW⟩;(all_goals(try have am:=hX<|by omega);simp+contextual only[qz 309,qy 26,qz 311,qz 147,qy 20,qz 149,qz 105,qz 107,qz 75,qz 77,a7i,aI,au,u0,u1,rk,pz,ar,Fa,aQU,aj,rr,ixv,Gx, *,brp,bq0,Int.reduceEq,bsM,↓iC,↓iB,aXX,bd6,aNV,aO5,eE,sr,aQ6,be8,↓uL]);intro h0 k;have:0<L x.index:=(by grind);exact⟨⟨by omega,by omega⟩,hI _<|asq this⟩;(any_goals intro k hk h0;have ap:k=0:=(by simp_all);refine⟨by have:=O.1;omega,⟨hk ap,an.2⟩,aRE f λu=>?_⟩;cases tx<;>cases u<;>simp+contextual only[qz 18,u0,u1,X,pz,aj,ar,aQU,dn,aUw,a7c,jA,jN,aOe,↓uL]);intro k hk;refine⟨by have:=O.2.1;omega,λ_=>⟨by omega,λ_=>?_⟩⟩;simp only[a52,bQ];refine apQ N f.le oX oX (by simp) (by simp;omega) λs' aq z o af=>?_;have w:=o.keep _ _ (λg=>by have:=f.ss _ g;simp at this) D;simp only[qz 22,qb w,u0,u1,w,aj,↓uL];refine A0 w z.p.ce (by simp) λP v G=>?_;refine dT (by first|rfl|(simp[eL,okT,tok,lb,cq,Qh,m8,dC,pP,dK];done)) ?_;have M:∀q∈aA s',q∉[((60,B):Id)]:=(by grind);refine⟨0,s',t,rfl,⟨⟨th,G⟩,(f.ga.fx o<|λq g K=>by grind [Wk.sa,Wk.ss]).fx v (λq g e=>by grind [Wk.sa]),⟨ls++[x.name],by rw[dg];exact z.p.fx v M,by simp;omega⟩,⟨lt,(H.fx o<|λq g K=>by grind [Wk.st,Wk.ss]).fx v (λq g e=>by grind [Wk.st]),by omega⟩,f.la,v.len.trans<|o.len.trans f.le,rfl,f.sa,(by grind),f.st⟩,((F.trans o).trans v).mono<|λq g=> .inl ?_,(by grind [ig.old]),λq g=> .inl g⟩;grind;intro k _;have:=O.2.1;omega;(focus refineλk=>⟨λ_=>by omega,λ_=>?_,λ_=>?_⟩;all_goals simp only[a52,bQ];refine apQ H f.le oX oX (by simp) (by simp;omega) λt' aq z o af=>?_;have w:=o.keep _ _ (λg=>by have:=f.st _ g;simp at this) D;have Z:=o.keep _ _ (λg=>by have:=f.st _ g;simp at this) X;have d5:=o.keep _ _ (λg=>by have:=f.st _ g;simp at this) b5;simp only[qz 28,qb w,u0,u1,w,aj,↓uL];refine A0 w z.p.ce (by simp) λP v G=>?_;have Z:=v.kq Z;have d5:=v.kq d5;refine dT (by first|rfl|(simp[eL,okT,tok,lb,cq,Qh,m8,dC,pP,dK];done)) ?_;have M:∀q∈aA t',q∉[((60,B):Id)]:=(by grind);have ak:∀e:Int,aPr Y (60,B) p al n a s t (iv e) P:=(by intro e;refine⟨e,s,t',rfl,⟨⟨th,G⟩,(f.ga.fx o<|λq g K=>by grind [Wk.sa,Wk.st]).fx v (λq g e=>by grind [Wk.sa]),⟨ls,(N.fx o<|λq g K=>by grind [Wk.ss,Wk.st]).fx v (λq g e=>by grind [Wk.ss]),by omega⟩,⟨lt++[x.name],by rw[dg];exact z.p.fx v M,by simp;omega⟩,f.la,v.len.trans<|o.len.trans f.le,rfl,f.sa,f.ss,by grind⟩,((F.trans o).trans v).mono<|λq g=> .inl ?_,λq g=> .inl g,by grind [ig.old]⟩;grind);simp only[u0,u1,Z,d5,pz,aj,ar,Fa,aQU,O,am,rr,aOe,↓uL];exactλ_=>ak _)
theorem baX(W:Wk Y b p al n a s t)(h:PrB p){m:Nat}{x:NA}(j:shS m x)(i:n<100000){d:Nat}{K:be}(v:∀(e:Int) (s' g:AV) f,Wk f b p al (n+1) a s' g->Fx Y f (b::(aA s++aA t))->(∀q∈aA s',q∈aA s\/ig Y q)->(∀q∈aA g,q∈aA t\/ig Y q)->K (iv e) f):cB 272 [.p b 0 0, .a x.c] Y d K:=by refine jH rfl (bdl W h j i) ?_;rintro r f ⟨e,s',g,rfl,k,l,o,u⟩;grind [Fx.len]
def bS:Nat->Nat|0=>0|m+1=>1+8*bS m
def aR9(Y:ae)(b:Id)(p:aQl)(al:List NA)(n:Nat)(a s t:AV)(r:AV)(c:ae):Prop:=∃(e l:Int) (d s' f:AV),r= .t [iv e,iv l]/\Wk c b p al n d s' f/\Fx Y c (b::(aA a++(aA s++aA t)))/\(∀q∈aA d,q∈aA a\/ig Y q)/\(∀q∈aA s',q∈aA s\/ig Y q)/\∀q∈aA f,q∈aA t\/ig Y q
theorem bc8(hB:PrB p):∀(m:Nat) {Y:ae} {al:List NA} {n:Nat} {a s t:AV} {l:List NA},Wk Y b p al n a s t->shL m 8 l->n+L l*bS m<100000->
  ∃r Y1,aR9 Y b p al (n+L l*bS m) a s t r Y1/\cZ aS GG 240 [.p b 0 0,sl NA.c l] Y r Y1:=by
 intro m
 induction m with
 |zero=>
  intro Y al n a s t l W hs hn
  have:l=[]:=List.eq_nil_iff_forall_not_mem.2 λx hx=>hs.2 x hx
  subst this
  refine a7S W.le ?_
  simp only[aRq]
  refine yV 0 (λ_ _ Y'=>Y'=Y) rfl ?_
  rintro k _ Y1 hk rfl
  simp only[qz 19,qy 2,aI,au,u0,u1,aO1,↓uL]
  refine⟨λh=>by simp at h;omega,λ_=>⟨0,0,a,s,t,rfl,W.mono (by omega),Fx.refl _ _,λ_ h=> .inl h,λ_ h=> .inl h,λ_ h=> .inl h⟩⟩
 |succ m ih=>
  intro Y al n a s t l W hs hn
  obtain⟨b1,g⟩:=b
  obtain rfl:b1=60:=W.sb
  refine a7S W.le ?_
  simp only[aRq]
  refine yV (L l) (λk _ Y'=>∃D s' F,Wk Y' (60,g) p al (n+k*bS (m+1)) D s' F/\Fx Y Y' ((60,g)::(aA a++(aA s++aA t)))/\(∀q∈aA D,q∈aA a\/ig Y q)/\(∀q∈aA s',q∈aA s\/ig Y q)/\∀q∈aA F,q∈aA t\/ig Y q) (by grind [Fx.refl]) ?_
  rintro k _ Y1 hk ⟨a1,s1,t1,W1,F1,i1,i2,i3⟩
  have b7:k*bS (m+1)<=L l*bS (m+1):=qo _ hk
  have aN:∀(e ln:Int) (D s' F:AV) Y',Wk Y' (60,g) p al (n+L l*bS (m+1)) D s' F->Fx Y Y' ((60,g)::(aA a++(aA s++aA t)))->(∀q∈aA D,q∈aA a\/ig Y q)->(∀q∈aA s',q∈aA s\/ig Y q)->(∀q∈aA F,q∈aA t\/ig Y q)->aNN (aR9 Y (60,g) p al (n+L l*bS (m+1)) a s t) Y' [iv e,iv ln]:=λe ln D s' F Y' h1 h2 h3 h4 h5=>⟨e,ln,D,s',F,rfl,h1,h2,h3,h4,h5⟩
  simp only[qz 19,qy 2,aI,au,u0,u1,ixv,bh,rr,pz,↓uL]
  refine⟨λh=>⟨u7 h,aRA rfl bit (by decide) (by rw[W1.le];decide) λv s2 F2 N2 aK=>?_⟩,by grind⟩
  have ao:=aL h
  have W2:=W1.fx0 F2
  have hx:=hs.2 _<|asq ao
  obtain⟨m',cm,g1,g2⟩:=hx.body
  obtain rfl:m=m':=by omega
  have bC:n+k*bS (m+1)+(1+8*bS m)<=n+L l*bS (m+1):=by
   have h9:(k+1)*bS (m+1)<=L l*bS (m+1):=qo _ ao
   grind [tN,bS]
  have n7:∀{D s' F:AV} {Y':ae} {bi:List NA} {n':Nat},Wk Y' (60,g) p bi n' D s' F->∀(v:Nat),((7,v):Id)∉((60,g):Id)::(aA D++(aA s'++aA F)):=λW v o=>by
   simp only[eW,dF,iK] at o
   rcases o with h|h|h|h
   ·omega
   ·have:=W.sa _ h;simp at this
   ·have:=W.ss _ h;simp at this
   ·have:=W.st _ h;simp at this
  generalize co:gd l k=x at*
  simp only[qz 4,u0,u1,aK,pz,↓uL]
  refine baX W2 hB hx (by omega) λe s3 t3 Y3 z F3 j2 j3=>?_
  have b3:=F3.keep _ _ (λo=>n7 W2 v<|by simp only[eW,dF] at o⊢;rcases o with h|h|h;exact .inl h;exact .inr<|.inr<|.inl h;exact .inr<|.inr<|.inr h) aK
  have Z:Fx Y Y3 ((60,g)::(aA a++(aA s++aA t))):=((F1.trans F2).trans F3).mono (by grind [ig.no])
  have aQ:∀q∈aA s3,q∈aA s\/ig Y q:=(by grind [ig.old])
  have aR:∀q∈aA t3,q∈aA t\/ig Y q:=(by grind [ig.old])
  obtain⟨th,ah⟩:=z.bx
  have bn:=z.la
  have ew:dq.wrap ((L al:Int)+1)=((L al+1:Nat):Int):=fX (by omega)
  simp+contextual only[qz 6,a7i,qz 59,qz 57,qy 8,aI,au,qb ah,u0,u1,ah,aRV,bfx,aRa,z.ga.ln,bJ,b3,pz,aj,ew,Int.reduceEq,bsM,bBu,brp,↓iC,↓uL]
  have ac:∀(e ln:Int),aNN (aR9 Y (60,g) p al (n+L l*bS (m+1)) a s t) Y3 [iv e,iv ln]:=λe ln=>aN e ln _ _ _ _ (z.mono<|by omega) Z i1 aQ aR
  refine⟨λ_=>ac _ _,λh6=>⟨λ_=>ac _ _,λ_=>?_⟩⟩
  have cl:L al+1<=6:=by grind
  have bq:aX brP 1 Y3 [(0,.a [iv 0,iv 0,sv [],sv [],.l [] U U,iv 0,iv 0,sv [],.l [] U U,.l [] U U,.l [] U U])]=V (.l [brP] U U,Y3):=by kernel_rfl
  simp only[bq,bQ]
  refine apQ z.ga z.le (qW λ_=>bit) (by simp) (by simp) (by simp;omega) λa4 Y4 g4 F4 N4=>?_
  rcases g4 with⟨h8,_⟩|⟨q,bm,o⟩
  ·simp at h8
  subst bm
  have aO:q.1=42:=(N4 q<|by simp[aA]).2
  have bu:=(N4 q<|by simp[aA]).1
  obtain⟨q1,q2⟩:=q
  simp only at aO
  subst aO
  have na:∀{u:Nat} {r:Nat},r≠42->((r,u):Id)∉aA a1:=λj o=>j<|z.sa _ o
  have b4:=F4.keep _ _ (na<|by decide) b3
  have bo:=F4.keep _ _ (na<|by decide) ah
  have aC:L (al.map NA.c++[brP])=L al+1:=by simp
  have br:∀{K:j4},K (.p (42,q2) (L al) 0)->rV (cz 11 Y4 (.m (42,q2)<|L<|al.map NA.c++[brP])<|iv (L al:Int)) K:=λ{K} hK=>by
   simp only[cz,Int.natCast_nonneg,aPI,o,aQd,bh,aC,Nat.lt_succ_self,aOe,rV]
   exact hK
  simp only[qz 10,↓uL]
  refine br ?_
  refine stG o (by simp) (by intro r j;simp only[dF,dN,cE] at j;rcases j with⟨y,_,rfl⟩|rfl;exact bit;rfl) bit (by rw[a6X];rfl) (by rw[a6X];rfl) (by rw[a6X];rfl) λY5 F5 aP=>?_
  have aZ:(al.map NA.c++[brP]).set (L al) (NA.c x)=(al++[x]).map NA.c:=by
   have:=bfa (l:=al.map NA.c) (x:=brP) (y:=NA.c x)
   rw[bJ] at this
   rw[this];simp
  rw[aZ] at aP
  have b5:=F5.kq b4
  have T:=F5.kq bo
  simp only[qz 12,qb T,u0,u1,T,aj,↓uL]
  refine A0 T rfl (by simp) λY6 F6 bp=>?_
  have b6:=F6.kq b5
  have cn:=F6.kq aP
  have bt:m8 (.a x.c)=[]:=by rw[a6X];rfl
  refine dT (by simp only[lbV,aBG,T,o,aPI,eE,brW,Cz,RN,bt];simp[eL,lb,m8,dC,dK]) ?_
  have aa:Fx Y3 Y6 (aA a1++[(60,g)]):=((F4.trans F5).trans F6).mono λr j=>by
   simp only[dF,cE] at j⊢
   grind [ig.no]
  have a6:Fx Y Y6 ((60,g)::(aA a++(aA s++aA t))):=(Z.trans aa).mono λr j=>by
   rcases dF.1 j with h|h
   ·exact .inl h
   ·rcases dF.1 h with h|h
    ·rcases i1 r h with h|h
     ·grind
     ·exact .inr h.no
    grind
  have aM:∀r:Id,r.1≠42->r.1≠60->r∉aA a1++[((60,g):Id)]:=(by grind)
  obtain⟨ls,gs,an⟩:=z.gs
  obtain⟨lt,ag,S⟩:=z.gt
  have W6:Wk Y6 (60,g) p (al++[x]) (n+k*bS (m+1)+1) (.m (42,q2)<|L<|al.map NA.c++[brP]) s3 t3:=by
   refine⟨⟨th,bp⟩, .inr ⟨(42,q2),[],by simp,by grind⟩,⟨ls,gs.fx aa<|λr j=>aM r (by grind [Wk.ss])<|by grind [Wk.ss],an⟩,⟨lt,ag.fx aa<|λr j=>aM r (by grind [Wk.st])<|by grind [Wk.st],S⟩,by simp;omega,F6.len.trans<|F5.len.trans<|F4.len.trans z.le,rfl,by simp[aA],z.ss,z.st⟩
  have a2:ig Y (42,q2):=bu.old Z
  have ad:∀{B:ae} {N:Nat} {M E G:AV} {l':List NA} {d:Nat} {K:be},Wk B (60,g) p (al++[x]) N M E G->shL m 4 l'->N<=n+k*bS (m+1)+(1+4*bS m)->Fx Y B ((60,g)::(aA a++(aA s++aA t)))->(∀q∈aA M,q∈aA a\/ig Y q)->(∀q∈aA E,q∈aA s\/ig Y q)->(∀q∈aA G,q∈aA t\/ig Y q)->
    (∀(e ln:Int) (H s9 t9:AV) (C:ae),Wk C (60,g) p (al++[x]) (N+4*bS m) H s9 t9->Fx B C ((60,g)::(aA M++(aA E++aA G)))->Fx Y C ((60,g)::(aA a++(aA s++aA t)))->(∀q∈aA H,q∈aA a\/ig Y q)->(∀q∈aA s9,q∈aA s\/ig Y q)->(∀q∈aA t9,q∈aA t\/ig Y q)->K (.t [iv e,iv ln]) C)->cB 240 [.p (60,g) 0 0,sl NA.c l'] B d K:=by
   intro B N M E G l' d K A am hN X aw O P hK
   have h4:L l'*bS m<=4*bS m:=qo _ am.1
   refine jH rfl (ih A ⟨by have:=am.1;omega,am.2⟩<|by omega) ?_
   rintro r C ⟨e,ln,H,s9,t9,rfl,R,w,v1,v2,v3⟩
   refine⟨w.len,hK e ln H s9 t9 C (R.mono<|by omega) w ((X.trans w).mono λr j=>?_) (λq o=>(v1 q o).elim (aw q) λh=> .inr<|h.old X) (λq o=>(v2 q o).elim (O q) λh=> .inr<|h.old X)<|λq o=>(v3 q o).elim (P q) λh=> .inr<|h.old X⟩
   rcases dF.1 j with h|h
   ·exact .inl h
   ·simp only[eW,dF] at h⊢
    rcases h with h|h|h|h
    ·grind
    ·exact(aw r h).elim (by grind) λh=> .inr h.no
    ·exact(O r h).elim (by grind) λh=> .inr h.no
    ·exact(P r h).elim (by grind) λh=> .inr h.no
  simp only[u0,u1,b6,pz,aj,↓uL]
  refine ad W6 g1 (by omega) a6 (by simp[aA];exact .inr a2) aQ aR λe' ln H s9 t9 C R G9 w v1 v2 v3=>?_
  have b9:=G9.keep _ _ (n7 W6 v) b6
  simp only[qz 16,rr,aY,↓uL]
  refine bpD (λf=>∀(e ln:Int) {B:ae} {N:Nat} {M E G:AV},Wk B (60,g) p (al++[x]) N M E G->N<=n+k*bS (m+1)+(1+8*bS m)->Fx Y B ((60,g)::(aA a++(aA s++aA t)))->(∀q∈aA M,q∈aA a\/ig Y q)->(∀q∈aA E,q∈aA s\/ig Y q)->(∀q∈aA G,q∈aA t\/ig Y q)->f [iv e,iv ln] B) ?_ λf ap=>?_
  ·intro e ln B N M E G A hN X aw O P
   obtain⟨th,ak⟩:=A.bx
   have e1:dq.wrap (((L al+1:Nat):Int)-1)=(L al:Int):=by grind [eM]
   simp only[qz 99,aI,qb ak,u0,u1,ak,aRV,bfx,aRa,aj,A.ga.ln,bJ,a6G,bZ,aO1,e1,↓uL]
   refine slP A.ga (by omega) (by simp;omega) λH g9 i9=>?_
   have ht:((al++[x]).map NA.c).take ((L al:Int).toNat)=al.map NA.c:=by simp
   rw[ht] at g9
   refine A0 ak g9.ce (by simp) λC w b9=>?_
   have d9:∀r:Id,r.1≠60->r∉[((60,g):Id)]:=(by grind)
   obtain⟨ls,gs,an⟩:=A.gs
   obtain⟨lt,ag,S⟩:=A.gt
   have R:Wk C (60,g) p al N H E G:=⟨⟨th,b9⟩,g9.fx w<|λr j=>(by grind [Wk.sa]),⟨ls,gs.fx w<|λr j=>(by grind [Wk.ss]),an⟩,⟨lt,ag.fx w<|λr j=>(by grind [Wk.st]),S⟩,bn,w.len.trans A.le,rfl,λr j=>A.sa r<|i9▸j,A.ss,A.st⟩
   have aJ:Fx Y C ((60,g)::(aA a++(aA s++aA t))):=(X.trans w).mono λr j=>by
    rcases dF.1 j with h|h
    ·exact .inl h
    ·exact .inl (by simp at h;simp[h])
   have u9:∀q∈aA H,q∈aA a\/ig Y q:=(by grind)
   simp only[qz 20,au,u0,u1,↓uL]
   refine⟨λ_=>aN _ _ _ _ _ _ (R.mono<|by omega) aJ u9 O P,λ_=>?_⟩
   refine dR (mk:=λ(_:Unit) i=>[iv i]) (s:=()) (s':=()) (λ_ _=>rfl) ao (by have:=hs.1;omega) ⟨H,E,G,R.mono ?_,aJ,u9,O,P⟩
   grind [tN,bS]
  simp only[qz 101,u0,u1,b9,pz,aj,↓uL]
  refine⟨λ_=>?_,λ_=>ap _ _ R (by omega) w v1 v2 v3⟩
  refine ad R g2 (by omega) w v1 v2 v3 λe2 cp ck cq cr cj bd ci a5 w1 w2 w3=>?_
  simp only[qz 18,rr,aY]
  exact ap _ _ bd (by omega) a5 w1 w2 w3
theorem baR(i:PrB p){m:Nat}{l:List NA}(W:Wk Y b p al n a s t)(hs:shL m 8 l)(j:n+L l*bS m<100000){d:Nat}{K:be}(x:∀(e ln:Int) (g s' h:AV) f,Wk f b p al (n+L l*bS m) g s' h->Fx Y f (b::(aA a++(aA s++aA t)))->(∀q∈aA g,q∈aA a\/ig Y q)->(∀q∈aA s',q∈aA s\/ig Y q)->(∀q∈aA h,q∈aA t\/ig Y q)->K (.t [iv e,iv ln]) f):cB 240 [.p b 0 0,sl NA.c l] Y d K:=by refine jH rfl (bc8 i m W hs j) ?_;rintro r f ⟨e,ln,g,s',h,rfl,k,o,u,v,w⟩;grind [Fx.len]
end
def a7A:dO:=aYb
def a7k:eJ a7A:=aTC
def aWi:=@aQU
section
attribute[local irreducible] aX
def a87:=lA 37 [(18,([8,9],[1])),(28,([11],[1,10]))]
def a0x a b R:=(.mk _:NR a7A a87 Tryz.f188 [.u] [a] b R).p
def bgF{c0:List AV}{R:j4}(l0:L c0=2)(h:H1 196 2 1 c0 λia b=>a0x ia b R):Ct 188 [.a c0] R:=z1 a87 a7k Tryz.func188 l0 h
end
def bdo{p:aQl}(f:shP p):Ct 188 [.a p.c] aQ1:=by
 have g:=f.1
 have R:=g.1
 have h2:=g.2.1
 refine bgF rfl λs2 S j h0=>?_
 simp+contextual only[a0x,u0,u1,j,pz,aj,ar,Fa,aWi,f,R,g,rr,aO2,aNV]
 intros
 refine yh (λs:Int×Nat=>[iv s.1,iv s.2]) 1 (L p.ay) (λ_=>True) (0,0) trivial ?_
 rintro⟨c,k⟩ _
 simp+contextual only[qz 109,aI,au,u0,u1,j,rk,pz,aj,ixv,bh,ar,aWi,rr,aO2,aNV]
 refine⟨λh=>⟨u7 h,⟨4,(f.2.2 _<|asq<|aL h).2⟩,λx=>wN (enc:=λs:Int×Nat=>[iv s.1,iv s.2]) (s:=(c,k)) (s':=(_,k+1)) (by rw[fX<|by grind]) rfl rfl (aL h) trivial⟩,λ_ _=>?_⟩
 have z:bM bu1 [(0,2),(2,1),(3,1),(4,1),(5,1)] [(0, .a p.c)]=V (.a [sl w6.c p.bm0,sl aO6.c p.ay,iv 0, .l [] U U, .l [] U U, .l [] U U]):=rfl
 simp only[z,aY]
 refine bxL rfl (by decide) (by omega) λv F o N3 N=>?_
 have A:L F=4096:=o.len.trans S
 have W3:Wk F (60,v) p [] 0 (.l [] U U) (.l [] U U) (.l [] U U):=⟨⟨0,N⟩, .inl ⟨rfl,rfl⟩,⟨[], .inl ⟨rfl,rfl⟩,by simp⟩,⟨[], .inl ⟨rfl,rfl⟩,by simp⟩,by simp,A,rfl,by simp[aA],by simp[aA],by simp[aA]⟩
 have c3:=o.kq j
 refine yV (L p.ay) (λk _ Y=>∃a s t,Wk Y (60,v) p [] (k*10000) a s t/\box Y (1,1)=V ⟨196,2,U,U,[p.c]⟩) (by grind) ?_
 rintro k _ Y hk ⟨a,s,t,W,q⟩
 obtain⟨th,m⟩:=W.bx
 simp only[qz 169,aI,au,u0,u1,q,qb m,m,pz,aj,rr,aO2,aNV,aO5]
 intro h
 have d:=aL h
 have E:=f.2.2 _<|asq d
 have ab:=f.2.1
 refine A0 m rfl (by simp) λX b O=>?_
 have u:=b.kq q
 have H:Wk X (60,v) p [] (k*10000) a s t:=by
  obtain⟨ls,w,B⟩:=W.gs
  obtain⟨T,y,n⟩:=W.gt
  have d9:∀r:Id,r.1≠60->r∉[((60,v):Id)]:=(by simp_all)
  exact⟨⟨k,O⟩,W.ga.fx b<|λr D=>(by grind [Wk.sa]),⟨ls,w.fx b<|λr D=>(by grind [Wk.ss]),B⟩,⟨T,y.fx b<|λr D=>(by grind [Wk.st]),n⟩,W.la,b.len.trans W.le,rfl,W.sa,W.ss,W.st⟩
 simp only[qz 6,u0,u1,u,rk,pz,aj,ixv,bh]
 have aa:bS 4=585:=rfl
 have hm:L (gd p.ay k).body*bS 4<=8*bS 4:=qo _ E.2.1
 refine⟨dJ d,baR g H E.2 (by omega) λe ln M s' Z s5 K G _ _ _=>?_⟩
 have P:=G.keep _ _ (λC=>by
  simp only[eW,dF,iK] at C
  rcases C with h|h|h|h
  ·omega
  ·have:=W.sa _ h;simp at this
  ·have:=W.ss _ h;simp at this
  ·have:=W.st _ h;simp at this) u
 simp only[qz 8,au,u0,u1,rr,aO2,aNV,GL]
 exactλ_=>dR (mk:=λ(_:Unit) i=>[iv i]) (s:=()) (s':=()) (λ_ _=>rfl) d (by omega) ⟨M,s',Z,K.mono (by omega),P⟩
def a59{p:aQl}(f:shP p):∃x:Int×Int,Ct 188 [.a p.c] (·= .t [iv x.1,iv x.2]):=by obtain⟨r,⟨e,l,rfl⟩,b,d⟩:=bdo f;exact⟨(e,l),_,rfl,b,d⟩
noncomputable def chk(p:aQl):Int×Int:=@dite _ (shP p) (Classical.propDecidable _) (λh=>Classical.choose<|a59 h) λ_=>(0,0)
def aW1(p:aQl)(b:shP p):Ct 188 [.a p.c] (·= .t [iv (chk p).1,iv (chk p).2]):=by rw[chk,dif_pos b];exact Classical.choose_spec<|a59 b
def aRi:FT:=mT aW1
def bbJ{p Lw K}:=f110 aRi aW1 p Lw K (j:=by simp+contextual only[ij,ijv])
def a7B:dO:=(188,aRi)::a7A
def aX4:eJ a7B:=ve (pg aW1)<|a7k
def aWj:=ai @bbJ<|@aWi
section
attribute[local irreducible] aX
def a9E:=lA 11 [(3,([0,2,10],[1,3]))]
def aSv a a1 b c s0 R:=(.mk _:NS a7B a9E Tryz.f242 [a,a1,b,c] [] s0 R).p
def a7U{a a1 b c:AV}{s0:ae}{R:be}(hs:L s0=4096)(h:aSv a a1 b c s0 R):EB 242 [a,a1,b,c] s0 R:=zB a9E aX4 Tryz.func242 h
def a9q:=lA 32 [(8,([6],[1,2,3])),(11,([],[1,2,3,6])),(14,([39],[1,2,3,6,7,31])),(17,([8],[1,2,3,6,7])),(21,([65],[1,2,3,6,7,31])),(26,([9],[1,2,3]))]
def a1P a b R:=(.mk _:NR a7B a9q Tryz.f189 [.u] [a] b R).p
def bgY{c0:List AV}{R:j4}(l0:L c0=2)(h:H1 196 2 1 c0 λia b=>a1P ia b R):Ct 189 [.a c0] R:=z1 a9q aX4 Tryz.func189 l0 h
end
def SiR(Y:ae)(a:AV)(N:Nat)(r:AV)(d:ae):Prop:=∃(a':AV) (e:Int) (l':List dL),r= .t [a',iv e]/\qc d 181 3 a' (l'.map dL.c)/\L l'<=N/\Fx Y d (aA a)/\(∀q∈aA a',q∈aA a\/ig Y q)/\∀q∈aA a',q∈aA a\/q.1=27
def bdu(u:Int):∀(m:Nat) {Y:ae} {a:AV} {n:Int} {l:List dL} {st:List NA},L Y=4096->qc Y 181 3 a (l.map dL.c)->shL m 8 st->L l+L st*bS m<100000->
  ∃r f,SiR Y a (L l+L st*bS m) r f/\cZ aS GG 242 [a,iv u,iv n,sl NA.c st] Y r f:=by
 intro m
 induction m with
 |zero=>
  intro Y a n l st y g hs hn
  have:st=[]:=List.eq_nil_iff_forall_not_mem.2 λx O=>hs.2 x O
  subst this
  refine a7U y ?_
  simp only[aSv]
  refine jD (α:=AV×Int) (λs i=>[s.1,iv s.2,iv i]) 2 0 (λ_ s Y'=>Y'=Y/\s.1=a) (s0:=(a,n)) ⟨rfl,rfl⟩ ?_
  rintro k ⟨a',n'⟩ f hk ⟨rfl,rfl⟩
  simp only[qz 19,qy 2,aI,au,u0,u1,aO1]
  exact⟨λh=>by simp at h;omega,λ_=>⟨_,_,l,rfl,g,by omega,Fx.refl _ _,λ_ h=> .inl h,λ_ h=> .inl h⟩⟩
 |succ m ih=>
  intro Y a n l st y g hs hn
  refine a7U y ?_
  simp only[aSv]
  refine jD (α:=AV×Int) (λs i=>[s.1,iv s.2,iv i]) 2 (L st) (λk s Y'=>∃l':List dL,qc Y' 181 3 s.1 (l'.map dL.c)/\L l'<=L l+k*bS (m+1)/\Fx Y Y' (aA a)/\(∀q∈aA s.1,q∈aA a\/ig Y q)/\∀q∈aA s.1,q∈aA a\/q.1=27) (s0:=(a,n)) (by grind [Fx.refl]) ?_
  rintro k ⟨a1,o⟩ f hk ⟨l1,g1,aB,M,i1,p1⟩
  simp only at g1 i1 p1
  have z:L f=4096:=M.len.trans y
  simp only[qz 19,qy 2,aI,au,u0,u1,ixv,bh,rk,pz]
  refine⟨λh=>⟨u7 h,?_⟩,λh=>⟨a1,o,l1,rfl,g1,by grind,M,i1,p1⟩⟩
  have e:=aL h
  have O:=hs.2 _<|asq e
  obtain⟨m',aE,b1,b2⟩:=O.body
  obtain rfl:m=m':=by omega
  have ag:L l+k*bS (m+1)+(1+8*bS m)<=L l+L st*bS (m+1):=by
   have h9:(k+1)*bS (m+1)<=L st*bS (m+1):=qo _ e
   grind [bS]
  generalize H:gd st k=x at*
  have X:bM bt1 aon [(0,iv u),(1,iv o),(2,iv x.line)]=V (.a<|dL.c ⟨u,o,x.line⟩):=rfl
  have Z:aX btT 1 f [(0, .a<|dL.c ⟨u,o,x.line⟩)]=V (.l ([(⟨u,o,x.line⟩:dL)].map dL.c) U U,f):=ua rfl rfl rfl (by decide) rfl (by decide)
  simp only[X,aY,Z,bQ]
  refine apQ g1 z (by grind [dL.c]) (by grind [dL.c]) (by simp) (by simp;omega) λa2 T W R N2=>?_
  have aq:L T=4096:=R.len.trans z
  rw[<-dg] at W
  have P:Fx Y T (aA a):=(M.trans R).mono (by grind [ig.no])
  have v:∀{D:ae} {a3:AV} {n3:Int} {E:List dL} {G:List NA} {d:Nat} {K:be},qc D 181 3 a3 (E.map dL.c)->shL m 4 G->L E<=L l+k*bS (m+1)+(1+4*bS m)->Fx Y D (aA a)->(∀q∈aA a3,q∈aA a\/ig Y q)->(∀q∈aA a3,q∈aA a\/q.1=27)->
    (∀(a4:AV) (F:Int) (B:List dL) (j:ae),qc j 181 3 a4 (B.map dL.c)->L B<=L E+4*bS m->Fx Y j (aA a)->(∀q∈aA a4,q∈aA a\/ig Y q)->(∀q∈aA a4,q∈aA a\/q.1=27)->K (.t [a4,iv F]) j)->cB 242 [a3,iv u,iv n3,sl NA.c G] D d K:=by
   intro D a3 n3 E G d K g3 A aC S i3 p3 hK
   have h4:L G*bS m<=4*bS m:=qo _ A.1
   refine jH rfl (ih (S.len.trans y) g3 ⟨by have:=A.1;omega,A.2⟩<|by omega) ?_
   rintro r j ⟨a4,F,B,rfl,N,aa,C,i4,p4⟩
   exact⟨C.len,hK a4 F B j N (by omega) ((S.trans C).mono<|by grind [ig.no]) (by grind [ig.old])<|by grind⟩
  simp only[qz 4,au,u0,u1,ixv,bh,rk,pz,H]
  refine⟨dJ e,v W.p b1 (by simp;omega) P (by grind [ig.old]) (by grind) λa4 F B j N aa C i4 p4=>?_⟩
  simp only[qz 6,au,rr,u0,u1,ixv,bh,pz,H]
  refine⟨dJ e,v N b2 (by grind) C i4 p4 λa5 n5 l5 Y5 g5 aD F5 i5 p5=>?_⟩
  simp only[qz 8,au,rr,u0,u1]
  refine dR (mk:=λ(s:AV×Int) i=>[s.1,iv s.2,iv i]) (s:=(a1,o)) (s':=(a5,n5)) (λ_ _=>rfl) e (by have:=hs.1;omega) ⟨l5,g5,?_,F5,i5,p5⟩
  grind [bS]
structure Wo(Y:ae)(b:Id)(w:J9)(a0 a1 a2 a3 a4 a5:AV):Prop where
 bx:box Y b=V ⟨31,6,U,U,[[a0,a1,a2,a3,a4,a5]]⟩
 g0:qc Y 175 5 a0 (w.cells.map cA.c)
 g1:qc Y 177 2 a1 (w.ak.map dS.c)
 g2:qc Y 179 2 a2 (w.bC.map aOw.c)
 g3:qc Y 9 1 a3 (w.bU.map cs)
 g4:qc Y 9 1 a4 (w.ay.map cs)
 g5:qc Y 181 3 a5 (w.dU.map dL.c)
 p0:∀q∈aA a0,q.1=63
 p1:∀q∈aA a1,q.1=77
 p2:∀q∈aA a2,q.1=92
 p3:∀q∈aA a3,q.1=37
 p4:∀q∈aA a4,q.1=110
 p5:∀q∈aA a5,q.1=27
 sb:b.1=3
 le:L Y=4096
section
variable{Y Y':ae}{b:Id}{w:J9}{a0 a1 a2 a3 a4 a5 a':AV}
theorem Wo.fx0(W:Wo Y b w a0 a1 a2 a3 a4 a5)(F:Fx Y Y' []):Wo Y' b w a0 a1 a2 a3 a4 a5:=⟨F.kq W.bx,W.g0.fx F (by simp),W.g1.fx F (by simp),W.g2.fx F (by simp),W.g3.fx F (by simp),W.g4.fx F (by simp),W.g5.fx F (by simp),W.p0,W.p1,W.p2,W.p3,W.p4,W.p5,W.sb,F.len.trans W.le⟩
theorem Wo.up0{new:List cA}(W:Wo Y b w a0 a1 a2 a3 a4 a5)(e:box Y' b=V ⟨31,6,U,U,[[a',a1,a2,a3,a4,a5]]⟩)(g:bc Y' 175 5 a'<|(w.cells++new).map cA.c)(F:Fx Y Y' (b::aA a0))(N:∀q∈aA a',ig Y q/\q.1=63):Wo Y' b {w with cells:=w.cells++new} a' a1 a2 a3 a4 a5:=by have d:∀q:Id,q.1≠3->q.1≠63->q∉b::aA a0:=λq f h a=>(by grind [Wo.sb,Wo.p0]);exact⟨e,g.p,W.g1.fx F<|λq a=>(by grind [Wo.p1]),W.g2.fx F<|λq a=>(by grind [Wo.p2]),W.g3.fx F<|λq a=>(by grind [Wo.p3]),W.g4.fx F<|λq a=>(by grind [Wo.p4]),W.g5.fx F<|λq a=>(by grind [Wo.p5]),(by grind),W.p1,W.p2,W.p3,W.p4,W.p5,W.sb,F.len.trans W.le⟩
theorem Wo.up1{new:List dS}(W:Wo Y b w a0 a1 a2 a3 a4 a5)(e:box Y' b=V ⟨31,6,U,U,[[a0,a',a2,a3,a4,a5]]⟩)(g:bc Y' 177 2 a'<|(w.ak++new).map dS.c)(F:Fx Y Y' (b::aA a1))(N:∀q∈aA a',ig Y q/\q.1=77):Wo Y' b {w with ak:=w.ak++new} a0 a' a2 a3 a4 a5:=by have d:∀q:Id,q.1≠3->q.1≠77->q∉b::aA a1:=λq f h a=>(by grind [Wo.sb,Wo.p1]);exact⟨e,W.g0.fx F<|λq a=>(by grind [Wo.p0]),g.p,W.g2.fx F<|λq a=>(by grind [Wo.p2]),W.g3.fx F<|λq a=>(by grind [Wo.p3]),W.g4.fx F<|λq a=>(by grind [Wo.p4]),W.g5.fx F<|λq a=>(by grind [Wo.p5]),W.p0,(by grind),W.p2,W.p3,W.p4,W.p5,W.sb,F.len.trans W.le⟩
theorem Wo.up2{new:List aOw}(W:Wo Y b w a0 a1 a2 a3 a4 a5)(e:box Y' b=V ⟨31,6,U,U,[[a0,a1,a',a3,a4,a5]]⟩)(g:bc Y' 179 2 a'<|(w.bC++new).map aOw.c)(F:Fx Y Y' (b::aA a2))(N:∀q∈aA a',ig Y q/\q.1=92):Wo Y' b {w with bC:=w.bC++new} a0 a1 a' a3 a4 a5:=by have d:∀q:Id,q.1≠3->q.1≠92->q∉b::aA a2:=λq f h a=>(by grind [Wo.sb,Wo.p2]);exact⟨e,W.g0.fx F<|λq a=>(by grind [Wo.p0]),W.g1.fx F<|λq a=>(by grind [Wo.p1]),g.p,W.g3.fx F<|λq a=>(by grind [Wo.p3]),W.g4.fx F<|λq a=>(by grind [Wo.p4]),W.g5.fx F<|λq a=>(by grind [Wo.p5]),W.p0,W.p1,(by grind),W.p3,W.p4,W.p5,W.sb,F.len.trans W.le⟩
theorem Wo.up3{new:List ByteArray}(W:Wo Y b w a0 a1 a2 a3 a4 a5)(c:box Y' b=V ⟨31,6,U,U,[[a0,a1,a2,a',a4,a5]]⟩)(g:bc Y' 9 1 a'<|(w.bU++new).map cs)(F:Fx Y Y' (b::aA a3))(N:∀q∈aA a',ig Y q/\q.1=37):Wo Y' b {w with bU:=w.bU++new} a0 a1 a2 a' a4 a5:=by have d:∀q:Id,q.1≠3->q.1≠37->q∉b::aA a3:=λq e f a=>(by grind [Wo.sb,Wo.p3]);exact⟨c,W.g0.fx F<|λq a=>(by grind [Wo.p0]),W.g1.fx F<|λq a=>(by grind [Wo.p1]),W.g2.fx F<|λq a=>(by grind [Wo.p2]),g.p,W.g4.fx F<|λq a=>(by grind [Wo.p4]),W.g5.fx F<|λq a=>(by grind [Wo.p5]),W.p0,W.p1,W.p2,(by grind),W.p4,W.p5,W.sb,F.len.trans W.le⟩
theorem Wo.up4{new:List ByteArray}(W:Wo Y b w a0 a1 a2 a3 a4 a5)(c:box Y' b=V ⟨31,6,U,U,[[a0,a1,a2,a3,a',a5]]⟩)(g:bc Y' 9 1 a'<|(w.ay++new).map cs)(F:Fx Y Y' (b::aA a4))(N:∀q∈aA a',ig Y q/\q.1=110):Wo Y' b {w with ay:=w.ay++new} a0 a1 a2 a3 a' a5:=by have d:∀q:Id,q.1≠3->q.1≠110->q∉b::aA a4:=λq e f a=>(by grind [Wo.sb,Wo.p4]);exact⟨c,W.g0.fx F<|λq a=>(by grind [Wo.p0]),W.g1.fx F<|λq a=>(by grind [Wo.p1]),W.g2.fx F<|λq a=>(by grind [Wo.p2]),W.g3.fx F<|λq a=>(by grind [Wo.p3]),g.p,W.g5.fx F<|λq a=>(by grind [Wo.p5]),W.p0,W.p1,W.p2,W.p3,(by grind),W.p5,W.sb,F.len.trans W.le⟩
end
def WBd(w:J9):Prop:=L w.cells<100000/\L w.ak<100000/\L w.bC<100000/\L w.bU<100000/\L w.ay<100000/\L w.dU<100000
def bbe:∀k,k<9->(gd aNF k).size<=4:=by decide
def rwW{a b c d e f:AV}:aN (V 6) [a,b,c,d,e,f]=V (.a [a,b,c,d,e,f]):=rfl
def aXi(p:aQl)(hp:shP p/\p.bm0=aNF):Ct 189 [.a p.c] (λr=>∃w:J9,r= .a w.c/\WBd w/\((chk p).1=0->∃c∈w.cells,c.name=qN)):=by
 obtain⟨hp,hd⟩:=hp
 refine aDq (bgY rfl λs2 hl b1 h0=>?_)
 simp only[a1P,qy 4]
 refine ic hl λv2 s4 F4 N4 b2=>?_
 have aB:L s4=4096:=F4.len.trans hl
 refine ic aB λC s6 F6 N6 H=>?_
 have c1:=F6.kq<|F4.kq b1
 have c2:=F6.kq b2
 have bB:L s6=4096:=F6.len.trans aB
 have W6:Wo s6 (3,C) ⟨[],[],[],[],[],[]⟩ (.l [] U U) (.l [] U U) (.l [] U U) (.l [] U U) (.l [] U U) (.l [] U U):=⟨H, .inl ⟨rfl,rfl⟩, .inl ⟨rfl,rfl⟩, .inl ⟨rfl,rfl⟩, .inl ⟨rfl,rfl⟩, .inl ⟨rfl,rfl⟩, .inl ⟨rfl,rfl⟩,by simp[aA],by simp[aA],by simp[aA],by simp[aA],by simp[aA],by simp[aA],rfl,bB⟩
 have aT:∀{Y:ae} {w:J9} {a0 a1 a2 a3 a4 a5:AV} {r:List AV},Wo Y (3,C) w a0 a1 a2 a3 a4 a5->box Y (2,v2)=V ⟨31,6,U,U,[r]⟩->L r=6->WBd w->((chk p).1=0->∃c∈w.cells,c.name=qN)->
   aw 6 Y (.p (3,C) 0 0) λt=>sV (aK 6 Y (.p (2,v2) 0 0) t) λaF=>aw 6 aF (.p (2,v2) 0 0) λbd=>aE (λr=>∃w:J9,bm1 r= .a w.c/\WBd w/\((chk p).1=0->∃c∈w.cells,c.name=qN)) aF [bd]:=by
  intro Y w a0 a1 a2 a3 a4 a5 r W hb hr hB y
  simp only[aC5,W.bx,aww,aBF,df,axE,awx,rwW,aY,↓uL]
  refine stW hb hr rfl λY' F b'=>?_
  simp only[b',aww,aBF,df,awx,rwW,aY]
  have d:∀q:Id,q.1≠2->q∉[((2,v2):Id)]:=(by simp_all)
  refine aOv (Q:=λr=>∃w:J9,r= .a w.c/\WBd w/\((chk p).1=0->∃c∈w.cells,c.name=qN)) (v':= .a w.c) ?_ rfl ⟨w,rfl,hB,y⟩
  simp only[fzT,ji,mU,aBr<|W.g0.fx F λq y=>(by grind [Wo.p0]),aBr<|W.g1.fx F λq y=>(by grind [Wo.p1]),aBr<|W.g2.fx F λq y=>(by grind [Wo.p2]),aBr<|W.g3.fx F λq y=>(by grind [Wo.p3]),aBr<|W.g4.fx F λq y=>(by grind [Wo.p4]),aBr<|W.g5.fx F λq y=>(by grind [Wo.p5])]
  rfl
 simp+contextual only[qz 6,qy 8,u0,u1,c1,pz,ar,Fa,aWj,hp,rr]
 refine⟨λbD=>aT W6 c2 rfl (by simp[WBd]) (λh=>by simp[h] at bD),λck=>?_⟩
 have h9:L p.bm0=9:=by rw[hd];rfl
 obtain⟨Inv,ax⟩:∃g:Nat->Unit->ae->Prop,g=λk _ Y=>∃(w:J9) (a0 a1 a2 a3 a4 a5:AV) (r:List AV),Wo Y (3,C) w a0 a1 a2 a3 a4 a5/\box Y (1,1)=V ⟨196,2,U,U,[p.c]⟩/\box Y (2,v2)=V ⟨31,6,U,U,[r]⟩/\L r=6/\L w.cells<=4*k/\L w.ak<=k/\L w.bC<=k/\L w.bU<=k/\w.ay=[]/\w.dU=[]/\(3<k->∃c∈w.cells,c.name=qN):=⟨_,rfl⟩
 refine yV (L p.bm0) Inv (by rw[ax];exact⟨_,_,_,_,_,_,_,_,W6,c1,c2,rfl,by simp,by simp,by simp,by simp,rfl,rfl,by simp⟩) ?_
 rintro k _ Y hk hi
 rw[ax] at hi
 obtain⟨w,a0,a1,a2,a3,a4,a5,r,W,d1,d2,hr,n0,n1,n2,n3,n4,n5,y⟩:=hi
 simp only[qz 49,aI,au,u0,u1,d1,pz,aj]
 refine⟨λh=>bsK (λe=>∀{Y':ae} {X:J9} {x0 x1 x2 x3 x4 x5:AV},Wo Y' (3,C) X x0 x1 x2 x3 x4 x5->box Y' (1,1)=V ⟨196,2,U,U,[p.c]⟩->box Y' (2,v2)=V ⟨31,6,U,U,[r]⟩->L X.cells<=4*(k+1)->L X.ak<=k+1->L X.bC<=k+1->L X.bU<=k+1->X.ay=[]->X.dU=[]->(3<k+1->∃c∈X.cells,c.name=qN)->e [] Y') ?_ λe af=>?_,λh=>?_⟩
 ·intro Y' X x0 x1 x2 x3 x4 x5 g1 g2 A g4 g5 g6 g7 g8 g9 ch
  simp only[qz 69,aI,au,u0,u1]
  exact dR (mk:=λ(_:Unit) i=>[iv i]) (s:=()) (s':=()) (λ_ _=>rfl) (aL h) (by omega) (by grind)
 ·simp only[qz 71,qy 10,u0,u1,d1,rk,pz,aj,ixv,bh]
  refine⟨u7 h,anu W.le λv7 R F1 N1 e7=>?_⟩
  have ac:=aL h
  have o:=W.fx0 F1
  have e1:=F1.kq d1
  have e2:=F1.kq d2
  have co:(gd p.bm0 k).size<=4:=by rw[hd];exact bbe k (by omega)
  have cn:k=3->(gd p.bm0 k).kind=1/\(gd p.bm0 k).name=qN:=by rintro rfl;rw[hd];exact⟨rfl,rfl⟩
  generalize cj:gd p.bm0 k=m at*
  have ep:∀{Y':ae} {j:Nat} {a:AV} {T z:Nat} {bq:Bool} {rs:List (List AV)} {q:Id},Fx R Y' ((3,C)::aA a)->(∀q∈aA a,q.1=j)->q.1≠3->q.1≠j->box R q=V ⟨T,z,U,bq,rs⟩->box Y' q=V ⟨T,z,U,bq,rs⟩:=λF hj E cl hb=>F.keep _ _ (by grind) hb
  have nb:∀{a:AV} {j:Nat},(∀q∈aA a,q.1=j)->j≠3->((3,C):Id)∉aA a:=(by grind)
  have ad:k≠3->3<k+1->∃c∈w.cells,c.name=qN:=(by grind)
  have bs:dG R a1=sl dS.c w.ak:=o.g1.ar
  have N:∀{a:AV} {j:Nat},(∀q∈aA a,q.1=j)->∀q:Id,q.1≠3->q.1≠j->q∉((3,C):Id)::aA a:=(by grind)
  have kc:(m.kind=1\/m.kind=2)\/(m.kind=3\/m.kind=4)\/m.kind=5\/(m.kind≠1/\m.kind≠2/\m.kind≠3/\m.kind≠4/\m.kind≠5):=by omega
  have az:m.kind≠1->k≠3:=(by omega)
  rcases kc with h|h|h|⟨h1,h2,E,h4,h5⟩
  ·rcases h with h|h
   all_goals
    simp only[qz 12,a7i,qz 89,qz 87,qz 131,qz 129,qy 20,qy 32,aI,au,u0,u1,e7,o.bx,pz,aj,ar,eE,sr,aQ6,be8,aO5,h,brp,bq0,Int.reduceEq,↓iC,↓iB]
    obtain⟨M,hM⟩:∃M:Int,M=if 1>m.size then 1 else m.size:=⟨_,rfl⟩
    have ci:1<=M/\M<=4:=by omega
    refine yV M.toNat (λS _ Y'=>∃(new:List cA) (x0:AV),Wo Y' (3,C) {w with cells:=w.cells++new} x0 a1 a2 a3 a4 a5/\box Y' (1,1)=V ⟨196,2,U,U,[p.c]⟩/\box Y' (2,v2)=V ⟨31,6,U,U,[r]⟩/\box Y' (7,v7)=V ⟨308,6,U,U,[m.c]⟩/\L new=S/\(0<S->∃c∈new,c.name=m.name)) ⟨[],a0,by simpa using o,e1,e2,e7,rfl,by simp⟩ ?_
    rintro S _ Y2 cm ⟨new,x0,v,f1,f2,f7,bb,bF⟩
    simp only[qz 103,qy 14,aI,au,u0,u1,f7,v.bx,pz,aj,aRW,<-hM]
    refine⟨λh2=>?_,λh2=>?_⟩
    ·have ba:S<M.toNat:=by grind
     have Z:bM bsR aOs [(0,st m.name),(1,iv S),(2,iv m.size),(3,bv<|Q<|m.kind=2),(4,iv m.init)]=V (.a<|cA.c ⟨m.name,S,m.size,Q<|m.kind=2,m.init⟩):=rfl
     have D:∀{x:cA},aX btQ 1 Y2 [(0, .a<|cA.c x)]=V (.l ([x].map cA.c) U U,Y2):=λ{x}=>ua rfl rfl rfl (by decide) rfl (by decide)
     simp only[Z,aY,D,bQ]
     refine gfP (j:=0) v.bx (by simp) v.g0 (nb v.p0<|by decide) rfl (by decide) (by rw[v.le];decide) (qW (f:=cA.c) (z:=5) λ_=>rfl) (qW (f:=cA.c) (z:=5) λ_=>rfl) (by simp) (by simp;omega) (by simp) λa' Y3 H A u P=>?_
     simp only[qz 18,au,u0,u1]
     rw[<-dg] at A
     have N:∀{q:Id},q.1≠3->q.1≠63->q∉((3,C):Id)::aA x0:=λE br y=>by
      rcases eW.1 y with h|h
      ·rw[h] at E;exact E rfl
      ·exact br (v.p0 _ h)
     have B:=v.up0 (new:=[⟨m.name,S,m.size,Q<|m.kind=2,m.init⟩]) H A u P
     refine dR (mk:=λ(_:Unit) i=>[iv i]) (s:=()) (s':=()) (λ_ _=>rfl) ba (by omega) ⟨new++[⟨m.name,S,m.size,Q<|m.kind=2,m.init⟩],a',by grind,u.keep _ _ (by grind) f1,u.keep _ _ (by grind) f2,u.keep _ _ (by grind) f7,by simp[bb],by simp⟩
    ·have cc:S=M.toNat:=by grind
     refine af v f1 f2 (by simp;omega) (by grind) (by grind) (by grind) n4 n5 λE=>?_
     by_cases h4:k=3
     ·obtain⟨c,hc,bt⟩:=bF (by omega)
      grind
     ·obtain⟨c,hc,bt⟩:=ad h4 E
      grind
  ·have E:=az (by omega)
   rcases h with h|h
   all_goals
    simp only[qz 12,a7i,qz 89,qz 87,qz 131,qz 129,qy 20,qy 32,aI,au,u0,u1,e7,o.bx,pz,aj,ar,eE,sr,aQ6,be8,aO5,h,brp,bq0,Int.reduceEq,↓iC,↓iB]
    have Z:∀{rw:Bool},bM btf bmK [(0,st m.name),(1,bv rw)]=V (.a<|dS.c ⟨m.name,rw⟩):=λ{rw}=>rfl
    have D:∀{x:dS},aX btR 1 R [(0, .a<|dS.c x)]=V (.l ([x].map dS.c) U U,R):=λ{x}=>ua rfl rfl rfl (by decide) rfl (by decide)
    simp only[Z,aY,D,bQ]
    refine gfP (j:=1) o.bx (by simp) o.g1 (nb o.p1<|by decide) rfl (by decide) (by rw[o.le];decide) (qW (f:=dS.c) (z:=2) λ_=>rfl) (qW (f:=dS.c) (z:=2) λ_=>rfl) (by simp) (by simp;omega) (by simp) λa' Y3 H A u P=>?_
    rw[<-dg] at A
    exact af (o.up1 (new:=[⟨m.name,_⟩]) H A u P) (u.keep _ _ (N o.p1 _ (by simp)<|by simp) e1) (u.keep _ _ (N o.p1 _ (by simp)<|by simp) e2) (by grind) (by simp;omega) (by grind) (by grind) n4 n5<|ad E
  ·have E:=az (by omega)
   simp only[qz 12,a7i,qz 89,qz 87,qz 131,qz 129,qy 20,qy 26,aI,au,u0,u1,e7,o.bx,pz,aj,bs,ar,aWj,rr,eE,aQ6,be8,h,brp,bq0,Int.reduceEq,↓iC,↓iB]
   refine⟨by omega,λx=>?_⟩
   have Z:bM bt0 bmK [(0,st m.name),(1,iv x)]=V (.a<|aOw.c ⟨m.name,x⟩):=rfl
   have D:∀{x:aOw},aX btS 1 R [(0, .a<|aOw.c x)]=V (.l ([x].map aOw.c) U U,R):=λ{x}=>ua rfl rfl rfl (by decide) rfl (by decide)
   simp only[Z,aY,D,bQ]
   refine gfP (j:=2) o.bx (by simp) o.g2 (nb o.p2<|by decide) rfl (by decide) (by rw[o.le];decide) (qW (f:=aOw.c) (z:=2) λ_=>rfl) (qW (f:=aOw.c) (z:=2) λ_=>rfl) (by simp) (by simp;omega) (by simp) λa' Y3 H A u P=>?_
   rw[<-dg] at A
   simp only[qz 30]
   refine dT (by first|rfl|(simp[eL,okT,tok,lb,cq,Qh,m8,dC,pP,dK];done)) ?_
   exact af (o.up2 (new:=[⟨m.name,x⟩]) H A u P) (u.keep _ _ (N o.p2 _ (by simp)<|by simp) e1) (u.keep _ _ (N o.p2 _ (by simp)<|by simp) e2) (by grind) (by grind) (by simp;omega) (by grind) n4 n5<|ad E
  ·simp only[qz 12,a7i,qz 89,qz 87,qz 131,qz 129,qy 20,qy 32,aI,au,u0,u1,e7,o.bx,pz,aj,ar,eE,aQ6,be8,h1,h2,E,h4,h5,bq0,↓iB]
   have E:=az h1
   have D:aX zd9 1 R [(0,st m.name)]=V (.l ([m.name].map cs) U U,R):=iz
   simp only[D,bQ]
   refine gfP (j:=3) o.bx (by simp) o.g3 (nb o.p3<|by decide) rfl (by decide) (by rw[o.le];decide) oX oX (by simp) (by simp;omega) (by simp) λa' Y3 H A u P=>?_
   rw[<-dg] at A
   exact af (o.up3 (new:=[m.name]) H A u P) (u.keep _ _ (N o.p3 _ (by simp)<|by simp) e1) (u.keep _ _ (N o.p3 _ (by simp)<|by simp) e2) (by grind) (by grind) (by grind) (by simp;omega) n4 n5<|ad E
 ·have bz:k=9:=by grind
  subst bz
  clear hk h
  refine yV (L p.ay) (λk _ Y=>∃(O:J9) (a4 a5:AV),Wo Y (3,C) O a0 a1 a2 a3 a4 a5/\O.cells=w.cells/\O.ak=w.ak/\O.bC=w.bC/\O.bU=w.bU/\box Y (1,1)=V ⟨196,2,U,U,[p.c]⟩/\box Y (2,v2)=V ⟨31,6,U,U,[r]⟩/\L O.ay<=k/\L O.dU<=k*5000) (by grind) ?_
  rintro k _ Y2 hk ⟨O,x4,x5,v,w0,w1,w2,w3,f1,f2,m4,m5⟩
  have cp:=hp.2.1
  simp only[qz 157,qy 38,qy 48,aI,au,u0,u1,f1,v.bx,rk,pz,aj,ixv,bh]
  refine⟨λh=>⟨u7 h,?_⟩,λh=>?_⟩
  rotate_left
  ·have:=aT v f2 hr (by simp only[WBd,w0,w1,w2,w3];omega) (λ_=>by rw[w0];exact y<|by omega)
   simp only[u1,v.bx,pz,↓uL] at this
   exact this
  have ac:=aL h
  have aR:=(hp.2.2 _<|asq ac).2
  generalize bG:gd p.ay k=tk at*
  have D:aX zd9 1 Y2 [(0,st tk.name)]=V (.l ([tk.name].map cs) U U,Y2):=iz
  simp only[D,bQ]
  have nb:∀{a:AV} {j:Nat},(∀q∈aA a,q.1=j)->j≠3->((3,C):Id)∉aA a:=(by grind)
  have N:∀{a:AV} {j:Nat},(∀q∈aA a,q.1=j)->∀q:Id,q.1≠3->q.1≠j->q∉((3,C):Id)::aA a:=(by grind)
  refine gfP (j:=4) v.bx (by simp) v.g4 (nb v.p4<|by decide) rfl (by decide) (by rw[v.le];decide) oX oX (by simp) (by simp;omega) (by simp) λa' Y3 H A u P=>?_
  rw[<-dg] at A
  have B:=v.up4 (new:=[tk.name]) H A u P
  have h1:=u.keep _ _ (N v.p4 _ (by simp)<|by simp) f1
  have h2:=u.keep _ _ (N v.p4 _ (by simp)<|by simp) f2
  have b8:bS 4=585:=rfl
  have hm:L tk.body*bS 4<=8*bS 4:=qo _ aR.1
  simp only[qz 42]
  refine dT (by first|rfl|(simp[eL,okT,tok,lb,cq,Qh,m8,dC,pP,dK];done)) ?_
  simp only[u0,u1,B.bx,h1,rk,pz,aj,ixv,bh,bG]
  refine⟨dJ ac,jH rfl (bdu k 4 (n:=0) B.le B.g5 aR<|by grind) ?_⟩
  rintro cr Y4 ⟨aJ,n',l',rfl,g4,aB,F4,i4,p4⟩
  refine⟨F4.len,?_⟩
  have p5:∀q∈aA aJ,q.1=27:=λq y=>(by grind [Wo.p5])
  have bo:∀q:Id,q.1≠27->q∉aA x5:=λq h y=>h<|B.p5 q y
  have b4:=F4.keep _ _ (bo _<|by simp) B.bx
  simp only[qz 44,rr,aY,u1,b4,aj]
  refine A0 b4 g4.ce (by simp) λY5 F5 b5=>?_
  simp only[qz 46]
  refine dT (by first|rfl|(simp[eL,okT,tok,lb,cq,Qh,m8,dC,pP,dK];done)) ?_
  have cg:∀q:Id,q.1≠3->q∉[((3,C):Id)]:=(by grind)
  have G:Fx Y3 Y5 (aA x5++[(3,C)]):=F4.trans F5
  have K:∀q:Id,q.1≠27->q.1≠3->q∉aA x5++[((3,C):Id)]:=(by grind)
  have W5:Wo Y5 (3,C) {O with ay:=O.ay++[tk.name],dU:=l'} a0 a1 a2 a3 a' aJ:=⟨b5,B.g0.fx G<|λq y=>K q (by grind [Wo.p0])<|by grind [Wo.p0],B.g1.fx G<|λq y=>K q (by grind [Wo.p1])<|by grind [Wo.p1],B.g2.fx G<|λq y=>K q (by grind [Wo.p2])<|by grind [Wo.p2],B.g3.fx G<|λq y=>K q (by grind [Wo.p3])<|by grind [Wo.p3],B.g4.fx G<|λq y=>K q (by grind)<|by grind,g4.fx F5 (by grind),B.p0,B.p1,B.p2,B.p3,B.p4,p5,rfl,F5.len.trans<|F4.len.trans B.le⟩
  simp only[u0,u1]
  refine dR (mk:=λ(_:Unit) i=>[iv i]) (s:=()) (s':=()) (λ_ _=>rfl) ac (by omega) ⟨_,a',aJ,W5,w0,w1,w2,w3,G.keep _ _ (by grind) h1,G.keep _ _ (by grind) h2,by simp;omega,?_⟩
  grind
def aUd:FT:=om aXi
def bb0{p Lw K}:=f111 aUd aXi p Lw K (j:=by simp+contextual only[ij,ijv])
def aYc:dO:=(189,aUd)::a7B
def aX5:eJ aYc:=ve (rj aXi)<|aX4
def aQV:=ai @bb0<|@aWj
section
attribute[local irreducible] aX
def a5E:=lA 28 [(7,([7],[2,3,4,5,6])),(13,([],[2,3,4,5,6,7,8])),(16,([9],[2,3,4,5,6,7,8])),(21,([],[2,3,4,5,6,7,8]))]
def aUA a s0 R:=(.mk _:NF<|zF GGV aYc a5E Tryz.f123 [a] [] s0<|I3 Tryz.f123 R).p
def bgf{a:AV}{R:j4}(h:∀s0:ae,L s0=4096->(∀k,aZ s0 k=mO)->aUA a s0 R):Fn aS GG 123 [a] R:=by refine fnV (uq ready (aQ9 aX5) Tryz.func123 (an:=a5E) (by kernel_rfl)<|Eq.mpr (show ZF aS GGV aYc a5E Tryz.f123 [a] R=(aUA a (ly Tryz.f123) R) by kernel_rfl) ?_);exact h _ uB<|i8 _
def a9m:=lA 32 [(9,([8,9],[1,2,7])),(21,([12],[1,2,7,8,9,10,11])),(27,([14],[1,2,7,8,9,10,11,12,13]))]
def a1t a b R:=(.mk _:NR aYc a9m Tryz.f122 [.u] [a] b R).p
def bgU{c0:List AV}{R:j4}(l0:L c0=2)(h:H1 196 2 1 c0 λia b=>a1t ia b R):Ct 122 [.a c0] R:=z1 a9m aX5 Tryz.func122 l0 h
end
section
attribute[local irreducible] aX
def aUF a a1 s0 R:=(.mk _:NS a7x asK Tryz.f115 [a,a1] [] s0 R).p
def bgg{a a1:AV}{s0:ae}{R:be}(hs:L s0=4096)(h:aUF a a1 s0 R):EB 115 [a,a1] s0 R:=zB asK aNH Tryz.func115 h
def aUJ a a1 s0 R:=(.mk _:NS a7x at1 Tryz.f281 [a,a1] [] s0 R).p
def bgo{a a1:AV}{s0:ae}{R:be}(hs:L s0=4096)(h:aUJ a a1 s0 R):EB 281 [a,a1] s0 R:=zB at1 aNH Tryz.func281 h
def aUI a a1 s0 R:=(.mk _:NS a7x atB Tryz.f278 [a,a1] [] s0 R).p
def bgm{a a1:AV}{s0:ae}{R:be}(hs:L s0=4096)(h:aUI a a1 s0 R):EB 278 [a,a1] s0 R:=zB atB aNH Tryz.func278 h
def aUH a a1 b s0 R:=(.mk _:NS a7x auF Tryz.f282 [a,a1,b] [] s0 R).p
def bgl{a a1 b:AV}{s0:ae}{R:be}(hs:L s0=4096)(h:aUH a a1 b s0 R):EB 282 [a,a1,b] s0 R:=zB auF aNH Tryz.func282 h
def a8R:=lA 47 [(13,([],[4,7]))]
def aUK a a1 s0 R:=(.mk _:NS a7x a8R Tryz.f244 [a,a1] [] s0 R).p
def bgp{a a1:AV}{s0:ae}{R:be}(hs:L s0=4096)(h:aUK a a1 s0 R):EB 244 [a,a1] s0 R:=zB a8R aNH Tryz.func244 h
def a8S:=lA 9 [(4,([7,8],[0,1,2]))]
def aZ9 d(I1:aG)(m1:bu) e b a:=aV (gt d 1) (iv 1) λc=>I1 [b,c] a/\m1 [b,c] a<m1 d e
def aUQ a I1 m1 f d b:=eV (aX brP 1 b [(0,d)]) λe c=>eV (Gy 274 brG 176 c 30 (gt a 0) e)<|aZ9 a I1 m1 f
def aRp k d a1 R I1 m1 b c:=Rg->aU (gt b 1) k λt3=>Qct t3 (gt b 1) λl=>Qot t3 (QbE l<|iv 0) λm=>Qct t3 m λa=>bX a d λe=>aC a (rV<|cO c e) λf=>bn a 2 c f λg=>aC a (aO .gtr g<|iv 0) λh=>Qot t3 (aD a (bv U) h) λi=>aD t3 i (bv I) λj=>ah j (cB 244 [d,a1] c 28<|aUQ b I1 m1 c)<|aNN R c [gt b 0]
def aUP a a1 b s0 R:=lV [.l [] U U,iv 0] s0<|aRp b a a1 R
def bgq{a a1 b:AV}{s0:ae}{R:be}(hs:L s0=4096)(h:aUP a a1 b s0 R):EB 194 [a,a1,b] s0 R:=zB a8S aNH Tryz.func194 h
end
structure Tp(Y:ae)(b:Id)(l:List Int)(at':Nat):Prop where
 bx:box Y b=V ⟨117,2,U,U,[[sl cu l,iv at']]⟩
 le:at'<=L l
 ok:∀x∈l,0<=x/\x<256
 ll:L l<4611686018427387904
theorem Tp.fx{Y Y':ae}{b:Id}{l:List Int}{a:Nat}{ks:List Id}(T:Tp Y b l a)(F:Fx Y Y' ks)(h:b∉ks):Tp Y' b l a:=⟨F.keep _ _ h T.bx,T.le,T.ok,T.ll⟩
def a6S{Y:ae}{l:List Int}:fS Y (sl cu l)=V (iv<|L l):=cT
def aWF{Y:ae}{b:Id}{l:List Int}{a:Nat}(q:L Y=4096)(T:Tp Y b l a)(n:Int):∃r Y1,(∃(x:Int) (f:Nat),r=iv x/\0<=x/\(1<=n->x<n)/\Tp Y1 b l f/\a<=f/\(a<L l->1<=n->f=a+1)/\Fx Y Y1 [b])/\cZ aS GG 115 [.p b 0 0,iv n] Y r Y1:=by refine bgg q ?_;have i:=T.bx;have u:=T.ll;simp+contextual only[aUF,qb i,u0,u1,i,aRV,bfx,aRa,aj];refine⟨λh=>?_,λh=>?_⟩;refine⟨0,a,rfl,by omega,λh=>by omega,T,by omega,λh1 h2=>?_,Fx.refl _ _⟩;grind;simp only[cP,aNK] at h;have c:a<L l:=(by omega);rw[fX<|by omega];refine A0 i rfl (by simp) λY1 j g=>?_;have s:=T.ok _<|asq c;simp only[qz 2,qb g,u0,u1,g,aRV,bfx,aRa,aj,List.set_cons_succ,List.set_cons_zero,a6E,cu,qM,aS6,aPR,aP1];have k:dq.wrap (((a+1:Nat):Int)-1)=(a:Int):=(by grind [eM]);rw[k,bh,eM (x:=gd l a) (by omega)<|by omega];refine⟨dJ c,by omega,_,a+1,rfl,Int.tmod_nonneg _ s.1,λh1=>Int.tmod_lt_of_pos _ (by omega),⟨g,c,T.ok,T.ll⟩,by omega,λ_ _=>rfl,j⟩
def a55{Y:ae}{b:Id}{l:List Int}{a:Nat}(f:L Y=4096)(T:Tp Y b l a){n:Int}{d:Nat}{K:be}(g:∀(x:Int) (c:Nat) Y1,0<=x->(1<=n->x<n)->Tp Y1 b l c->a<=c->(a<L l->1<=n->c=a+1)->Fx Y Y1 [b]->K (iv x) Y1):cB 115 [.p b 0 0,iv n] Y d K:=by refine jH rfl (aWF f T n) ?_;grind [Fx.len]
structure J7(Y:ae)(m b:Id)(hs:List ByteArray)(h:AV):Prop where
 mx:∃(th lf:Int) (s tx at' lp:Bool),box Y m=V ⟨268,8,U,U,[[.p b 0 0,iv th,iv lf,bv s,bv tx,bv at',bv lp,h]]⟩
 tp:∃l a,Tp Y b l a
 gh:qc Y 9 1 h (hs.map cs)
 le:L Y=4096
 sm:m.1=16
 sb:b.1=14
 sh:∀q∈aA h,q.1=15
section
variable{Y Y':ae}{m b:Id}{hs:List ByteArray}{h:AV}{d:Nat}{K:be}
theorem J7.ne(M:J7 Y m b hs h):m≠b:=(by grind [J7.sm,J7.sb])
theorem J7.fx{ks:List Id}(M:J7 Y m b hs h)(F:Fx Y Y' ks)(h1:m∉ks)(h2:b∉ks)(c:∀q∈aA h,q∉ks):J7 Y' m b hs h:=by obtain⟨k,i,s,tx,f,j,g⟩:=M.mx;obtain⟨l,a,T⟩:=M.tp;exact⟨(by grind [Fx.keep]),⟨l,a,T.fx F h2⟩,M.gh.fx F c,F.len.trans M.le,M.sm,M.sb,M.sh⟩
theorem J7.fx0(M:J7 Y m b hs h)(F:Fx Y Y' []):J7 Y' m b hs h:=(by grind [J7.fx])
theorem J7.nb(M:J7 Y m b hs h):∀q∈aA h,q∉[b]:=(by grind [J7.sh,J7.sb])
theorem J7.nm(M:J7 Y m b hs h):∀q∈aA h,q∉[m]:=(by grind [J7.sh,J7.sm])
theorem aO4(M:J7 Y m b hs h){n:Int}(g:∀(x:Int) Y1,0<=x->(1<=n->x<n)->J7 Y1 m b hs h->Fx Y Y1 [b]->K (iv x) Y1):cB 115 [.p b 0 0,iv n] Y d K:=by obtain⟨r,k,s,tx,i,q,j⟩:=M.mx;obtain⟨l,a,T⟩:=M.tp;refine a55 M.le T λx c Y1 h1 h2 f _ _ F=>g x Y1 h1 h2 ⟨(by grind [Fx.keep,J7.ne]),⟨l,c,f⟩,M.gh.fx F M.nb,F.len.trans M.le,M.sm,M.sb,M.sh⟩ F
theorem aPJ(M:J7 Y m b hs h){j:Nat}{x:AV}{K:ae->Prop}(c:(j=1\/j=2)/\(∃n:Int,x=iv n)\/(3<=j/\j<=6)/\∃u:Bool,x=bv u)(f:∀Y1,J7 Y1 m b hs h->Fx Y Y1 [m]->K Y1):sV (aK 1 Y (.p m 0 j) x) K:=by obtain⟨w,r,s,tx,k,v,g⟩:=M.mx;obtain⟨l,a,T⟩:=M.tp;have i:eY x=V [x]:=(by rcases c with⟨_,n,rfl⟩|⟨_,u,rfl⟩<;>rfl);refine A0 g i (by simp;omega) λY1 F q=>f Y1 ⟨?_,⟨l,a,T.fx F<|by simpa using M.ne.symm⟩,M.gh.fx F M.nm,F.len.trans M.le,M.sm,M.sb,M.sh⟩ F;rcases c with⟨h1|h1,n,rfl⟩|⟨h1,u,rfl⟩;simp_all;simp_all;obtain rfl|rfl|rfl|rfl:j=3\/j=4\/j=5\/j=6:=(by omega);simp_all;simp_all;simp_all;simp_all
def bdh(M:J7 Y m b hs h)(g:L hs<1000)(s:ByteArray):∃r Y1,((∃v,r= .s v/\∃u:Bool,v= .bool u)/\Fx Y Y1 [])/\cZ aS GG 281 [.p m 0 0,st s] Y r Y1:=by refine bgo M.le ?_;obtain⟨k,i,s,tx,f,j,a⟩:=M.mx;have c:dG Y h=sl cs hs:=M.gh.ar;simp only[aUJ,qb a,u0,u1,a,aRV,bfx,aRa,aj,jM,kU,jt,c,tW,aD6,AL,GL];exact⟨by omega,⟨_,rfl,_,rfl⟩,Fx.refl _ _⟩
theorem aQP(M:J7 Y m b hs h)(a:L hs<1000){s:ByteArray}(c:∀u:Bool,K (bv u) Y):cB 281 [.p m 0 0,st s] Y d K:=aV6 rfl (bdh M a s) (by simp_all)
def isE(k:Nat)(r:AV):Prop:=∃(e:lD) (t o:Bool),shE k e/\r= .a [iv e.op,iv e.n,st e.name, .l (e.l.map lD.c) t o]
theorem isE.mono{k n:Nat}{r:AV}(h:isE k r)(a:k<=n):isE n r:=by obtain⟨e,t,o,h1,h2⟩:=h;exact⟨e,t,o,h1.mono a,h2⟩
def ExR(Y:ae)(m b:Id)(hs:List ByteArray)(h:AV)(k:Nat)(r:AV)(Y1:ae):Prop:=isE k r/\J7 Y1 m b hs h/\Fx Y Y1 [b]
theorem aTx{q:Id}{T:TypeId}{z:Nat}{r cs:List AV}{R:be}(f:box Y q=V ⟨T,z,U,U,[r]⟩)(i:L r=z)(g:L cs=z)(c:∀Y1,Fx Y Y1 [q]->R (.a cs) Y1):sV (aK z Y (.p q 0 0)<|.a cs) λs=>rV (vp (V z) s<|.p q 0 0) λt=>aNN R s [t]:=by refine stW f i g λY1 F j=>?_;have:vp (V z) Y1 (.p q 0 0)=V (.a cs):=(by grind [vp,iE,aN]);rw[this];exact c Y1 F
def baK{Y:ae}:aX zd9 7 Y [(0,sv [97]),(1,sv [98]),(2,sv [120]),(3,sv [121]),(4,sv [118]),(5,sv [120]),(6,sv [121])]=V (.l ([⟨#[97]⟩,⟨#[98]⟩,⟨#[120]⟩,⟨#[121]⟩,⟨#[118]⟩,⟨#[120]⟩,⟨#[121]⟩].map cs) U U,Y):=by kernel_rfl
def baN{Y:ae}:aX bH 6 Y [(0,iv 6),(1,iv 7),(2,iv 8),(3,iv 11),(4,iv 13),(5,iv 17)]=V (.l ([6,7,8,11,13,17].map ci) U U,Y):=by kernel_rfl
def aSY{e:lD}{t o:Bool}:dG Y (.a [iv e.op,iv e.n,st e.name, .l (e.l.map lD.c) t o])= .a e.c:=by rw[aoH];rfl
theorem aXO{x:Value}{c d:List AV}{r:AV}(h:eB (.a c)=[])(f:eB (.a d)=[]):lo Y [.s x, .a c, .a d] r=True:=by have e:eB (.s x)=[]:=rfl;grind [lo,nA]
def aXP{x:Value}{c:List AV}{r:AV}(h:eB (.a c)=[]):lo Y [.s x, .a c] r=True:=by have e:eB (.s x)=[]:=rfl;simp[lo,nA,h,e]
def a6T{x:Value}{r:AV}:lo Y [.s x] r=True:=by simp[lo,nA,eB,iR]
def aWC{k:Nat}{e:lD}(h:shE k e):isE k (.a e.c):=⟨e,I,I,h,by rw[aoH];rfl⟩
theorem a6K{n:Nat}(hn:n<=1)(ih:n=1->∀{Y:ae},J7 Y m b hs h->∃r Y1,ExR Y m b hs h 1 r Y1/\cZ aS GG 278 [.p m 0 0,iv 0] Y r Y1)(M:J7 Y m b hs h):
  ∃r Y1,ExR Y m b hs h (n+1) r Y1/\cZ aS GG 278 [.p m 0 0,iv n] Y r Y1:=by
 obtain⟨m1,F⟩:=m
 obtain rfl:m1=16:=M.sm
 obtain⟨b1,z⟩:=b
 obtain rfl:b1=14:=M.sb
 refine bgm M.le ?_
 simp only[aUI]
 refine ic M.le λv s1 R N1 q1=>?_
 simp only[qz 2,baK,bQ]
 have W:=M.fx0 R
 obtain⟨th,lf,s,tx,X,lp,N⟩:=W.mx
 simp only[qz 4,qb N,u0,u1,N,aRV,aRa,aj]
 refine aO4 W λx s2 h1 h2 D S=>?_
 have h2:=h2 (by decide)
 obtain⟨th,lf,s,tx,X,lp,C⟩:=D.mx
 have H:=S.kq q1
 have G:Fx Y s2 [(14,z)]:=(R.trans S).mono (by simp)
 have B:∀{g k:ae} {r:AV},isE (n+1) r->J7 g (16,F) (14,z) hs h->Fx Y g [(14,z)]->Fx g k [(4,v)]->ExR Y (16,F) (14,z) hs h (n+1) r k:=λE j f i=>
  ⟨E,j.fx i (by simp) (by simp) (λq hq e=>by grind [J7.sh]),(f.trans i).mono<|by grind [ig.no]⟩
 have P:∀{g:ae} {d:Nat} {K:be},n=1->J7 g (16,F) (14,z) hs h->(∀r k,isE 1 r->J7 k (16,F) (14,z) hs h->Fx g k [(14,z)]->K r k)->cB 278 [.p (16,F) 0 0,iv 0] g d K:=λh1 j hK=>by
  refine jH rfl (ih h1 j) ?_
  rintro r k ⟨g1,u,g3⟩
  grind [Fx.len]
 simp+contextual only[qz 6,qy 16,qb C,u0,u1,C,aRV,aRa,aj,gT]
 refine⟨λ_=>?_,λhc=>⟨λ_=>?_,λh7=>⟨λh8=>?_,λh8=>?_⟩⟩⟩
 ·refine aO4 D λy g g1 u j f=>?_
  have A:=f.kq H
  simp only[qz 8,qy 10,jM,kU,jt,tW,aD6,a6T,GL]
  exact aTx A rfl aN9 λk i=>B (aWC ⟨.inl ⟨.inl rfl,rfl⟩,by simp[lD.l]⟩) j ((G.trans f).mono<|by simp) i
 ·refine aO4 D λy g g1 u j f=>?_
  have A:=f.kq H
  have u:=u (by decide)
  simp only[qz 12,qy 14,amZ,u0,u1,rk,pz,jM,kU,jt,tW,aD6,a6T,GL]
  exact⟨⟨g1,u⟩,aTx A rfl aN9 λk i=>B (aWC ⟨.inl ⟨.inr rfl,rfl⟩,by simp[lD.l]⟩) j ((G.trans f).mono<|by simp) i⟩
 ·have w:n=1:=by grind
  refine P w D λr g E j f=>?_
  have A:=f.kq H
  obtain⟨e,t,o,he,rfl⟩:=E
  have aa:aX bts 1 g [(0, .a [iv e.op,iv e.n,st e.name, .l (e.l.map lD.c) t o])]=V (.l [e.c] U U,g):=aQm (by rw[aoH];rfl) aN9 (by decide) (by rw[aoH];rfl) (by decide)
  simp only[aa,bQ,qz 18,qy 20]
  have Z:bM bth brF [(0,iv 3),(2,sv [113]),(3, .l [e.c] U U)]=V (.a [iv 3,iv 0,sv [113], .l [e.c] U U]):=rfl
  simp only[Z,aY]
  refine aTx A rfl rfl λk i=>B ⟨lD.mk 3 0 ⟨#[113]⟩ [e],U,U,⟨.inr<|.inl ⟨rfl,rfl,rfl⟩,?_⟩,rfl⟩ j ((G.trans f).mono<|by simp) i
  grind [lD.l]
 ·have w:n=1:=by grind
  have e0:dq.wrap ((n:Int)-1)=0:=by subst w;rfl
  simp only[baN,bQ,qz 22,qb C,u0,u1,C,aRV,aRa,aj,gT]
  refine aO4 D λy g g1 u j f=>?_
  have u:=u (by decide)
  have A:=f.kq H
  simp only[qz 24,tf,u0,u1,rk,pz,e0]
  refine⟨⟨g1,u⟩,P w j λr k E M4 i=>?_⟩
  have q4:=i.kq A
  simp only[qz 26,u0,u1,e0]
  refine P w M4 λr' s5 ab M5 T=>?_
  have q5:=T.kq q4
  obtain⟨e,t,o,he,rfl⟩:=E
  obtain⟨e',t',o',ax,rfl⟩:=ab
  have O:6<=gd [(6:Int),7,8,11,13,17] y.toNat:=by
   grind [asq]
  generalize gd [(6:Int),7,8,11,13,17] y.toNat=op at O
  simp only[qz 28,jM,kU,jt,tW,aSY,aD6]
  rw[aXO rfl rfl]
  refine⟨trivial,stW q5 rfl aN9 λs6 F6 b6=>?_⟩
  refine dT (by simp[eL,lb,cq,Qh,m8,dC,dK]) ?_
  have:vp (V 4) s6 (.p (4,v) 0 0)=V (.a (lD.mk op 0 ⟨#[]⟩ [e,e']).c):=by grind [aC5,a69]
  (try rw[art]);rw[this]
  refine B (aWC ⟨.inr<|.inr ⟨O,rfl⟩,?_⟩) M5 ((((G.trans f).trans i).trans T).mono<|by simp) F6
  grind [lD.l]
def a6J(M:J7 Y m b hs h):∃r Y1,ExR Y m b hs h 1 r Y1/\cZ aS GG 278 [.p m 0 0,iv 0] Y r Y1:=a6K (n:=0) (by omega) (λh=>by omega) M
def bdg(M:J7 Y m b hs h):∃r Y1,ExR Y m b hs h 2 r Y1/\cZ aS GG 278 [.p m 0 0,iv 1] Y r Y1:=a6K (n:=1) (by omega) (λ_ {Y} M=>a6J M) M
theorem baU(M:J7 Y m b hs h)(f:∀r Y1,isE 2 r->J7 Y1 m b hs h->Fx Y Y1 [b]->K r Y1):cB 278 [.p m 0 0,iv 0] Y d K:=by refine jH rfl (a6J M) ?_;rintro r g ⟨g1,a,c⟩;grind [Fx.len,isE.mono]
theorem aQO(M:J7 Y m b hs h)(f:∀r Y1,isE 2 r->J7 Y1 m b hs h->Fx Y Y1 [b]->K r Y1):cB 278 [.p m 0 0,iv 1] Y d K:=by refine jH rfl (bdg M) ?_;rintro r g ⟨g1,a,c⟩;grind [Fx.len]
structure RH(m b:Id)(Y:ae)(h:AV)(Y1:ae)(h1:AV):Prop where
 f:Fx Y Y1 (m::b::aA h)
 i:∀q∈aA h1,q∈aA h\/ig Y q
section
variable{Y2 Y1:ae}{h1 h2:AV}
theorem RH.refl:RH m b Y h Y h:=⟨Fx.refl _ _,λ_ g=> .inl g⟩
theorem RH.trans(H:RH m b Y h Y1 h1)(a:RH m b Y1 h1 Y2 h2):RH m b Y h Y2 h2:=by refine⟨(H.f.trans a.f).mono λq c=>?_,λq c=>(a.i q c).elim (H.i q) λg=> .inr<|g.old H.f⟩;grind [RH.i,ig.no]
theorem RH.of{ks:List Id}(F:Fx Y Y1 ks)(a:∀q∈ks,q=m\/q=b\/ig Y q):RH m b Y h Y1 h:=⟨(by grind [Fx.mono,ig.no]),λ_ g=> .inl g⟩
theorem RH.ofb(F:Fx Y Y1 [b]):RH m b Y h Y1 h:= .of F (by simp)
def RH.ofm(F:Fx Y Y1 [m]):RH m b Y h Y1 h:= .of F (by simp)
def RH.of0(F:Fx Y Y1 []):RH m b Y h Y1 h:= .of F (by simp)
theorem RH.new(H:RH m b Y h Y1 h1){q:Id}(F:Fx Y1 Y2 [q])(a:ig Y q):RH m b Y h Y2 h1:=⟨(H.f.trans F).mono (by grind [ig.no]),H.i⟩
theorem J7.out(M:J7 Y m b hs h):∀q:Id,q.1≠14->q.1≠15->q.1≠16->q∉m::b::aA h:=λq g1 a c f=>by
 grind [J7.sm,J7.sb,J7.sh]
end
def aTj{x:NA}:eB (.a x.c)=[]:=by rw[a6X];rfl
def aYy{a:ae}{x:NA}:Lv a Y x.c x.c:=⟨by rw[a6X];rfl,by rw[aTj];simp⟩
def aPq{f:ae}{op:Int}{nm i:ByteArray}{index:List lD}{e:lD}{t o u o':Bool}{bd a:AV}{body els:List NA}(k:qc Y 274 11 bd<|body.map NA.c)(p:qc Y 274 11 a<|els.map NA.c)(r:∀q∈aA bd,ig f q)(s:∀q∈aA a,ig f q):Lv f Y [iv op,iv 0,st nm,st i, .l (index.map lD.c) u o',iv e.op,iv e.n,st e.name, .l (e.l.map lD.c) t o,bd,a] (NA.mk op 0 nm i index e body els).c:=by refine⟨?_,λq j=>?_⟩;rw[a6X];simp only[ji,mU,aOb k,aOb p,aQ5,aXQ];rfl;simp only[eB,Cz,RN,iR,dW,cL,dF] at j;rcases j with g|g;(exact r q<|by cases bd<;>first|exact g|simp[iR] at g);exact s q (by cases a<;>first|exact g|simp[iR] at g)
def aPB{op:Int}{nm j:ByteArray}{index:List lD}{e:lD}{t o r o':Bool}{bd f:AV}{P:Id->Prop}(k:∀q∈aA bd,P q)(p:∀q∈aA f,P q):∀q∈eB (.a [iv op,iv 0,st nm,st j, .l (index.map lD.c) r o',iv e.op,iv e.n,st e.name, .l (e.l.map lD.c) t o,bd,f]),P q:=λq i=>by
 simp only[eB,Cz,RN,iR,dW,cL,dF] at i
 rcases i with g|g
 ·exact k q (by cases bd<;>first|exact g|simp[iR] at g)
 ·exact p q (by cases f<;>first|exact g|simp[iR] at g)
def SmR(Y:ae)(m b:Id)(hs:List ByteArray)(h:AV)(d:Nat)(r:AV)(Y1:ae):Prop:=∃cs x f,r= .a cs/\Lv Y Y1 cs (NA.c x)/\(∀q∈eB (.a cs),q.1=30\/q.1=126)/\shS (d+1) x/\J7 Y1 m b hs f/\RH m b Y h Y1 f
def SsR(Y:ae)(m b:Id)(hs:List ByteArray)(h:AV)(d:Nat)(n:Int)(r:AV)(Y1:ae):Prop:=∃(l:List NA) (a:AV),qc Y1 274 11 r (l.map NA.c)/\L l<=n/\(∀x∈l,shS (d+1) x)/\(∀q∈aA r,ig Y q/\q.1=30)/\J7 Y1 m b hs a/\RH m b Y h Y1 a
def aQH(m b:Id)(d:Nat):Prop:=∀{Y:ae} {hs:List ByteArray} {h:AV} {n:Int},J7 Y m b hs h->L hs+d<=500->0<=n->n<=3->∃r Y1,SsR Y m b hs h d n r Y1/\cZ aS GG 194 [.p m 0 0,iv d,iv n] Y r Y1
theorem aQQ{D:Nat}(w:aQH m b D)(M:J7 Y m b hs h)(v:L hs+D<=500){i n:Int}(u:i=D)(k:0<=n)(s:n<=3)(C:∀(a:AV) (l:List NA) (g:AV) Y1,qc Y1 274 11 a (l.map NA.c)->(L l:Int)<=n->(∀x∈l,shS (D+1) x)->(∀q∈aA a,ig Y q/\q.1=30)->J7 Y1 m b hs g->RH m b Y h Y1 g->K a Y1):cB 194 [.p m 0 0,iv i,iv n] Y d K:=by subst u;refine jH rfl (w M v k s) ?_;rintro r Y1 ⟨l,g,g1,y,z,A,B,j⟩;exact⟨j.f.len,by grind⟩
def baO{Y:ae}{x:ByteArray}:aX zd9 1 Y [(0,st x)]=V (.l ([x].map cs) U U,Y):=iz
theorem bdS(M:J7 Y m b hs h){h1:AV}{c:List ByteArray}{K:ae->Prop}(g:qc Y 9 1 h1<|c.map cs)(j:∀q∈aA h1,q.1=15)(f:∀Y1,J7 Y1 m b c h1->Fx Y Y1 [m]->K Y1):sV (aK 1 Y (.p m 0 7) h1) K:=by obtain⟨v,r,s,tx,k,u,i⟩:=M.mx;obtain⟨l,a,T⟩:=M.tp;refine A0 i g.ce (by simp) λY1 F n=>f Y1 ⟨(by simp_all),⟨l,a,T.fx F<|by simpa using M.ne.symm⟩,(by grind [qc.fx,J7.sm]),F.len.trans M.le,M.sm,M.sb,j⟩ F
theorem bdd{D:Nat}(ih:aQH m b D)(M:J7 Y m b hs h)(hl:L hs+D+1<=500){s:ByteArray}{O:Int}(hd:O=D):∃r Y1,SsR Y m b hs h D 2 r Y1/\cZ aS GG 282 [.p m 0 0,st s,iv O] Y r Y1:=by refine bgl M.le ?_;obtain⟨G,B,s',tx,j,C,A⟩:=M.mx;simp only[aUH,qy 2,qb A,u0,u1,A,aRV,bfx,aRa,aj,baO];refine apQ M.gh M.le (by simp) (by simp) (by simp) (by simp;omega) λy E z u N4=>?_;rw[<-dg] at z;have n:=u.keep _ _ (λc=>by have:=M.sh _ c;have:=M.sm;omega) A;have W:∀{Y':ae} {K:ae->Prop},(∀Y1,J7 Y1 m b (hs++[s]) y->Fx E Y1 [m]->K Y1)->sV (aK 1 E (.p m 0 7) y) K:=λ{Y' K} hK=>(by obtain⟨l,a,T⟩:=M.tp;refine A0 n z.p.ce (by simp) λY1 F b1=>hK Y1 ⟨⟨G,B,s',tx,j,C,b1⟩,⟨l,a,(T.fx u<|by grind [J7.sh,J7.sb]).fx F<|by simpa using M.ne.symm⟩,z.p.fx F (by grind [J7.sm]),F.len.trans<|u.len.trans M.le,M.sm,M.sb,λq c=>(N4 q c).2⟩ F);simp only[qz 4,qb n,u0,u1,n,aj];refine W (Y':=E) λs5 N R=>?_;obtain⟨G,B,s',tx,j,C,v⟩:=N.mx;simp only[qz 6,qb v,u0,u1,v,aRV,aRa,aj];refine aO4 N λx s6 h1 h2 X S=>?_;have h2:=h2 (by decide);simp only[qz 8,u0,u1,eM (x:=1+x) (by omega)<|by omega];refine aQQ ih X (by simp;omega) hd (by omega) (by omega) λa l h' s7 g1 g2 g3 k g R7=>?_;obtain⟨G,B,s',tx,j,C,w⟩:=g.mx;simp only[qz 10,qy 12,qb w,u0,u1,w,aRV,bfx,aRa,aj,g.gh.ln,bJ,a6G,bZ,aO1];have e1:dq.wrap (((L hs+(0+1):Nat):Int)-1)=(L hs:Int):=(by grind [eM]);rw[e1];refine slP g.gh (by omega) (by simp;omega) λa8 P e8=>?_;rw[bh,dg,List.take_left'<|by simp] at P;refine bdS g P (λq c=>g.sh q<|e8▸c) λs9 Z H=>?_;have R4:RH m b Y h s6 y:=⟨((u.trans R).trans S).mono (by grind),by simp_all⟩;have R9:RH m b Y h s9 h':=(R4.trans R7).trans<|.ofm H;exact⟨l,a8,g1.fx H (λq c e=>by have:=(k q c).2;have:=M.sm;simp at e;subst e;omega),by omega,g3,λq c=>⟨(k q c).1.old R4.f,(k q c).2⟩,Z,⟨R9.f,by grind [RH.i]⟩⟩
def aPh{A:(be)->Prop}{K:be}:gF U A Y K=A K:=rfl
def aOq{A:(be)->Prop}{K:be}:gF I A Y K=K (.t []) Y:=rfl
def baJ:aX zd9 4 Y [(0,sv [120]),(1,sv [121]),(2,sv [120]),(3,sv [118])]=V (.l ([⟨#[120]⟩,⟨#[121]⟩,⟨#[120]⟩,⟨#[118]⟩].map cs) U U,Y):=by kernel_rfl
def aV4:aX zd9 2 Y [(0,sv [97]),(1,sv [98])]=V (.l ([⟨#[97]⟩,⟨#[98]⟩].map cs) U U,Y):=by kernel_rfl
def a5Z:aX zd9 2 Y [(0,sv [109]),(1,sv [110])]=V (.l ([⟨#[109]⟩,⟨#[110]⟩].map cs) U U,Y):=by kernel_rfl
def baH{e:lD}{t o:Bool}:aX bts 1 Y [(0, .a [iv e.op,iv e.n,st e.name, .l (e.l.map lD.c) t o])]=V (.l ([e].map lD.c) U U,Y):=aQm (by rw[aoH];rfl) aN9 (by decide) (by rw[aoH];rfl) (by decide)
def a50{x:NA}:aX brP 1 Y [(0, .a x.c)]=V (.l ([x].map NA.c) U U,Y):=ua (by rw[a6X];rfl) aTj bit (by decide) (by rw[a6X];rfl) (by decide)
section
variable{o:Int}{nm:ByteArray}{x:AV}{e:lD}{t o':Bool}{body:List NA}{bA:List (List AV)}
def a5O(f:qc Y 274 11 x bA):bM brG alz [(0,iv o),(5, .a [iv e.op,iv e.n,st e.name, .l (e.l.map lD.c) t o']),(6,x)]=V (.a [iv o,iv 0,st ⟨#[]⟩,st ⟨#[]⟩, .l (([]:List lD).map lD.c) U U,iv e.op,iv e.n,st e.name, .l (e.l.map lD.c) t o',x, .l [] U U]):=by rcases f with⟨_,rfl⟩|⟨q,m,rfl,_⟩<;>rfl
def aSZ(f:qc Y 274 11 x bA):bM brG alz [(0,iv o),(2,st nm),(6,x)]=V (.a [iv o,iv 0,st nm,st ⟨#[]⟩, .l (([]:List lD).map lD.c) U U,iv (lD.mk 0 0 ⟨#[]⟩ []).op,iv (lD.mk 0 0 ⟨#[]⟩ []).n,st (lD.mk 0 0 ⟨#[]⟩ []).name, .l ((lD.mk 0 0 ⟨#[]⟩ []).l.map lD.c) U U,x, .l [] U U]):=by rcases f with⟨_,rfl⟩|⟨q,m,rfl,_⟩<;>rfl
def a5P(f:qc Y 274 11 x bA):bM brG alz [(0,iv o),(6,x)]=V (.a [iv o,iv 0,st ⟨#[]⟩,st ⟨#[]⟩, .l (([]:List lD).map lD.c) U U,iv (lD.mk 0 0 ⟨#[]⟩ []).op,iv (lD.mk 0 0 ⟨#[]⟩ []).n,st (lD.mk 0 0 ⟨#[]⟩ []).name, .l ((lD.mk 0 0 ⟨#[]⟩ []).l.map lD.c) U U,x, .l [] U U]):=by rcases f with⟨_,rfl⟩|⟨q,m,rfl,_⟩<;>rfl
def bam{E:lD}(f:qc Y 274 11 x bA):bM brG alz [(0,iv o),(5, .a E.c),(6,x)]=V (.a [iv o,iv 0,st ⟨#[]⟩,st ⟨#[]⟩, .l (([]:List lD).map lD.c) U U,iv E.op,iv E.n,st E.name, .l (E.l.map lD.c) I I,x, .l [] U U]):=by rw[aoH];exact a5O f
def a5Q:bM brG alz [(0,iv o),(2,st nm),(6, .l (body.map NA.c) t o')]=V (.a [iv o,iv 0,st nm,st ⟨#[]⟩, .l (([]:List lD).map lD.c) U U,iv (lD.mk 0 0 ⟨#[]⟩ []).op,iv (lD.mk 0 0 ⟨#[]⟩ []).n,st (lD.mk 0 0 ⟨#[]⟩ []).name, .l ((lD.mk 0 0 ⟨#[]⟩ []).l.map lD.c) U U, .l (body.map NA.c) t o', .l (([]:List NA).map NA.c) U U]):=rfl
end
def aRm{f:ae}{op:Int}{nm a:ByteArray}{index:List lD}{e:lD}{t o j o' k i t3 o3:Bool}{body els:List NA}:Lv f Y [iv op,iv 0,st nm,st a, .l (index.map lD.c) j o',iv e.op,iv e.n,st e.name, .l (e.l.map lD.c) t o, .l (body.map NA.c) k i, .l (els.map NA.c) t3 o3] (NA.mk op 0 nm a index e body els).c:=by refine⟨?_,λq g=>?_⟩;rw[a6X];simp only[ji,mU,aQ5,aXQ];rfl;simp[eB,iR] at g
theorem aOJ{n:Nat}{op:Int}{nm f:ByteArray}{index:List lD}{e:lD}{body els:List NA}(h1:(op=1\/op=2\/op=3\/op=14)->shE 2 e)(h2:index=[]\/∃y,index=[y]/\shE 2 y/\nm=qN)(i:L e.l<=2)(j:L body<=4)(a:∀x∈body,shS n x)(k:L els<=4)(c:∀x∈els,shS n x)(p:1<=op/\op<=15):shS (n+1) (NA.mk op 0 nm f index e body els):=by refine⟨h1,?_,?_,?_,i,j,a,k,c,p⟩;show L index<=1;grind;show∀x∈index,shE 2 x;grind;intro h;rcases h2 with rfl|⟨y,rfl,_,g⟩;exact aPo rfl h;exact g
theorem aOI{n:Nat}{op:Int}{nm a:ByteArray}{index:List lD}{e:lD}(h1:(op=1\/op=2\/op=3\/op=14)->shE 2 e)(h2:index=[]\/∃y,index=[y]/\shE 2 y/\nm=qN)(c:L e.l<=2)(f:1<=op/\op<=15):shS (n+1) (NA.mk op 0 nm a index e [] []):=(by grind [aOJ])
theorem aS4{D:Nat}(u:aQH m b D)(M:J7 Y m b hs h)(n:L hs+D+1<=500){s:ByteArray}{i:Int}(k:i=D)(A:∀(a:AV) (l:List NA) (g:AV) Y1,qc Y1 274 11 a (l.map NA.c)->(L l:Int)<=2->(∀x∈l,shS (D+1) x)->(∀q∈aA a,ig Y q/\q.1=30)->J7 Y1 m b hs g->RH m b Y h Y1 g->K a Y1):cB 282 [.p m 0 0,st s,iv i] Y d K:=by refine jH rfl (bdd u M n k) ?_;rintro r Y1 ⟨l,g,g1,v,w,y,z,j⟩;exact⟨j.f.len,by grind⟩
theorem aEa{q:Id}{T:TypeId}{z:Nat}{o u:Bool}{r:List AV}(c:box Y q=V ⟨T,z,o,u,[r]⟩)(f:L r=z):vp (V z) Y (.p q 0 0)=V (.a r):=by grind [vp,iE,aN]
theorem aP2{D:Nat}(h:D+1<1000):dq.wrap (((D+1:Nat):Int)-1)=(D:Int):=by grind [eM]
def baQ:aX brP 2 Y [(0, .a [iv 9,iv 0,sv [99],sv [], .l [] U U,iv 0,iv 0,sv [], .l [] U U, .l [] U U, .l [] U U]),(1, .a (NA.mk 1 0 ⟨#[97]⟩ ⟨#[]⟩ [] (lD.mk 2 0 ⟨#[120]⟩ []) [] []).c)]=V (.l ([NA.mk 9 0 ⟨#[99]⟩ ⟨#[]⟩ [] (lD.mk 0 0 ⟨#[]⟩ []) [] [],NA.mk 1 0 ⟨#[97]⟩ ⟨#[]⟩ [] (lD.mk 2 0 ⟨#[120]⟩ []) [] []].map NA.c) U U,Y):=by kernel_rfl
def baL{o:Int}:aX brP 1 Y [(0, .a [iv o,iv 0,sv [99],sv [], .l [] U U,iv 0,iv 0,sv [], .l [] U U, .l [] U U, .l [] U U])]=V (.l ([NA.mk o 0 ⟨#[99]⟩ ⟨#[]⟩ [] (lD.mk 0 0 ⟨#[]⟩ []) [] []].map NA.c) U U,Y):=by kernel_rfl
theorem bdy{D:Nat}(ih:∀j,j<D->aQH m b j)(M:J7 Y m b hs h)(hl:L hs+D<=500):∃r Y1,SmR Y m b hs h D r Y1/\cZ aS GG 244 [.p m 0 0,iv D] Y r Y1:=by
 obtain⟨m1,X⟩:=m
 obtain rfl:m1=16:=M.sm
 obtain⟨b1,b2⟩:=b
 obtain rfl:b1=14:=M.sb
 refine bgp M.le ?_
 simp only[aUK]
 refine ic M.le λv s1 F1 N1 q1=>?_
 have M1:=M.fx0 F1
 obtain⟨th,lf,s,tx,aX,lp,ag⟩:=M1.mx
 simp only[qz 2,qb ag,u0,u1,ag,aRV,bfx,aRa,aj]
 refine aPJ M1 (by simp) λs2 M2 F2=>?_
 have q2:=F2.kq q1
 obtain⟨th,lf,s,tx,aX,lp,bi⟩:=M2.mx
 simp only[qz 4,qb bi,u0,u1,bi,aRV,aRa,aj]
 refine aO4 M2 λx s3 h1 h2 G F3=>?_
 have h2:=h2 (by decide)
 have q3:=F3.kq q2
 have O:RH (16,X) (14,b2) Y h s3 h:=((RH.of0 F1).trans<|.ofm F2).trans<|.ofb F3
 have N:∀{A:ae} {cs r:List AV} {x:NA} {h4:AV},J7 A (16,X) (14,b2) hs h4->RH (16,X) (14,b2) Y h A h4->box A (4,v)=V ⟨274,11,U,U,[r]⟩->L r=11->Lv Y A cs x.c->(∀q∈eB (.a cs),q.1=30\/q.1=126)->shS (D+1) x->
   sV (aK 11 A (.p (4,v) 0 0)<|.a cs) λs=>rV (vp (V 11) s<|.p (4,v) 0 0) λt=>aNN (SmR Y (16,X) (14,b2) hs h D) s [t]:=λ{A cs r x h4} B R4 S hr L4 hi a4=>
  aTx S hr (by have:=brR L L4.eq;grind [bit]) λs5 T=>⟨cs,x,h4,rfl,L4.fx T (by grind) aS7,hi,a4,B.fx T (by simp) (by simp) (λq w e=>by grind [J7.sh]),R4.new T N1⟩
 have aa:∀{A s5:ae} {h4 h5:AV} {q:Id} {x:bY},J7 A (16,X) (14,b2) hs h4->RH (16,X) (14,b2) A h4 s5 h5->(q.1≠14/\q.1≠15/\q.1≠16)->box A q=V x->box s5 q=V x:=λB R g w=>R.f.keep _ _ (B.out _ g.1 g.2.1 g.2.2) w
 have a3:∀{A s6:ae} {x:NA} {h4:AV},J7 A (16,X) (14,b2) hs h4->RH (16,X) (14,b2) Y h A h4->Fx A s6 [(4,v)]->box s6 (4,v)=V ⟨274,11,U,U,[x.c]⟩->shS (D+1) x->aw 11 s6 (.p (4,v) 0 0) λt=>aNN (SmR Y (16,X) (14,b2) hs h D) s6 [t]:=λ{A s6 x h4} B R4 F b6 a4=>by
  rw[art,aEa b6 bit]
  exact⟨_,x,h4,rfl,aYy,by rw[aTj];simp,a4,B.fx F (by simp) (by simp) (λq w e=>by grind [J7.sh]),R4.new F N1⟩
 simp only[qz 6,qy 22,qy 126]
 generalize hE:@qp _ 128 ⟨_⟩=E
 have bg:∀{A:ae} {d:Nat},J7 A (16,X) (14,b2) hs h->RH (16,X) (14,b2) Y h A h->box A (4,v)=V ⟨274,11,U,U,[brG]⟩->cB 278 [.p (16,X) 0 0,iv 1] A d E:=λ{A d} B R4 S=>by
  refine aQO B λr s5 hr H T=>?_
  obtain⟨e,t,o,he,rfl⟩:=hr
  have q5:=T.kq S
  simp only[<-hE,qz 128,qy 130,jM,kU,jt,tW,aSY,aD6]
  refine⟨by simp[lo,nA,eB,iR],N H (R4.trans<|.ofb T) q5 rfl aYy (by rw[aTj];simp) ?_⟩
  exact⟨λ_=>he,by simp[NA.index],by simp[NA.index],by simp[NA.index],he.len,by simp[NA.body],by simp[NA.body],by simp[NA.els],by simp[NA.els],by simp[NA.op],by simp[NA.op]⟩
 obtain⟨th,lf,s,tx,aX,lp,k⟩:=G.mx
 have hx:(x<4/\0<=x)\/x=4\/x=5\/x=6\/x=7\/x=8\/x=9\/x=10\/x=11\/x=12\/x=13\/x=14\/x=15\/x=16\/x=17:=by omega
 have bx:∀K:j4,(∀nb:Bool,(nb=U->0<D)->K (bv nb))->aO .gtr (iv D) (iv 0) λaJ=>Qct aJ (.p (16,X) 0 0) λcc=>Qot aJ (rV<|cO s3 cc) λcd=>aT aJ 2 s3 cd λcg=>Qot aJ (aO .gtr cg<|iv 0) λch=>aD aJ ch (bv I) λaL=>Qct aL (.p (16,X) 0 0) λci=>Qot aL (rV<|cO s3 ci) λcj=>aT aL 4 s3 cj λck=>Qot aL (cf ck) λcl=>aD aL cl (bv I) λcm=>K cm:=by
  intro K hK
  rcases oD D with h0|h0
  ·have e:Q ((0:Int)<(D:Int))=I:=by simp[h0]
   simp only[e,u0,u1,↓jN,a7c,↓uL]
   grind
  ·have e:Q ((0:Int)<(D:Int))=U:=by simp[h0]
   rcases bl:Q (0<lf) with _|_
   ·simp only[e,qb k,u0,u1,k,aRV,bfx,aRa,aj,bl,↓jN,↓jA,a7c,aUw,↓uL]
    grind
   ·simp only[e,qb k,u0,u1,k,aRV,bfx,aRa,aj,bl,↓jA,aUw,↓uL]
    grind
 refine bx _ λnb cD=>?_
 have P:∀{d:Nat},cB 278 [.p (16,X) 0 0,iv 1] s3 d E:=bg G O q3
 rcases hx with hx|rfl|rfl|rfl|rfl|rfl|rfl|rfl|rfl|rfl|rfl|rfl|rfl|rfl|rfl
 all_goals
  simp only[qb k,u0,u1,k,aRV,bfx,aRa,aj,brp,bq0,Int.reduceEq,Int.reduceLT,↓iC,↓iB,↓jA,↓jN,↓aOq,aUw,a7c,Bool.false_or]
 ·refine⟨λ_=>?_,λg=>aPo hx.1<|by simpa using g⟩
  simp only[baJ,bQ,qz 8,amZ,u0,rk,pz]
  refine⟨⟨hx.2,hx.1⟩,aQO G λr s5 hr H T=>?_⟩
  obtain⟨e,t,o,he,rfl⟩:=hr
  have q5:=T.kq q3
  simp only[qz 10,jM,kU,jt,tW,aSY,aD6]
  refine⟨by simp[lo,nA,eB,iR],stW q5 rfl bit λs6 F6 b6=>?_⟩
  refine dT (by simp[eL,lb,cq,Qh,m8,dC,dK]) ?_
  exact a3 H (O.trans<|.ofb T) F6 b6 (aOI (λ_=>he) (.inl rfl) he.len<|by decide)
 ·simp only[aV4,bQ,qz 14,qb k,u0,u1,k,aRV,aRa,aj]
  refine aO4 G λy A y1 y2 B C=>?_
  have y2:=y2 (by decide)
  have S:=C.kq q3
  simp only[qz 16,amZ,u0,rk,pz]
  refine⟨⟨y1,y2⟩,aQO B λr s5 hr H T=>?_⟩
  obtain⟨e,t,o,he,rfl⟩:=hr
  have q5:=T.kq S
  simp only[qz 18,jM,kU,jt,tW,aSY,aD6]
  refine⟨by simp[lo,nA,eB,iR],stW q5 rfl bit λs6 F6 b6=>?_⟩
  refine dT (by simp[eL,lb,cq,Qh,m8,dC,dK]) ?_
  exact a3 H ((O.trans<|.ofb C).trans<|.ofb T) F6 b6 (by grind [aOI,shE.len])
 ·refine baU G λr A hr B C=>?_
  obtain⟨e,t,o,he,rfl⟩:=hr
  have S:=C.kq q3
  simp only[baH,bQ,qz 24]
  refine aQO B λr s5 hr H T=>?_
  obtain⟨e',t',o',cC,rfl⟩:=hr
  have q5:=T.kq S
  have bT:bM brG alz [(0,iv 1),(2,sv [113]),(4, .l ([e].map lD.c) U U),(5, .a [iv e'.op,iv e'.n,st e'.name, .l (e'.l.map lD.c) t' o'])]=V (.a [iv 1,iv 0,st qN,st ⟨#[]⟩, .l ([e].map lD.c) U U,iv e'.op,iv e'.n,st e'.name, .l (e'.l.map lD.c) t' o', .l (([]:List NA).map NA.c) U U, .l (([]:List NA).map NA.c) U U]):=rfl
  simp only[qz 26,qy 28,bT,aY]
  exact N H ((O.trans<|.ofb C).trans<|.ofb T) q5 rfl aRm (by simp[eB,iR]) (by grind [aOI,shE.len])
 ·refine⟨λhD=>?_,λ_=>P⟩
  obtain⟨j,rfl⟩:∃j,D=j+1:=⟨D-1,by grind⟩
  refine aQO G λr A hr B C=>?_
  obtain⟨e,t,o,he,rfl⟩:=hr
  have S:=C.kq q3
  simp only[qz 30,u0,u1,aP2 (D:=j)<|by omega]
  refine aQQ (ih j<|by omega) B (by omega) rfl (by omega) (by omega) λa l h' s5 g1 g2 g3 g4 H W=>?_
  have q5:=aa B W (by simp) S
  simp only[qz 32,qy 34,a5O g1,aY]
  refine anu H.le λv7 s7 Z N7 b7=>?_
  have M7:=H.fx0 Z
  have q7:=Z.kq q5
  have G7:=g1.fx Z (by simp)
  have R7:RH (16,X) (14,b2) Y h s7 h':=((O.trans<|.ofb C).trans W).trans<|.of0 Z
  have na:∀q∈aA a,ig Y q:=(by grind [ig.old])
  obtain⟨co,bX,s',cp,br,b0,bk⟩:=M7.mx
  simp only[qz 36,di,qz 83,qb bk,u0,u1,bk,aRV,aRa,aj]
  refine aO4 M7 λy s8 y1 y2 M8 F8=>?_
  have q8:=F8.kq q7
  have b8:=F8.kq b7
  have G8:=G7.fx F8 (λq w e=>by have:=(g4 q w).2;simp at e;subst e;simp at this)
  have R8:=R7.trans<|.ofb F8
  simp only[qz 38,u0,u1,aP2 (D:=j)<|by omega]
  refine⟨λ_=>?_,λ_=>?_⟩
  ·refine aQQ (ih j<|by omega) M8 (by omega) rfl (by omega) (by omega) λa' l' h9 s9 k1 k2 k3 k4 M9 R9=>?_
   have q9:=aa M8 R9 (by simp) q8
   have b9:=aa M8 R9 (by simp) b8
   have G9:=G8.fx R9.f (by grind [J7.out])
   simp only[qz 40,qy 42,u0,u1,b9,aj]
   refine A0 b9 k1.ce (by simp) λcF aB bR=>?_
   have b3:∀q∈aA a',ig Y q:=λq w=>(k4 q w).1.old R8.f
   have b5:=aB.kq q9
   simp only[qz 81,qy 44,aI,aEa bR rfl,aY]
   have p9:∀{q:Id},q.1=30->q∉[((7,v7):Id)]:=λh e=>by simp at e;grind
   refine N (M9.fx aB (by simp) (by simp) (λq w e=>by have:=M9.sh q w;simp at e;grind)) ((R8.trans R9).new aB<|((N7.old W.f).old C).old O.f) b5 rfl
    (aPq (index:=[]) (e:=e) (G9.fx aB λq w=>p9 (g4 q w).2) (k1.fx aB λq w=>p9 (k4 q w).2) na b3) (aPB (index:=[]) (by grind)<|by grind) ?_
   exact aOJ (λ_=>he) (.inl rfl) he.len (by omega) g3 (by omega) k3 (by decide)
  ·simp only[qz 81,qy 44,aI,aEa b8 rfl,aY]
   exact N M8 R8 q8 rfl (aPq (index:=[]) (e:=e) (els:=[]) G8 (.inl ⟨rfl,rfl⟩) na<|by simp[aA]) (aPB (index:=[]) (by grind)<|by simp[aA]) (aOJ (λ_=>he) (.inl rfl) he.len (by omega) g3 (by simp) (by simp)<|by decide)
 ·refine⟨λhD=>?_,λ_=>P⟩
  obtain⟨j,rfl⟩:∃j,D=j+1:=⟨D-1,by grind⟩
  refine aPJ G (by simp) λA B C=>?_
  have S:=C.kq q3
  simp only[qz 46,jM,kU,jt,tW,aD6,Fa,u0,u1,aP2 (D:=j)<|by omega]
  refine⟨by simp[lo,nA,eB,iR],by simp[lo,nA,eB,iR],by rw[aXO rfl rfl];trivial,?_⟩
  refine aQQ (ih j<|by omega) B (by omega) rfl (by omega) (by omega) λa l h' s5 g1 g2 g3 g4 H W=>?_
  have q5:=aa B W (by simp) S
  simp only[qz 48,qy 50,jM,kU,jt,tW,aD6,Fa,a50,u0]
  refine⟨by simp[lo,nA,eB,iR],by simp[lo,nA,eB,iR],by rw[aXO rfl rfl];trivial,by rw[aXP rfl];trivial,?_⟩
  have na:∀q∈aA a,q.1=30:=λq w=>(g4 q w).2
  refine apQ g1 H.le (by grind [bit]) (by grind [bit]) (by simp) (by simp;omega) λa' s6 g6 F6 N6=>?_
  rw[<-dg] at g6
  have q6:=F6.keep _ _ (λw=>by have:=na _ w;simp at this) q5
  have M6:=H.fx F6 (by grind) (by grind) (λq w e=>by grind [J7.sh])
  have a0:RH (16,X) (14,b2) Y h A h:=O.trans<|.ofm C
  have R6:RH (16,X) (14,b2) Y h s6 h':=⟨((a0.trans W).f.trans F6).mono (by grind [ig.no,ig.old]),(a0.trans W).i⟩
  simp only[qz 52,qy 54,bam g6.p,aY]
  refine anu M6.le λv7 s7 Z N7 b7=>?_
  have M7:=M6.fx0 Z
  have q7:=Z.kq q6
  have G7:=g6.p.fx Z (by simp)
  obtain⟨bo,bm,s8,bp,bf,bn,ao⟩:=M7.mx
  simp only[qz 56,qb ao,u0,u1,ao,aj]
  refine aPJ M7 (by simp) λs9 M9 F9=>?_
  have q9:=F9.kq q7
  have b9:=F9.kq b7
  have G9:=G7.fx F9 (λq w e=>by have:=(N6 q w).2;simp at e;subst e;simp at this)
  simp only[qz 58,qy 60,aEa b9 rfl,aY]
  refine N M9 ((R6.trans<|.of0 Z).trans<|.ofm F9) q9 rfl (aPq (index:=[]) (els:=[]) G9 (.inl ⟨rfl,rfl⟩) (λq w=>(N6 q w).1.old (a0.trans W).f)<|by simp[aA]) (aPB (index:=[]) (by grind)<|by simp[aA]) ?_
  have e1:∀{z:Int} {s:ByteArray},shE 1 (lD.mk 2 z s []):=λ{z s}=>⟨.inl ⟨.inr rfl,rfl⟩,by simp[lD.l]⟩
  have e2:∀{z:Int} {s:ByteArray},shE 1 (lD.mk 1 z s []):=λ{z s}=>⟨.inl ⟨.inl rfl,rfl⟩,by simp[lD.l]⟩
  refine aOJ (λ_=>⟨.inr (.inr ⟨by decide,rfl⟩),?_⟩) (.inl rfl) (by decide) (by simp;omega) ?_ (by simp) (by simp) (by decide)
  ·grind [lD.l]
  ·intro y hy
   rcases dF.1 hy with hy|hy
   ·exact g3 y hy
   ·simp only[cE] at hy
    subst hy
    refine aOI (λ_=>⟨.inr (.inr ⟨by decide,rfl⟩),?_⟩) (.inl rfl) (by decide) (by decide)
    grind [lD.l]
 ·cases nb
  ·simp only[u0,aOq,↓jN,a7c,↓iB]
   exact P
  obtain⟨j,rfl⟩:∃j,D=j+1:=⟨D-1,by grind⟩
  simp only[a5Z,amZ,rk,pz,u0,u1,aPh,↓jA,aUw]
  refine⟨⟨by decide,by decide⟩,aQP G (by omega) λu=>?_⟩
  cases u
  ·simp only[u0,u1,↓iC]
   simp only[qz 66,amZ,rk,pz,aP2 (D:=j) (by omega),u0,u1]
   refine⟨⟨by decide,by decide⟩,aS4 (ih j<|by omega) G (by omega) rfl λa l h' s5 g1 g2 g3 g4 H W=>?_⟩
   simp only[qz 68,qy 70,aSZ g1,aY]
   exact N H (O.trans W) (aa G W (by simp) q3) rfl (aPq (index:=[]) (els:=[]) g1 (.inl ⟨rfl,rfl⟩) (λq w=>(g4 q w).1.old O.f)<|by simp[aA]) (aPB (index:=[]) (by grind)<|by simp[aA]) (aOJ (by omega) (.inl rfl) (by decide) (by omega) g3 (by simp) (by simp)<|by decide)
  ·simp only[u0,u1,↓iB]
   exact P
 ·cases nb
  ·simp only[u0,aOq,↓jN,a7c,↓iB]
   exact P
  obtain⟨j,rfl⟩:∃j,D=j+1:=⟨D-1,by grind⟩
  simp only[a5Z,amZ,rk,pz,u0,u1,aPh,↓jA,aUw]
  refine⟨⟨by decide,by decide⟩,aQP G (by omega) λu=>?_⟩
  cases u
  ·simp only[u0,u1,↓iC]
   simp only[qz 66,amZ,rk,pz,aP2 (D:=j) (by omega),u0,u1]
   refine⟨⟨by decide,by decide⟩,aS4 (ih j<|by omega) G (by omega) rfl λa l h' s5 g1 g2 g3 g4 H W=>?_⟩
   simp only[qz 68,qy 70,aSZ g1,aY]
   exact N H (O.trans W) (aa G W (by simp) q3) rfl (aPq (index:=[]) (els:=[]) g1 (.inl ⟨rfl,rfl⟩) (λq w=>(g4 q w).1.old O.f)<|by simp[aA]) (aPB (index:=[]) (by grind)<|by simp[aA]) (aOJ (by omega) (.inl rfl) (by decide) (by omega) g3 (by simp) (by simp)<|by decide)
  ·simp only[u0,u1,↓iB]
   exact P
 ·cases nb
  ·simp only[u0,aOq,↓jN,a7c,↓iB]
   exact P
  obtain⟨j,rfl⟩:∃j,D=j+1:=⟨D-1,by grind⟩
  simp only[u0,aPh,↓jA,aUw]
  refine aQP G (by omega) λu=>?_
  cases u
  ·simp only[aP2 (D:=j) (by omega),u0,u1,↓iC]
   refine aS4 (ih j<|by omega) G (by omega) rfl λa l h' s5 g1 g2 g3 g4 H W=>?_
   simp only[qz 74,qy 76,aSZ g1,aY]
   exact N H (O.trans W) (aa G W (by simp) q3) rfl (aPq (index:=[]) (els:=[]) g1 (.inl ⟨rfl,rfl⟩) (λq w=>(g4 q w).1.old O.f)<|by simp[aA]) (aPB (index:=[]) (by grind)<|by simp[aA]) (aOJ (λh=>aPo h<|by decide) (.inl rfl) (by decide) (by omega) g3 (by simp) (by simp)<|by decide)
  ·simp only[u0,u1,↓iB]
   exact P
 ·cases nb
  ·simp only[u0,aOq,↓jN,a7c,↓iB]
   exact P
  obtain⟨j,rfl⟩:∃j,D=j+1:=⟨D-1,by grind⟩
  simp only[u0,aPh,↓jA,aUw]
  refine aQP G (by omega) λu=>?_
  cases u
  ·simp only[aP2 (D:=j) (by omega),u0,u1,↓iC]
   refine aS4 (ih j<|by omega) G (by omega) rfl λa l h' s5 g1 g2 g3 g4 H W=>?_
   simp only[qz 74,qy 76,aSZ g1,aY]
   exact N H (O.trans W) (aa G W (by simp) q3) rfl (aPq (index:=[]) (els:=[]) g1 (.inl ⟨rfl,rfl⟩) (λq w=>(g4 q w).1.old O.f)<|by simp[aA]) (aPB (index:=[]) (by grind)<|by simp[aA]) (aOJ (λh=>aPo h<|by decide) (.inl rfl) (by decide) (by omega) g3 (by simp) (by simp)<|by decide)
  ·simp only[u0,u1,↓iB]
   exact P
 ·refine⟨λhn=>?_,λ_=>P⟩
  obtain⟨j,rfl⟩:∃j,D=j+1:=⟨D-1,by grind⟩
  refine aPJ G (by simp) λA B C=>?_
  have S:=C.kq q3
  obtain⟨co,bX,s',cp,br,b0,bj⟩:=B.mx
  simp only[qz 78,qb bj,u0,u1,bj,aRV,aRa,aj]
  refine aO4 B λy s5 y1 y2 H T=>?_
  have y2:=y2 (by decide)
  have q5:=T.kq S
  simp only[qz 80,u0,u1,eM (x:=1+y) (by omega)<|by omega]
  refine aQQ (ih 0<|by omega) H (by omega) rfl (by omega) (by omega) λa l h' s6 g1 g2 g3 g4 M6 R6=>?_
  have q6:=aa H R6 (by simp) q5
  simp only[qz 82,qy 84,a5P g1,aY]
  refine anu M6.le λv7 s7 Z N7 b7=>?_
  have M7:=M6.fx0 Z
  have q7:=Z.kq q6
  have G7:=g1.fx Z (by simp)
  have a1:RH (16,X) (14,b2) Y h s5 h:=(O.trans<|.ofm C).trans<|.ofb T
  obtain⟨bo,bm,s8,bp,bf,bn,ao⟩:=M7.mx
  simp only[qz 86,qb ao,u0,u1,ao,aj]
  refine aPJ M7 (by simp) λs9 M9 F9=>?_
  have q9:=F9.kq q7
  have b9:=F9.kq b7
  have G9:=G7.fx F9 (λq w e=>by have:=(g4 q w).2;simp at e;subst e;simp at this)
  simp only[qz 88,qy 90,aEa b9 rfl,aY]
  exact N M9 (((a1.trans R6).trans<|.of0 Z).trans<|.ofm F9) q9 rfl (aPq (index:=[]) (els:=[]) G9 (.inl ⟨rfl,rfl⟩) (by grind [ig.old])<|by simp[aA]) (aPB (index:=[]) (by grind)<|by simp[aA]) (aOJ (by omega) (.inl rfl) (by decide) (by omega) (by grind [shS.mono]) (by simp) (by simp)<|by decide)
 ·cases nb
  ·simp only[u0,↓jN,a7c,↓iB]
   exact P
  cases aX
  ·obtain⟨j,rfl⟩:∃j,D=j+1:=⟨D-1,by grind⟩
   simp only[qb k,u0,u1,k,aRV,bfx,aRa,aj,↓jA,aUw,↓iC]
   refine aPJ G (by simp) λA B C=>?_
   have S:=C.kq q3
   simp only[qz 92,u0,u1,aP2 (D:=j)<|by omega]
   refine aQQ (ih j<|by omega) B (by omega) rfl (by omega) (by omega) λa l h' s6 g1 g2 g3 g4 M6 R6=>?_
   have q6:=aa B R6 (by simp) S
   simp only[qz 94,qy 96,a5P g1,aY]
   refine anu M6.le λv7 s7 Z N7 b7=>?_
   have M7:=M6.fx0 Z
   have q7:=Z.kq q6
   have G7:=g1.fx Z (by simp)
   have a1:RH (16,X) (14,b2) Y h A h:=O.trans<|.ofm C
   obtain⟨bo,bm,s8,bp,bf,bn,ao⟩:=M7.mx
   simp only[qz 98,qb ao,u0,u1,ao,aj]
   refine aPJ M7 (by simp) λs9 M9 F9=>?_
   have q9:=F9.kq q7
   have b9:=F9.kq b7
   have G9:=G7.fx F9 (λq w e=>by have:=(g4 q w).2;simp at e;subst e;simp at this)
   simp only[qz 100,qy 102,aEa b9 rfl,aY]
   exact N M9 (((a1.trans R6).trans<|.of0 Z).trans<|.ofm F9) q9 rfl (aPq (index:=[]) (els:=[]) G9 (.inl ⟨rfl,rfl⟩) (by grind [ig.old])<|by simp[aA]) (aPB (index:=[]) (by grind)<|by simp[aA]) (aOJ (by omega) (.inl rfl) (by decide) (by omega) g3 (by simp) (by simp)<|by decide)
  ·simp only[qb k,u0,u1,k,aRV,bfx,aRa,aj,↓jA,aUw,↓iB]
   exact P
 ·cases nb
  ·simp only[u0,aOq,↓jN,a7c,↓iB]
   exact P
  cases aX
  ·simp only[qb k,u0,u1,k,aRV,bfx,aRa,aj,aPh,↓jA,aUw]
   refine aQP G (by omega) λu=>?_
   cases u
   ·have ag:bM brG alz [(0,iv 9),(2,sv [99])]=V (.a [iv 9,iv 0,sv [99],sv [], .l [] U U,iv 0,iv 0,sv [], .l [] U U, .l [] U U, .l [] U U]):=rfl
    simp only[ag,jM,kU,jt,tW,aD6,Fa,u0,u1,↓iC]
    simp only[baQ,bQ,qz 106,qy 108,a5Q,aY]
    refine⟨by simp[lo,nA,eB,iR],by rw[aXP rfl];trivial,N G O q3 rfl aRm (by simp[eB,iR])<|aOJ (by omega) (.inl rfl) (by decide) (by decide) ?_ (by simp) (by simp)<|by decide⟩
    obtain⟨j,rfl⟩:∃j,D=j+1:=⟨D-1,by grind⟩
    intro y hy
    simp only[eW,ql,bjz] at hy
    rcases hy with rfl|rfl
    ·exact aOI (by omega) (.inl rfl) (by decide) (by decide)
    ·exact aOI (λ_=>⟨.inl ⟨.inr rfl,rfl⟩,by simp[lD.l]⟩) (.inl rfl) (by decide) (by decide)
   ·simp only[u0,u1,↓iB]
    exact P
  ·simp only[qb k,u0,u1,k,aRV,bfx,aRa,aj,aOq,↓jA,↓jN,aUw,a7c,↓iB]
   exact P
 ·cases nb
  ·simp only[qb k,u0,u1,k,aRV,aRa,aj,aOq,↓jN,a7c,↓iB]
   exact P
  simp only[u0,aPh,↓jA,aUw]
  refine aQP G (by omega) λu=>?_
  cases u
  ·simp only[qb k,u0,u1,k,aRV,aRa,aj,↓iC]
   refine aO4 G λy A y1 y2 B C=>?_
   have y2:=y2 (by decide)
   have S:=C.kq q3
   have ag:∀o:Int,bM brG alz [(0,iv o),(2,sv [99])]=V (.a [iv o,iv 0,sv [99],sv [], .l [] U U,iv 0,iv 0,sv [], .l [] U U, .l [] U U, .l [] U U]):=λ_=>rfl
   simp only[qz 112,ag,baL,bQ,qz 114,qy 116,a5Q,eM (x:=10+y) (by omega) (by omega),u0,u1]
   refine N B (O.trans<|.ofb C) S rfl aRm (by simp[eB,iR]) (aOJ (by omega) (.inl rfl) (by decide) (by simp) ?_ (by simp) (by simp)<|by decide)
   obtain⟨j,rfl⟩:∃j,D=j+1:=⟨D-1,by grind⟩
   intro z hz
   simp only[eW,ql,bjz] at hz
   subst hz
   exact aOI (λh=>by omega) (.inl rfl) (by decide) (by omega)
  ·simp only[u0,u1,↓iB]
   exact P
 ·cases tx
  ·cases lp
   ·cases s
    ·simp only[qb k,u0,u1,k,aRV,bfx,aRa,aj,↓jA,aUw,Bool.and_self,↓iC]
     refine aPJ G (by simp) λA B C=>?_
     have S:=C.kq q3
     simp only[qz 118]
     refine aQO B λr s5 hr H T=>?_
     obtain⟨e,t,o,he,rfl⟩:=hr
     have q5:=T.kq S
     have ag:bM brG alz [(0,iv 14),(2,sv [102]),(5, .a [iv e.op,iv e.n,st e.name, .l (e.l.map lD.c) t o])]=V (.a [iv 14,iv 0,st ⟨#[102]⟩,st ⟨#[]⟩, .l (([]:List lD).map lD.c) U U,iv e.op,iv e.n,st e.name, .l (e.l.map lD.c) t o, .l (([]:List NA).map NA.c) U U, .l (([]:List NA).map NA.c) U U]):=rfl
     simp only[qz 120,qy 122,ag,aY]
     exact N H ((O.trans<|.ofm C).trans<|.ofb T) q5 rfl aRm (by simp[eB,iR]) (by grind [aOI,shE.len])
    ·simp only[qb k,u0,u1,k,aRV,bfx,aRa,aj,↓jA,aUw,Bool.and_self,↓iB]
     exact P
   ·simp only[qb k,u0,u1,k,aRV,bfx,aRa,aj,↓jN,a7c,bsm,↓iB]
    exact P
  ·simp only[u0,↓jN,a7c,↓iB]
   exact P
 ·cases tx
  ·simp only[qb k,u0,u1,k,aRV,aRa,aj,aPh,↓jA,aUw]
   refine aO4 G λy A y1 y2 B C=>?_
   have S:=C.kq q3
   have ag:bM brG alz [(0,iv 15),(2,sv [97]),(3,sv [102])]=V (.a [iv 15,iv 0,st ⟨#[97]⟩,st ⟨#[102]⟩, .l (([]:List lD).map lD.c) U U,iv (lD.mk 0 0 ⟨#[]⟩ []).op,iv (lD.mk 0 0 ⟨#[]⟩ []).n,st (lD.mk 0 0 ⟨#[]⟩ []).name, .l ((lD.mk 0 0 ⟨#[]⟩ []).l.map lD.c) U U, .l (([]:List NA).map NA.c) U U, .l (([]:List NA).map NA.c) U U]):=rfl
   simp only[ag,u0,u1]
   exact⟨λ_=>N B (O.trans<|.ofb C) S rfl aRm (by simp[eB,iR])<|aOI (by omega) (.inl rfl) (by decide)<|by decide,λ_=>bg B (O.trans<|.ofb C) S⟩
  ·simp only[u0,aOq,↓jN,a7c,↓iB]
   exact P
theorem ba1{D:Nat}(l:∀i,i<D->aQH m b i)(M:J7 Y m b hs h)(k:L hs+D<=500)(w:∀cs x g Y1,Lv Y Y1 cs (NA.c x)->(∀q∈eB (.a cs),q.1=30\/q.1=126)->shS (D+1) x->J7 Y1 m b hs g->RH m b Y h Y1 g->K (.a cs) Y1):cB 244 [.p m 0 0,iv D] Y d K:=by refine jH rfl (bdy l M k) ?_;rintro r Y1 ⟨cs,x,g,rfl,n,s,u,v,j⟩;exact⟨j.f.len,by grind⟩
theorem qc.bx{e:TypeId}{z:Nat}{a:AV}{bA:List (List AV)}(g:qc Y e z a bA):∀q∈aA a,∃x,box Y q=V x:=by rcases g with⟨_,rfl⟩|⟨b,m,rfl,c⟩;simp[aA];grind [aA]
theorem bdw:∀D,aQH m b D:=by
 intro D
 induction D using Nat.strongRecOn with
 |ind D ih=>
 intro Y hs h n M hl H h3
 have hm:=M.sm
 have aq:=M.sb
 refine bgq M.le ?_
 simp only[aUP]
 refine jD (α:=AV×List NA×AV) (λx i=>[x.1,iv i]) 1 n.toNat (λk x Y'=>qc Y' 274 11 x.1 (x.2.1.map NA.c)/\L x.2.1<=k/\(∀y∈x.2.1,shS (D+1) y)/\(∀q∈aA x.1,ig Y q/\q.1=30)/\J7 Y' m b hs x.2.2/\RH m b Y h Y' x.2.2)
  (s0:=(.l [] U U,[],h)) ⟨.inl ⟨rfl,rfl⟩,by simp,by simp,by simp[aA],M,RH.refl⟩ ?_
 rintro k ⟨a1,l1,h1⟩ Y1 hk ⟨g1,g2,S,T,B,v⟩
 simp only at g1 g2 S T B v
 obtain⟨th,lf,s,tx,ap,lp,r⟩:=B.mx
 have F:aNN (SsR Y m b hs h D n) Y1 [a1]:=⟨l1,h1,g1,by omega,S,T,B,v⟩
 have E:k<n.toNat->∀d I1 m1 vs,vs=[a1,iv k]->(I1=yI (λ(x:AV×List NA×AV) i=>[x.1,iv i]) n.toNat λk x Y'=>qc Y' 274 11 x.1 (x.2.1.map NA.c)/\L x.2.1<=k/\(∀y∈x.2.1,shS (D+1) y)/\(∀q∈aA x.1,ig Y q/\q.1=30)/\J7 Y' m b hs x.2.2/\RH m b Y h Y' x.2.2)->m1=gM 1 n.toNat->cB 244 [.p m 0 0,iv D] Y1 d (aUQ vs I1 m1 Y1):=by
  rintro j d I1 m1 vs rfl rfl rfl
  refine ba1 ih B hl λcs x X O Lw k1 k2 M2 C=>?_
  have ah:L cs=11:=by have:=brR L Lw.eq;grind [bit]
  have Z:aX brP 1 O [(0, .a cs)]=V (.l ([x].map NA.c) U U,kills O<|eB<|.a cs):=aQm Lw.eq bit (by decide) aS7 (by decide)
  simp only[aUQ,Z,bQ,au]
  have A:=aOp (eB<|.a cs) O
  have ka:∀q∈aA a1,q∉eB (.a cs):=λq z N=>by
   obtain⟨x,hx⟩:=g1.bx q z
   exact(Lw.nw q N).ne hx rfl
  have G3:=(g1.fx C.f<|by grind [J7.out]).fx A ka
  have R:=M2.fx A (by grind) (by grind) (λq z N=>by grind [J7.sh])
  refine apQ G3 R.le (by grind [bit]) (by grind [bit]) (by simp) (by simp;omega) λa' s6 W P N6=>?_
  rw[<-dg] at W
  have M6:=R.fx P (by grind) (by grind) (λq z N=>by grind [J7.sh])
  have FA:=(v.f.trans C.f).trans A
  have R6:RH m b Y h s6 X:=⟨((v.trans C).f.trans<|A.trans P).mono λq z=>by
   rcases dF.1 z with g|g
   ·exact .inl g
   rcases dF.1 g with g|g
   ·exact .inr ((Lw.nw q g).old v.f).no
   grind [ig.no],(v.trans C).i⟩
  simp only[aZ9,au,u0,u1,↓uL]
  refine dR (mk:=λ(x:AV×List NA×AV) i=>[x.1,iv i]) (p:=1) (s:=(a1,l1,h1)) (s':=(a',l1++[x],X)) (λ_ _=>rfl) j (by omega) ⟨W.p,by simp;omega,?_,(by grind [ig.old]),M6,R6⟩
  grind
 rcases Decidable.em ((k:Int)<n) with j|j
 ·have w:Q ((k:Int)<n)=U:=brS j
  have E:=E (by omega)
  rcases oD k with H|H
  ·have u:Q ((k:Int)=0)=U:=by simp[H]
   simp only[aRp,aI,au,w,u,u0,u1,↓jA,↓jN,aUw,↓iC,↓uL]
   exact E _ _ _ _ rfl rfl rfl
  ·have u:Q ((k:Int)=0)=I:=by simp;omega
   rcases G:Q (0<lf) with _|_
   ·simp only[aRp,aI,au,w,u,G,qb r,u0,u1,r,aRV,bfx,aRa,aj,↓jA,aUw,a7c,↓iB,↓uL]
    exact F
   ·simp only[aRp,aI,au,w,u,G,qb r,u0,u1,r,aRV,bfx,aRa,aj,↓jA,aUw,a7c,↓iC,↓uL]
    exact E _ _ _ _ rfl rfl rfl
 ·have w:Q ((k:Int)<n)=I:=bmL j
  simp only[aRp,aI,au,w,u0,u1,↓jN,a7c,↓iB,↓uL]
  exact F
end
section
attribute[local irreducible] aX
def aU7 b a c R:=(.mk _:NS a7x at1 Tryz.f191 [b, .u] [a] c R).p
def bg4{c:AV}{b:List AV}{s0:ae}{R:be}(hs:L s0=4096)(l1:L b=6)(h:HB1 264 6 3 b s0 λe d=>aU7 c e d R):EB 191 [c, .a b] s0 R:=zB1 at1 aNH Tryz.func191 hs l1 h
def aQI b a c d R:=(.mk _:NS a7x atB Tryz.f277 [b, .u,c] [a] d R).p
def bg6{c:AV}{b:List AV}{d:AV}{s0:ae}{R:be}(hs:L s0=4096)(l1:L b=4)(h:HB1 272 4 4 b s0 λf e=>aQI c f d e R):EB 277 [c, .a b,d] s0 R:=zB1 atB aNH Tryz.func277 hs l1 h
def a9t:=lA 11 []
def aU4 b a c R:=(.mk _:NS a7x a9t Tryz.f273 [b, .u] [a] c R).p
def bg1{c:AV}{b:List AV}{s0:ae}{R:be}(hs:L s0=4096)(l1:L b=11)(h:HB1 274 11 3 b s0 λe d=>aU4 c e d R):EB 273 [c, .a b] s0 R:=zB1 a9t aNH Tryz.func273 hs l1 h
def a9u:=lA 19 []
def aU5 b a c R:=(.mk _:NS a7x a9u Tryz.f274 [b, .u] [a] c R).p
def bg2{c:AV}{b:List AV}{s0:ae}{R:be}(hs:L s0=4096)(l1:L b=11)(h:HB1 274 11 3 b s0 λe d=>aU5 c e d R):EB 274 [c, .a b] s0 R:=zB1 a9u aNH Tryz.func274 hs l1 h
def aU3 b a c d e f R:=(.mk _:NS a7x auF Tryz.f275 [b, .u,c,d,e] [a] f R).p
def bg0{c:AV}{b:List AV}{d e f:AV}{s0:ae}{R:be}(hs:L s0=4096)(l1:L b=11)(h:HB1 274 11 6 b s0 λi g=>aU3 c i d e f g R):EB 275 [c, .a b,d,e,f] s0 R:=zB1 auF aNH Tryz.func275 hs l1 h
def a9x:=lA 21 [(6,([31],[0,3,4,25]))]
def aU8 b a c R:=(.mk _:NS a7x a9x Tryz.f243 [b, .u] [a] c R).p
def bg5{c:AV}{b:List AV}{s0:ae}{R:be}(hs:L s0=4096)(l1:L b=11)(h:HB1 274 11 3 b s0 λe d=>aU8 c e d R):EB 243 [c, .a b] s0 R:=zB1 a9x aNH Tryz.func243 hs l1 h
def a9y:=lA 5 [(1,([4],[0,1]))]
def aSu a a1 s0 R:=(.mk _:NS a7x a9y Tryz.f190 [a,a1] [] s0 R).p
def a7T{a a1:AV}{s0:ae}{R:be}(hs:L s0=4096)(h:aSu a a1 s0 R):EB 190 [a,a1] s0 R:=zB a9y aNH Tryz.func190 h
end
structure Gn(κ:Int)(Y:ae)(b:Id)(w:J9)(loc:List ByteArray)(a:AV)(n:Nat):Prop where
 bx0:∃s nx:Int,(0<=nx/\nx<=n+κ)/\box Y b=V ⟨260,10,U,U,[[sl cA.c w.cells,sl dS.c w.ak,sl aOw.c w.bC,sl cs w.bU,sl cs w.ay,sl dL.c w.dU,sl cs loc,a,iv s,iv nx]]⟩
 ga:∃out:List aNZ,qc Y 264 6 a (out.map aNZ.c)/\L out=n
 le:L Y=4096
 sb:b.1=45
 sa:∀q∈aA a,q.1=16
 wb:WBd w
 lb:L loc<1000
 hq:∃c∈w.cells,c.name=qN
theorem Gn.bx{κ:Int}{Y:ae}{b:Id}{w:J9}{loc:List ByteArray}{a:AV}{n:Nat}(G:Gn κ Y b w loc a n):∃s nx:Int,box Y b=V ⟨260,10,U,U,[[sl cA.c w.cells,sl dS.c w.ak,sl aOw.c w.bC,sl cs w.bU,sl cs w.ay,sl dL.c w.dU,sl cs loc,a,iv s,iv nx]]⟩:=by grind [Gn.bx0]
def aRZ{w:J9}{l:List AV}:aN (V 6) (sl cA.c w.cells::sl dS.c w.ak::sl aOw.c w.bC::sl cs w.bU::sl cs w.ay::sl dL.c w.dU::l)=V (.a w.c):=rfl
structure R4(b:Id)(Y:ae)(a:AV)(Y1:ae)(a1:AV):Prop where
 f:Fx Y Y1 (b::aA a)
 i:∀q∈aA a1,q∈aA a\/ig Y q
section
variable{κ:Int}{Y Y0 Y1 Y2:ae}{b:Id}{w:J9}{loc:List ByteArray}{a a0 a1 a2:AV}{n N:Nat}{d:Nat}{K:be}{ol:List aNZ}
theorem R4.refl:R4 b Y a Y a:=⟨Fx.refl _ _,λ_ h=> .inl h⟩
theorem R4.trans(h:R4 b Y a Y1 a1)(c:R4 b Y1 a1 Y2 a2):R4 b Y a Y2 a2:=by refine⟨(h.f.trans c.f).mono λq e=>?_,λq e=>(c.i q e).elim (h.i q) λg=> .inr<|g.old h.f⟩;grind [R4.i,ig.no]
def R4.of0(F:Fx Y Y1 []):R4 b Y a Y1 a:=⟨F.mono (by simp),λ_ h=> .inl h⟩
theorem R4.ofb(F:Fx Y Y1 [b]):R4 b Y a Y1 a:=⟨(by grind [Fx.mono]),λ_ h=> .inl h⟩
theorem Gn.fx(G:Gn κ Y b w loc a n){ks:List Id}(F:Fx Y Y1 ks)(h:b∉ks)(e:∀q∈aA a,q∉ks):Gn κ Y1 b w loc a n:=by obtain⟨s,nx,j,i⟩:=G.bx0;obtain⟨c,g,f⟩:=G.ga;exact⟨(by grind [Fx.keep]),⟨c,g.fx F e,f⟩,F.len.trans G.le,G.sb,G.sa,G.wb,G.lb,G.hq⟩
theorem Gn.mono(G:Gn κ Y b w loc a n){κ':Int}(h:κ<=κ'):Gn κ' Y b w loc a n:=by obtain⟨s,nx,e,c⟩:=G.bx0;exact⟨(by grind),G.ga,G.le,G.sb,G.sa,G.wb,G.lb,G.hq⟩
theorem Gn.fx0(G:Gn κ Y b w loc a n)(F:Fx Y Y1 []):Gn κ Y1 b w loc a n:=G.fx F (by simp) (by simp)
theorem Gn.out(G:Gn κ Y b w loc a n):∀q:Id,q.1≠45->q.1≠16->q∉b::aA a:=λq c e f=>by
 grind [Gn.sb,Gn.sa]
def GR(κ:Int)(N:Nat)(Y:ae)(b:Id)(w:J9)(loc:List ByteArray)(a:AV)(n:Nat)(r:AV)(Y1:ae):Prop:=∃e c,r= .t []/\Gn κ Y1 b w loc e c/\n<=c/\c<=n+N/\R4 b Y a Y1 e
theorem aPv{fn:Nat}{xs:List AV}(i:uQ.elem fn=I)(h:∃r Y1,GR κ N Y b w loc a n r Y1/\cZ aS GG fn xs Y r Y1)(m:∀e c Y1,Gn κ Y1 b w loc e c->n<=c->c<=n+N->R4 b Y a Y1 e->K (.t []) Y1):cB fn xs Y d K:=by refine jH i h ?_;rintro r Y1 ⟨e,c,rfl,j,k,l,g⟩;exact⟨g.f.len,by grind⟩
theorem bdp(G:Gn κ Y b w loc a n)(hn:n<100000)(x:aNZ):∃r Y1,(∃h,r= .t []/\Gn (κ-1) Y1 b w loc h (n+1)/\R4 b Y a Y1 h)/\cZ aS GG 191 [.p b 0 0, .a x.c] Y r Y1:=by obtain⟨S,T⟩:=b;obtain rfl:S=45:=G.sb;refine bg4 G.le rfl λs2 v3 P ad nf2 M=>?_;have A:Fx Y s2 []:=P.fx [];have G2:=G.fx0 A;obtain⟨s,nx,D⟩:=G2.bx;simp only[aU7,qb D,u0,u1,D,M,aRV,bfx,aRa,aj];refine A0 M rfl (by show 5<6;decide) λy B q3=>?_;have O:box y (3,v3)=V ⟨264,6,U,U,[aNZ.c {x with site:=s}]⟩:=q3;have j:=G2.fx B (by simp) (λq i e=>by grind [Gn.sa]);obtain⟨s',ae,F,k⟩:=j.bx0;have E:∀{x:aNZ},aX buW 1 y [(0, .a<|aNZ.c x)]=V (.l ([x].map aNZ.c) U U,y):=λ{x}=>ua rfl rfl rfl (by decide) rfl (by decide);simp only[qz 4,qy 6,qb k,u0,u1,k,O,pz,aj,E];obtain⟨H,g,X⟩:=j.ga;refine apQ g j.le (qW (f:=aNZ.c) (z:=6) λ_=>rfl) (by grind [aNZ.c]) (by simp) (by simp;omega) λh s4 v o R=>?_;rw[<-dg] at v;have m:=o.keep _ _ (λi=>by have:=j.sa _ i;simp at this) k;simp only[qz 8,qb m,u0,u1,m,aj];refine A0 m v.p.ce (by simp) λs5 u W=>?_;refine dT (by first|rfl|(simp[eL,okT,tok,lb,cq,Qh,m8,dC,pP,dK,aNZ.c];done)) ?_;have C:∀q∈aA h,q∉[((45,T):Id)]:=(by grind);have Z:∀q∈aA h,ig Y q:=(by grind [ig.old]);refine⟨h,rfl,⟨⟨_,_,⟨F.1,by omega⟩,W⟩,⟨H++[_],v.p.fx u C,by simp[X]⟩,u.len.trans<|o.len.trans j.le,rfl,λq i=>(R q i).2,G.wb,G.lb,G.hq⟩,⟨(((A.trans B).trans o).trans u).mono λq i=>?_,by simp_all⟩⟩;grind
theorem aPw(G:Gn κ Y b w loc a n)(i:n<100000){x:aNZ}(k:∀e Y1 g,Gn (κ-1) Y1 b w loc e g->n+1<=g->g<=n+1->R4 b Y a Y1 e->K (.t []) Y1):cB 191 [.p b 0 0, .a x.c] Y d K:=by refine jH rfl (bdp G i x) ?_;rintro r Y1 ⟨e,rfl,j,h⟩;exact⟨h.f.len,by grind⟩
theorem a58(h:∃c∈w.cells,c.name=qN):aF (L w.cells) (uo (λi=>Q<|(gd w.cells i).name=qN)<|L w.cells):=by obtain⟨c,f,k⟩:=h;obtain⟨j,g,rfl⟩:=ou f;have e:=aTb (p:=λi=>Q<|(gd w.cells i).name=qN) (n:=L w.cells);refine⟨?_,e.2⟩;unfold uo;split;omega;simp_all [bT]
def bV:Nat->Nat|0=>0|m+1=>1+2*bV m
def ban{o x y:Int}:bM bsS aM7 [(0,iv o),(1,iv x),(4,iv y)]=V (.a<|aNZ.c ⟨o,x,0,0,y,0⟩):=rfl
def bao{o x y:Int}:bM bsS aM7 [(0,iv o),(1,iv x),(2,iv y)]=V (.a<|aNZ.c ⟨o,x,y,0,0,0⟩):=rfl
def bap{o x y z u:Int}:bM bsS aM7 [(0,iv o),(1,iv x),(2,iv y),(3,iv z),(4,iv u)]=V (.a<|aNZ.c ⟨o,x,y,z,u,0⟩):=rfl
def baq{o x:Int}:bM bsS aM7 [(0,iv o),(1,iv x)]=V (.a<|aNZ.c ⟨o,x,0,0,0,0⟩):=rfl
def bar{o:Int}:bM bsS aM7 [(0,iv o)]=V (.a<|aNZ.c ⟨o,0,0,0,0,0⟩):=rfl
def bdI:=ai @ban<|ai @bao<|ai @bap<|ai @baq<|@bar
theorem GR.mono{N M:Nat}{r:AV}(h:GR κ N Y b w loc a n r Y1)(l:N<=M):GR κ M Y b w loc a n r Y1:=by obtain⟨c,j,e,f,g,k,i⟩:=h;exact⟨c,j,e,f,g,by omega,i⟩
theorem bdC:∀(m:Nat) {Y:ae} {a:AV} {n:Nat} {e:lD} {dd:Int},Gn κ Y b w loc a n->n+bV m<100000->shE m e->∃r Y1,GR (κ-1) (bV m) Y b w loc a n r Y1/\cZ aS GG 277 [.p b 0 0, .a e.c,iv dd] Y r Y1:=by
 intro m
 induction m with
 |zero=>intro Y a n e dd G hn D;exact D.elim
 |succ m ih=>
  intro Y a n e dd G hn D
  obtain⟨b1,g⟩:=b
  obtain rfl:b1=45:=G.sb
  have ar:bV (m+1)=1+2*bV m:=rfl
  refine bg6 G.le aN9 λH v4 K2 aw nf2 y=>?_
  have M:Fx Y H []:=K2.fx []
  have G2:=G.fx0 M
  have z:R4 (45,g) Y a H a:=R4.of0 M
  obtain⟨s,nx,W⟩:=G2.bx
  have T:=G.wb
  have hL:=G.lb
  have q4:∀q:Id,q.1=4->q∉((45,g):Id)::aA a:=(by grind [Gn.out])
  have j:∀{u:ae} {v:AV} {h:Nat} {x:aNZ} {d:Nat},Gn κ u (45,g) w loc v h->n<=h->h<=n+2*bV m->R4 (45,g) Y a u v->cB 191 [.p (45,g) 0 0, .a x.c] u d λay ad=>aNN (GR (κ-1) (bV<|m+1) Y (45,g) w loc a n) ad []:=λi k h2 o=>
   aPw i (by omega) λC Y1 B G' g1 S R'=>⟨C,B,rfl,G',by omega,by omega,o.trans R'⟩
  have val:∀{u:ae} {v:AV} {h:Nat} {R:lD} {P:Int} {d:Nat} {K:be},Gn κ u (45,g) w loc v h->h<=n+bV m->shE m R->(∀C B Y1,Gn κ Y1 (45,g) w loc C B->h<=B->B<=h+bV m->R4 (45,g) u v Y1 C->K (.t []) Y1)->cB 277 [.p (45,g) 0 0, .a R.c,iv P] u d K:=λi k X hK=>aPv rfl (ih i (by omega) X) (by grind [Gn.mono])
  have an:=D.2
  rcases D.1 with⟨k|k,au⟩|⟨k,aa,av⟩|⟨k,Z⟩
  ·simp only[aQI,qy 4,u0,u1,y,pz,aj,k,brp,↓iC,bdI]
   exact j G2 (by omega) (by omega) z
  ·have A:dG H (.a w.c)= .a w.c:=rfl
   simp only[aQI,qy 6,qy 8,qb W,u0,u1,W,y,pz,aRZ,aj,k,brp,bq0,Int.reduceEq,↓iC,↓iB,jM,kU,jt,A,tW,alg,aD6,AL,bdI,GL]
   exact⟨by omega,λ_=>j G2 (by omega) (by omega) z,λ_=>⟨by have:=T.1;omega,j G2 (by omega) (by omega) z⟩⟩
  ·simp only[aQI,u0,u1,y,pz,aj,k,brp,bq0,Int.reduceEq,↓iC,↓iB,ixv,rr]
   refine⟨⟨by omega,by omega⟩,val G2 (by omega) (by grind [asq]) λv h s3 i g1 S o=>?_⟩
   have E:=o.f.keep _ _ (q4 _ rfl) y
   obtain⟨s',ax,F⟩:=i.bx
   have A:dG s3 (.a w.c)= .a w.c:=rfl
   simp only[qz 10,qy 12,qb F,u0,u1,F,E,pz,aRZ,aj,aa,jM,kU,jt,A,tW,aD6,AL,ix,bdI,rk,GL]
   exact⟨by have:=T.1;omega,a58 G.hq,j i (by omega) (by omega)<|z.trans o⟩
  ·have o1:e.op≠1:=by omega
   have o2:e.op≠2:=by omega
   have o3:e.op≠3:=by omega
   have ol:Q ((L e.l:Int)=1)=I:=by simp[Z]
   simp only[aQI,u0,u1,y,pz,aj,o1,o2,o3,ol,bq0,↓iB,ixv,rr]
   refine⟨⟨by omega,by omega⟩,val G2 (by omega) (by grind [asq]) λv h s3 i g1 S o=>?_⟩
   have E:=o.f.keep _ _ (q4 _ rfl) y
   simp only[qz 18,u0,u1,E,pz,aj,ixv,rr]
   refine⟨⟨by omega,by omega⟩,val i (by omega) (by grind [asq]) λa5 n5 s5 G5 g3 g4 O=>?_⟩
   have q5:=O.f.keep _ _ (by grind [Gn.out]) E
   simp only[qz 20,qy 22,u0,u1,q5,pz,aj,bdI]
   exact j G5 (by omega) (by omega)<|(z.trans o).trans O
theorem aRF(G:Gn κ Y b w loc a n)(j:n<90000){e:lD}(i:shE 2 e){dd:Int}(h:∀g f Y1,Gn (κ-1) Y1 b w loc g f->n<=f->f<=n+3->R4 b Y a Y1 g->K (.t []) Y1):cB 277 [.p b 0 0, .a e.c,iv dd] Y d K:=aPv rfl (bdC 2 G (by grind [bV]) i) h
theorem bda(G:Gn κ Y b w loc a n)(hn:n<80000){x:NA}(H:shE 2 x.expr)(hI:∀y∈x.index,shE 2 y)(O:x.index≠[]->x.name=qN)(ah:L x.index<=1):∃r Y1,GR (κ-1) 7 Y b w loc a n r Y1/\cZ aS GG 273 [.p b 0 0, .a x.c] Y r Y1:=by
 obtain⟨b1,i⟩:=b
 obtain rfl:b1=45:=G.sb
 refine bg1 G.le bit λR v3 X ak nf2 z=>?_
 have A:Fx Y R []:=X.fx []
 have G2:=G.fx0 A
 have u:R4 (45,i) Y a R a:=R4.of0 A
 obtain⟨s,nx,F⟩:=G2.bx
 have E:=G.wb
 have hL:=G.lb
 have j:∀{v:ae} {m:AV} {l:Nat} {x:aNZ} {d:Nat},Gn κ v (45,i) w loc m l->n<=l->l<=n+6->R4 (45,i) Y a v m->cB 191 [.p (45,i) 0 0, .a x.c] v d λal T=>aNN (GR (κ-1) 7 Y (45,i) w loc a n) T []:=λg h1 h2 e=>
  aPw g (by omega) λa' Y1 n' W g1 D Z=>⟨a',n',rfl,W,by omega,by omega,e.trans Z⟩
 simp only[aU4,qb F,u0,u1,F,z,pz,aj,ixv,rr]
 refine⟨λh=>?_,λh=>?_⟩
 ·have ac:0<L x.index:=by simpa using h
  have M:x.index≠[]:=(by grind)
  refine⟨⟨by omega,by omega⟩,aRF G2 (by omega) (by grind [asq]) λm l S g g1 D e=>?_⟩
  have o:=e.f.keep _ _ (by grind [Gn.out]) z
  simp only[qz 4,u0,u1,o,pz,aj]
  refine aRF g (by omega) H λa5 n5 s5 B g3 g4 C=>?_
  have q5:=C.f.keep _ _ (by grind [Gn.out]) o
  obtain⟨s',P,t⟩:=B.bx
  have k:dG s5 (.a w.c)= .a w.c:=rfl
  simp only[qz 6,qy 8,qb t,u0,u1,t,q5,pz,aRZ,aj,O M,jM,kU,jt,k,tW,aD6,AL,ix,bdI,rk,GL]
  exact⟨by have:=E.1;omega,a58 G.hq,j (B.mono<|by omega) (by omega) (by omega)<|(u.trans e).trans C⟩
 ·refine aRF G2 (by omega) H λm l S g g1 D e=>?_
  have o:=e.f.keep _ _ (by grind [Gn.out]) z
  obtain⟨s',P,q⟩:=g.bx
  have k:dG S (.a w.c)= .a w.c:=rfl
  simp only[qz 10,qy 12,qy 14,qb q,u0,u1,q,o,pz,aRZ,aj,jM,kU,jt,k,tW,alg,aD6,AL,bdI,GL]
  exact⟨by omega,λ_=>j (g.mono<|by omega) (by omega) (by omega)<|u.trans e,λ_=>⟨by have:=E.1;omega,j (g.mono<|by omega) (by omega) (by omega)<|u.trans e⟩⟩
theorem bcN(g:qc Y 264 6 a<|ol.map aNZ.c){i:Nat}(u:i<L ol){j:Nat}(z:j=1\/j=2){v:Int}{K:ae->Prop}(t:∀(Y':ae) (e:List aNZ),L e=L ol->qc Y' 264 6 a (e.map aNZ.c)->Fx Y Y' (aA a)->K Y'):rV (cz 6 Y a<|iv i) λk=>rV (iQ j Y k) λl=>sV (aK 1 Y l<|iv v) K:=by rcases g with⟨h,rfl⟩|⟨q,m,rfl,f⟩;simp_all;have r:cz 6 Y (.m q<|L<|ol.map aNZ.c) (iv i)=V (.p q i 0):=(by simp[cz,f,u]);have s:iQ j Y (.p q i 0)=V (.p q i j):=(by simp[iQ,f]);simp only[r,s,aY];have A:(ol.map aNZ.c++m)[i]?=V (aNZ.c<|gd ol i):=(by grind [bT]);refine aQz (x:=iv v) f A (by show j<6;omega) rfl rfl rfl λY' F o=>?_;obtain⟨y,B⟩:∃y:aNZ,(aNZ.c<|gd ol i).set j (iv v)=y.c:=(by rcases z with rfl|rfl;exact⟨{gd ol i with a:=v},rfl⟩;exact⟨{gd ol i with b:=v},rfl⟩);have hs:(ol.map aNZ.c++m).set i ((aNZ.c<|gd ol i).set j<|iv v)=(ol.set i y).map aNZ.c++m:=(by simp_all);refine t Y' (ol.set i y) (by simp) (.inr ⟨q,m,by simp,?_⟩) (by grind [aA]);rw[o,<-hs];rfl
theorem Gn.patch(G:Gn κ Y b w loc a n){i:Nat}(q:i<n){j:Nat}(k:j=1\/j=2){v:Int}{K:ae->Prop}(f:∀Y',Gn κ Y' b w loc a n->R4 b Y a Y' a->K Y'):rV (cz 6 Y a<|iv i) λc=>rV (iQ j Y c) λe=>sV (aK 1 Y e<|iv v) K:=by obtain⟨s,nx,t,p⟩:=G.bx0;obtain⟨m,g,r⟩:=G.ga;refine bcN g (by omega) k λY' out' l o F=>f Y' ⟨(by grind [Fx.keep,Gn.sa,Gn.sb]),(by grind),F.len.trans G.le,G.sb,G.sa,G.wb,G.lb,G.hq⟩ ⟨(by grind [Fx.mono]),λ_ h=> .inl h⟩
theorem Gn.set(G:Gn κ Y b w loc a n){v:Int}{K:ae->Prop}(e:∀Y',Gn κ Y' b w loc a n->Fx Y Y' [b]->K Y'):sV (aK 1 Y (.p b 0 8)<|iv v) K:=by obtain⟨s,nx,h,f⟩:=G.bx0;obtain⟨i,g,j⟩:=G.ga;exact A0 f rfl (by simp) λY' F c=>e Y' ⟨⟨v,nx,h,c⟩,(by grind [qc.fx,Gn.sa,Gn.sb]),F.len.trans G.le,G.sb,G.sa,G.wb,G.lb,G.hq⟩ F
theorem Gn.nxt(G:Gn κ Y b w loc a n){v:Int}(i:0<=v)(j:v<=n+κ){K:ae->Prop}(c:∀Y',Gn κ Y' b w loc a n->Fx Y Y' [b]->K Y'):sV (aK 1 Y (.p b 0 9)<|iv v) K:=by obtain⟨s,nx,l,e⟩:=G.bx0;obtain⟨f,g,k⟩:=G.ga;exact A0 e rfl (by simp) λY' F h=>c Y' ⟨(by simp_all),(by grind [qc.fx,Gn.sa,Gn.sb]),F.len.trans G.le,G.sb,G.sa,G.wb,G.lb,G.hq⟩ F
def bG:Nat->Nat|0=>0|m+1=>10+8*bG m
def aRo(b:Id)(w:J9)(loc:List ByteArray)(m:Nat):Prop:=∀{κ:Int} {Y:ae} {a:AV} {n:Nat} {l:List NA},Gn κ Y b w loc a n->κ<=1000000->shL m 8 l->n+L l*bG m<60000->∃r Y1,GR κ (L l*bG m) Y b w loc a n r Y1/\cZ aS GG 190 [.p b 0 0,sl NA.c l] Y r Y1
theorem aV7{m:Nat}(i:aRo b w loc m)(G:Gn κ Y b w loc a n)(h:κ<=1000000){l:List NA}(e:shL m 4 l)(o:n+4*bG m<60000)(k:∀g f Y1,Gn κ Y1 b w loc g f->n<=f->f<=n+4*bG m->R4 b Y a Y1 g->K (.t []) Y1):cB 190 [.p b 0 0,sl NA.c l] Y d K:=by have j:L l*bG m<=4*bG m:=qo _ e.1;exact aPv rfl (i G h ⟨by have:=e.1;omega,e.2⟩<|by omega) (by grind)
theorem bc9{m:Nat}(F:aRo b w loc m)(G:Gn κ Y b w loc a n){x:NA}(E:shS (m+1) x)(hn:n+bG (m+1)<60000)(T:κ<=1000001)(o1 M y:Int):∃r Y1,GR (κ-1) (bG<|m+1) Y b w loc a n r Y1/\cZ aS GG 275 [.p b 0 0, .a x.c,iv o1,iv M,iv y] Y r Y1:=by obtain⟨m',S,g1,g2⟩:=E.body;obtain rfl:m=m':=(by omega);have R:bG (m+1)=10+8*bG m:=rfl;obtain⟨C,D⟩:=b;obtain rfl:C=45:=G.sb;refine bg0 G.le bit λl v3 v W nf2 O=>?_;have g:Fx Y l []:=v.fx [];have G2:=G.fx0 g;have z:R4 (45,D) Y a l a:=R4.of0 g;obtain⟨s,nx,k⟩:=G2.bx;simp only[aU3,qb k,u0,u1,k,aRV,bfx,aRa,aj,bdI];refine aPw G2 (by omega) λZ s3 n3 q h1 h2 i=>?_;have P:=i.f.keep _ _ (by grind [Gn.out]) O;simp only[qz 4,u0,u1,P,pz,aj];refine aV7 F q (by omega) g1 (by omega) λa4 n4 s4 h h3 h4 j=>?_;obtain⟨s',X,e⟩:=h.bx;simp only[qz 6,qb e,u0,u1,e,aj];refine h.set λs5 t o=>?_;simp only[qz 8,qy 10,bdI,aY];refine aPw t (by omega) λB s6 H u h5 h6 A=>⟨B,H,rfl,u.mono (by omega),by omega,by omega,(((z.trans i).trans j).trans<|R4.ofb o).trans A⟩
theorem a6I{m:Nat}(ih:aRo b w loc m)(G:Gn κ Y b w loc a n){x:NA}(hx:shS (m+1) x)(he:shE 2 x.expr)(hn:n+bG (m+1)<60000)(aU:κ<=1000001):∃r Y1,GR (κ-1) (bG<|m+1) Y b w loc a n r Y1/\cZ aS GG 274 [.p b 0 0, .a x.c] Y r Y1:=by obtain⟨m',aQ,g1,g2⟩:=hx.body;obtain rfl:m=m':=(by omega);have aP:bG (m+1)=10+8*bG m:=rfl;obtain⟨b1,O⟩:=b;obtain rfl:b1=45:=G.sb;refine bg2 G.le bit λs2 v3 K2 aV nf2 q2=>?_;have B:Fx Y s2 []:=K2.fx [];have G2:=G.fx0 B;have R2:R4 (45,O) Y a s2 a:=R4.of0 B;obtain⟨s,nx,W⟩:=G2.bx;obtain⟨o2,P,aR⟩:=G2.ga;simp only[aU5,qb W,u0,u1,W,q2,pz,aj,P.ln];refine aRF G2 (by omega) he λa3 n3 s3 u h1 h2 R3=>?_;have q3:=R3.f.keep _ _ (by grind [Gn.out]) q2;obtain⟨s',aW,l⟩:=u.bx;obtain⟨o3,R,X⟩:=u.ga;simp only[qz 4,qb l,u0,u1,l,aRV,bfx,aRa,aj,R.ln,bdI];refine aPw u (by omega) λa4 s4 n4 G4 h3 h4 E=>?_;have q4:=E.f.keep _ _ (by grind [Gn.out]) q3;simp only[qz 6,u0,u1,q4,pz,aj];refine aV7 ih G4 (by omega) g1 (by omega) λH n5 s5 D h5 h6 R5=>?_;have q5:=R5.f.keep _ _ (by grind [Gn.out]) q4;obtain⟨aZ,aD,o⟩:=D.bx;simp only[qz 8,qb o,u0,u1,o,aj];refine D.set λs6 h F6=>?_;have q6:=F6.kq q5;have F:R4 (45,O) Y a s6 H:=(by grind [R4.trans,R4.ofb]);obtain⟨a8,aX,q⟩:=h.bx;obtain⟨o6,S,Z⟩:=h.ga;have z:L (o3.map aNZ.c)=n3:=(by simp[X]);simp only[qz 10,qy 16,qb q,u0,u1,q,q6,pz,aj,S.ln,bdI,z];refine⟨λ_=>?_,λ_=>⟨λ_=>?_,λ_=>?_⟩⟩;refine aPw h (by omega) λM s7 n7 g h7 h8 y=>?_;obtain⟨al,ae,e⟩:=g.bx;obtain⟨o7,k,aa⟩:=g.ga;simp only[qz 12,qy 14,qb e,u0,u1,e,aRV,bfx,aRa,aj,k.ln];refine g.patch (by omega) (.inr rfl) λs8 i j=>?_;exact⟨M,n7,rfl,i.mono (by omega),by omega,by omega,(F.trans y).trans j⟩;refine h.patch (by omega) (.inr rfl) λs8 i j=>?_;exact⟨H,n5,rfl,i.mono (by omega),by omega,by omega,F.trans j⟩;refine aPw h (by omega) λM s7 n7 g h7 h8 y=>?_;have q7:=y.f.keep _ _ (by grind [Gn.out]) q6;obtain⟨al,ae,e⟩:=g.bx;obtain⟨o7,k,aa⟩:=g.ga;simp only[qz 18,qb e,u0,u1,e,aRV,bfx,aRa,aj,k.ln];refine g.patch (by omega) (.inr rfl) λs8 i j=>?_;have q8:=j.f.keep _ _ (by grind [Gn.out]) q7;simp only[qz 20,u0,u1,q8,pz,aj];refine aV7 ih i (by omega) g2 (by omega) λa9 n9 s9 v h9 aO R9=>?_;obtain⟨ba,aY,t⟩:=v.bx;obtain⟨o9,T,aT⟩:=v.ga;have A:L (o6.map aNZ.c)=n5:=(by simp[Z]);simp only[qz 22,qy 24,qb t,u0,u1,t,aRV,bfx,aRa,aj,T.ln,A];refine v.patch (by omega) (.inl rfl) λa6 C aN=>?_;exact⟨a9,n9,rfl,C.mono (by omega),by omega,by omega,by grind [R4.trans]⟩
theorem bde(G:Gn κ Y b w loc a n)(h:ByteArray):∃r Y1,((∃v,r= .s v/\∃u:Int,AV.s v=iv u)/\Fx Y Y1 [])/\cZ aS GG 276 [.p b 0 0,st h] Y r Y1:=by refine bg3 G.le ?_;obtain⟨s,nx,e⟩:=G.bx;have i:=G.wb.2.2.1;simp only[aU6];refine bhZ (L w.bC) (λk=>True) trivial λk l j=>?_;have g:∀u:Int,aNN (λr Y1=>(∃v,r= .s v/\∃u:Int,AV.s v=iv u)/\Fx Y Y1 []) Y [iv u]:=λu=>⟨⟨_,rfl,u,rfl⟩,Fx.refl _ _⟩;simp+contextual only[qz 19,aI,au,qb e,u0,u1,e,aRV,bfx,aRa,rk,aj,aBz (f:=aOw.c) (z:=2)<|λ_=>rfl,bh,g];grind [dJ,gS]
theorem baW(G:Gn κ Y b w loc a n){c:ByteArray}(e:∀u:Int,K (iv u) Y):cB 276 [.p b 0 0,st c] Y d K:=aV6 rfl (bde G c) (by simp_all)
theorem bdx{m:Nat}(X:aRo b w loc m)(G:Gn κ Y b w loc a n){x:NA}(H:shS (m+1) x)(W:n+bG (m+1)<60000)(aK:κ<=1000000):∃r Y1,GR κ (bG<|m+1) Y b w loc a n r Y1/\cZ aS GG 243 [.p b 0 0, .a x.c] Y r Y1:=by
 have B:=H.at
 have ho:=H.ops
 have aG:bG (m+1)=10+8*bG m:=rfl
 obtain⟨b1,i⟩:=b
 obtain rfl:b1=45:=G.sb
 refine bg5 G.le bit λs2 v3 K2 aL nf2 q2=>?_
 have F2:Fx Y s2 []:=K2.fx []
 have G2:=G.fx0 F2
 obtain⟨s,nx,hb⟩:=G2.bx
 simp only[aU8,qb hb,u0,u1,hb,aRV,bfx,aRa,aj]
 refine G2.set λs3 M F3=>?_
 have q3:=F3.kq q2
 obtain⟨s',am,aJ,P⟩:=M.bx0
 simp only[qz 4,qb P,u0,u1,P,aRV,bfx,aRa,aj,eM (x:=am+1) (by omega)<|by omega]
 refine(M.mono (κ':=κ+1)<|by omega).nxt (by omega) (by omega) λE g F4=>?_
 have q4:=F4.kq q3
 have j:R4 (45,i) Y a E a:=((R4.of0 F2).trans<|R4.ofb F3).trans<|R4.ofb F4
 obtain⟨aN,az,C⟩:=g.bx
 have A:=g.wb
 have hL:=g.lb
 have O:∀{T:ae} {a3:AV} {Z:Nat} {x:aNZ} {d:Nat},Gn (κ+1) T (45,i) w loc a3 Z->n<=Z->Z<=n+3->R4 (45,i) Y a T a3->cB 191 [.p (45,i) 0 0, .a x.c] T d λS v=>aNN (GR κ (bG<|m+1) Y (45,i) w loc a n) v []:=λM l o R3=>
  aPw M (by omega) λk Y1 q G' g1 g2 R'=>⟨k,q,rfl,G'.mono (by omega),by omega,by omega,R3.trans R'⟩
 have t:∀{o1 o2 y:Int} {d:Nat},cB 275 [.p (45,i) 0 0, .a x.c,iv o1,iv o2,iv y] E d λS v=>aNN (GR κ (bG<|m+1) Y (45,i) w loc a n) v []:=λ{o1 o2 y d}=>
  aPv rfl (bc9 X g H W (by omega) o1 o2 y) λk q Y1 l o D z=>⟨k,q,rfl,l.mono (by omega),o,D,j.trans z⟩
 have F:∀{nm:ByteArray} {d:Nat} {K:be},(∀u:Int,K (iv u) E)->cB 276 [.p (45,i) 0 0,st nm] E d K:=λhK=>baW g hK
 have e:∀{x:aNZ} {d:Nat},cB 191 [.p (45,i) 0 0, .a x.c] E d λS v=>aNN (GR κ (bG<|m+1) Y (45,i) w loc a n) v []:=λ{x d}=>O g (by omega) (by omega) j
 have aF:dG E (.a w.c)= .a w.c:=rfl
 simp only[qz 6,qy 8,qb C,u0,u1,C,q4,pz,aj]
 have hc:x.op=1\/x.op=2\/x.op=3\/x.op=4\/x.op=5\/x.op=6\/x.op=7\/x.op=8\/x.op=9\/x.op=10\/x.op=11\/x.op=12\/x.op=13\/x.op=14\/x.op=15:=by omega
 rcases hc with h|h|h|h|h|h|h|h|h|h|h|h|h|h|h
 all_goals
  simp only[h,aI,au,qz 41,qz 39,qy 10,qy 12,qy 14,qy 16,qy 18,qy 20,qy 34,qy 36,qy 42,qb C,u0,u1,C,q4,pz,aj,brp,bq0,Int.reduceEq,↓iC,↓iB,jM,kU,jt,tW,alg,aD6,rr,bdI,GL,be8,sr,eE,aQ6,aO5]
 ·exact aPv rfl (bda g (by omega) (B.1<|.inl h) B.2.2.1 B.2.2.2.1 B.2.1) λk q Y1 l o D z=>⟨k,q,rfl,l.mono (by omega),o,by omega,j.trans z⟩
 ·exact aPv rfl (a6I X g H (B.1<|by omega) W<|by omega) λk q Y1 l o D z=>⟨k,q,rfl,l.mono (by omega),o,D,j.trans z⟩
 ·exact aPv rfl (a6I X g H (B.1<|by omega) W<|by omega) λk q Y1 l o D z=>⟨k,q,rfl,l.mono (by omega),o,D,j.trans z⟩
 ·exact⟨by have:=A.2.1;omega,λ_=>t⟩
 ·exact⟨by have:=A.2.1;omega,λ_=>t⟩
 ·exact⟨by have:=A.2.1;omega,λ_=>t⟩
 ·exact t
 ·exact t
 ·exact F λu=>by simp only[qz 22,qy 24,bdI,aY];exact e
 ·exact F λu=>by simp only[qz 26,qy 28,bdI,aY];exact e
 ·exact F λu=>by simp only[qz 30,qy 32,bdI,aY];exact e
 ·exact⟨by have:=A.2.2.2.2.1;omega,e⟩
 ·exact⟨by have:=A.2.2.2.2.1;omega,e⟩
 ·refine aRF g (by omega) (B.1<|by omega) λa5 n5 s5 G5 l o R5=>?_
  have q5:=R5.f.keep _ _ (by grind [Gn.out]) q4
  obtain⟨aO,aM,R⟩:=G5.bx
  have aw:dG s5 (.a w.c)= .a w.c:=rfl
  simp only[qz 38,qy 40,qb R,u0,u1,R,q5,pz,aj,jM,kU,jt,tW,alg,aD6,AL,bdI,GL]
  exact⟨by have:=A.2.2.2.1;omega,O (G5.mono<|by omega) (by omega) (by omega)<|j.trans R5⟩
 ·exact⟨by omega,by have:=A.2.2.2.1;omega,e⟩
theorem bdz(m:Nat):m<=4->aRo b w loc m:=by induction m with|zero=>intro _ κ Y a n l G o e u;have j:l=[]:=(by cases l with|nil=>rfl|cons x l=>exact(e.2 x<|by simp).elim);subst j;refine a7T G.le ?_;simp only[aSu];refine yV 0 (λ_ _ Y'=>Y'=Y) rfl ?_;rintro k _ Y1 g rfl;obtain rfl:k=0:=(by omega);simp only[qz 7,aI,au,u0,u1,aO1];exact⟨λh=>by simp at h,λ_=>⟨a,n,rfl,G,by omega,by omega,R4.refl⟩⟩|succ m v=>intro F κ Y a n l G o e u;have E:=G.le;have z:bG (m+1)<=46810:=(by have:m=0\/m=1\/m=2\/m=3:=(by omega);rcases this with rfl|rfl|rfl|rfl<;>decide);refine a7T G.le ?_;simp only[aSu];refine jD (α:=AV×Nat) (λ_ i=>[iv i]) 0 (L l) (λi x Y'=>Gn κ Y' b w loc x.1 x.2/\n<=x.2/\x.2<=n+i*bG (m+1)/\R4 b Y a Y' x.1) (s0:=(a,n)) (by grind [R4.refl]) ?_;rintro k ⟨a1,p⟩ Y1 g ⟨f,r,D,q⟩;have A:k*bG (m+1)<=L l*bG (m+1):=qo _ g;simp only[qz 7,aI,au,u0,u1,ixv,bh,rr,pz];refine⟨λh=>⟨u7 h,?_⟩,λ_=>⟨a1,p,rfl,f,r,by omega,q⟩⟩;have c:=aL h;have hs:(k+1)*bG (m+1)=k*bG (m+1)+bG (m+1):=tN _ _;have t:(k+1)*bG (m+1)<=L l*bG (m+1):=qo _ c;refine aPv rfl (bdx (v<|by omega) f (e.2 _<|asq c) (by omega)<|by omega) λa2 y Y2 G2 g1 C B=>?_;simp only[qz 2,au,u0,u1];exact dR (mk:=λ(_:AV×Nat) i=>[iv i]) (s:=(a1,p)) (s':=(a2,y)) (λ_ _=>rfl) c (by have:=e.1;omega) (by grind [R4.trans])
theorem ba2(G:Gn κ Y b w loc a 0){l:List NA}(f:shL 4 8 l)(g:κ<=1000000)(k:∀e h Y1,Gn κ Y1 b w loc e h->h<=50000->R4 b Y a Y1 e->K (.t []) Y1):cB 190 [.p b 0 0,sl NA.c l] Y d K:=by have j:L l*bG 4<=8*bG 4:=qo _ f.1;have i:bG 4=5850:=rfl;exact aPv rfl (bdz 4 (by omega) G g f<|by omega) (by grind)
end
def aQN{fn:FuncId}{xs:List AV}{Y:ae}{d:Nat}{K R:be}{ks:List Nat}(k:uQ.elem fn=I)(i:fps.lookup fn=V ks)(l:List Id)(a:∀x∈xs,okX ks l x)(b:okB ks l<|bim ks l Y)(h:∃r Y1,R r Y1/\cZ aS GG fn xs (bim ks l Y) r Y1)(g:∀r Y1,R r Y1->L Y1=L Y/\∃l':List Id,okB ks l' Y1/\okX ks l' r/\K r (avs ks l' Y Y1)):cV fn xs Y d K:=by obtain⟨r,Y1,c,f⟩:=h;obtain⟨j,l',m,n,o⟩:=g r Y1 c;have e:aPf GGV fn=V ks:=(by have p:GGV.fp fn=V ks:=i;have q:GGV.rd fn=I:=k;grind [aPf]);unfold cV tR;rw[e];exact⟨l,l',r,Y1,f,j,a,b,m,n,o⟩
section
variable{ks:List Nat}{l:List Id}{Y Y1:ae}
def aQw{e:TypeId}{z:Nat}{a:AV}{bA:List (List AV)}(g:qc Y1 e z a bA)(h:∀q∈aA a,okI ks l q):okC ks l a:=by rcases g with⟨_,rfl⟩|⟨q,m,rfl,_⟩;exact .inr rfl;exact h q (by simp[aA])
theorem a6y{e:TypeId}{z:Nat}{a:AV}{bA:List (List AV)}(g:qc Y e z a bA)(h:∀q∈aA a,okI ks l q):qc (bim ks l Y) e z a bA:=by rcases g with g|⟨q,r,rfl,g⟩;exact .inl g;have b:=h q (by simp[aA]);exact .inr ⟨q,r,rfl,by rw[aOV b.1,lC b.2];exact g⟩
theorem aRR(c:L Y1=L Y){e:TypeId}{z:Nat}{a:AV}{bA:List (List AV)}(g:qc Y1 e z a bA)(h:∀q∈aA a,okI ks l q):qc (avs ks l Y Y1) e z a bA:=by rcases g with g|⟨q,r,rfl,g⟩;exact .inl g;have b:=h q (by simp[aA]);exact .inr ⟨q,r,rfl,by rw[aPT c b.1,lC b.2];exact g⟩
theorem aNO{e:TypeId}{z:Nat}{a:AV}{bA:List (List AV)}(g:qc Y e z a bA):∀p∈aA a,∀x,box Y p=V x->x.var=U->False:=by rcases g with⟨_,rfl⟩|⟨b,r,rfl,g⟩;simp[aA];grind [aA,cE]
end
structure Kx(ks:List Nat)(Y Y':ae):Prop where
 len:L Y'=L Y
 keep:∀b x,b.1∉ks->box Y b=V x->box Y' b=V x
theorem Kx.mix{ks:List Nat}{l:List Id}{Y Y1:ae}:Kx ks Y (avs ks l Y Y1):=⟨aPl,by grind [aPt]⟩
def Kx.kq{ks:List Nat}{Y Y':ae}(k:Kx ks Y Y'){b:Id}{x:bY}(c:box Y b=V x)(a:b.1∉ks:=by simp):box Y' b=V x:=k.keep b x a c
section
variable{ks:List Nat}{Y Y' Y1:ae}{m b:Id}{hs:List ByteArray}{h:AV}{d:Nat}{K:be}{l:List Id}
theorem Kx.gr(k:Kx ks Y Y'){e:TypeId}{z:Nat}{a:AV}{bA:List (List AV)}(g:qc Y e z a bA)(c:∀q∈aA a,q.1∉ks):qc Y' e z a bA:=by rcases g with g|⟨b,m,rfl,g⟩;exact .inl g;exact .inr ⟨b,m,rfl,k.keep _ _ (c b<|by simp[aA]) g⟩
theorem Fx.kx{Lw:List Id}(F:Fx Y Y' Lw)(c:∀q∈Lw,q.1∈ks):Kx ks Y Y':=⟨F.len,by grind [Fx.keep]⟩
theorem J7.mix(M:J7 Y1 m b hs h)(c:L Y1=L Y)(g:okI ks l m)(f:okI ks l b)(i:∀q∈aA h,okI ks l q):J7 (avs ks l Y Y1) m b hs h:=by obtain⟨o,k,s,tx,e,n,j⟩:=M.mx;obtain⟨Lw,a,T⟩:=M.tp;refine⟨⟨o,k,s,tx,e,n,?_⟩,⟨Lw,a,⟨?_,T.le,T.ok,T.ll⟩⟩,aRR c M.gh i,by grind [aPl,J7.le],M.sm,M.sb,M.sh⟩;rw[aPT c g.1,lC g.2];exact j;rw[aPT c f.1,lC f.2];exact T.bx
def J7.cut(M:J7 Y m b hs h)(f:okI ks l m)(e:okI ks l b)(g:∀q∈aA h,okI ks l q):J7 (bim ks l Y) m b hs h:=by obtain⟨n,j,s,tx,c,k,i⟩:=M.mx;obtain⟨Lw,a,T⟩:=M.tp;refine⟨⟨n,j,s,tx,c,k,?_⟩,⟨Lw,a,⟨?_,T.le,T.ok,T.ll⟩⟩,a6y M.gh g,by rw[aOr];exact M.le,M.sm,M.sb,M.sh⟩;rw[aOV f.1,lC f.2];exact i;rw[aOV e.1,lC e.2];exact T.bx
theorem J7.bA(M:J7 Y1 m b hs h)(g:okI ks l b)(i:∀q∈aA h,okI ks l q):∀p,p=m\/p=b\/p∈aA h->∀x,box Y1 p=V x->x.var=U->∀q∈x.bA,∀y∈q,okC ks l y:=by obtain⟨u,r,s,tx,o,t,n⟩:=M.mx;obtain⟨Lw,a,T⟩:=M.tp;rintro p (rfl|rfl|j) x c k q e y f;rw[n] at c;cases c;simp only[cE] at e;subst e;simp only[eW,ql,bjz] at f;rcases f with rfl|rfl|rfl|rfl|rfl|rfl|rfl|rfl;exact g;trivial;trivial;trivial;trivial;trivial;trivial;exact aQw M.gh i;rw[T.bx] at c;cases c;simp only[cE] at e;subst e;simp only[eW,ql,bjz] at f;rcases f with rfl|rfl;exact .inl rfl;trivial;exact(aNO M.gh p j x c k).elim
theorem aXR(M:J7 Y m b hs h){n:Int}(E:∀(x:Int) Y1,0<=x->(1<=n->x<n)->J7 Y1 m b hs h->Kx [14,15,16] Y Y1->K (iv x) Y1):cV 115 [.p b 0 0,iv n] Y d K:=by have o:=M.sm;have k:=M.sb;have z:okI [14,15,16] (m::b::aA h) m:=⟨by simp[o],by simp⟩;have e:okI [14,15,16] (m::b::aA h) b:=⟨by simp[k],by simp⟩;have g:∀q∈aA h,okI [14,15,16] (m::b::aA h) q:=λq j=>⟨by simp[M.sh q j],by simp[j]⟩;have c:=M.cut z e g;obtain⟨Lw,a,T⟩:=c.tp;refine aQN rfl rfl (m::b::aA h) (λx t=>?_) (λp f=>c.bA e g p<|by simpa using f) (aWF c.le T n) ?_;simp only[eW,ql,bjz] at t;rcases t with rfl|rfl;exact e;trivial;rintro r Y1 ⟨x,u,rfl,B,C,w,D,_,F⟩;have i:J7 Y1 m b hs h:=(by obtain⟨O,H,s,tx,A,N,G⟩:=c.mx;exact⟨(by grind [Fx.keep]),⟨Lw,u,w⟩,c.gh.fx F M.nb,F.len.trans c.le,M.sm,M.sb,M.sh⟩);have y:L Y1=L Y:=i.le.trans M.le.symm;exact⟨y,m::b::aA h,λp f=>i.bA e g p (by simpa using f),trivial,by grind [J7.mix,Kx.mix]⟩
theorem baZ{D:Nat}(M:J7 Y m b hs h)(T:L hs+D<=500){t n:Int}(S:t=D)(N:0<=n)(O:n<=3)(P:∀(a:AV) (l:List NA) (h':AV) Y1,qc Y1 274 11 a (l.map NA.c)->(L l:Int)<=n->(∀x∈l,shS (D+1) x)->(∀q∈aA a,q.1=30)->J7 Y1 m b hs h'->Kx [14,15,16,30] Y Y1->K a Y1):cV 194 [.p m 0 0,iv t,iv n] Y d K:=by subst S;have j:=M.sm;have i:=M.sb;have B:okI [14,15,16,30] (m::b::aA h) m:=⟨by simp[j],by simp⟩;have u:okI [14,15,16,30] (m::b::aA h) b:=⟨by simp[i],by simp⟩;have z:∀q∈aA h,okI [14,15,16,30] (m::b::aA h) q:=λq e=>⟨by simp[M.sh q e],by simp[e]⟩;have s:=M.cut B u z;refine aQN rfl rfl (m::b::aA h) (λx o=>?_) (λp f=>s.bA u z p<|by simpa using f) (bdw D s T N O) ?_;simp only[eW,ql,bjz] at o;rcases o with rfl|rfl|rfl;exact B;trivial;trivial;rintro r Y1 ⟨l,h',g1,F,G,H,k,R⟩;have g:L Y1=L Y:=k.le.trans M.le.symm;have C:okI [14,15,16,30] (m::b::(aA h'++aA r)) m:=⟨by simp[j],by simp⟩;have w:okI [14,15,16,30] (m::b::(aA h'++aA r)) b:=⟨by simp[i],by simp⟩;have A:∀q∈aA h',okI [14,15,16,30] (m::b::(aA h'++aA r)) q:=λq e=>⟨by simp[k.sh q e],by simp[e]⟩;have E:∀q∈aA r,okI [14,15,16,30] (m::b::(aA h'++aA r)) q:=λq e=>⟨by simp[(H q e).2],by simp[e]⟩;refine⟨g,m::b::(aA h'++aA r),?_,?_,P r l h' _ (aRR g g1 E) F G (by grind) (k.mix g C w A) Kx.mix⟩;intro p f x o W q e y X;simp only[eW,dF] at f;rcases f with f|f|f|f;grind [J7.bA];grind [J7.bA];grind [J7.bA];grind [aNO];have:=aQw (ks:=[14,15,16,30]) (l:=m::b::(aA h'++aA r)) g1 E;rcases g1 with⟨_,rfl⟩|⟨q,Z,rfl,_⟩<;>exact this
end
def apX{Y:ae}{e:TypeId}{z d by':Nat}{zs:List AV}{a x:AV}{bA new:List (List AV)}{K:be}(g:qc Y e z a bA)(t:qc Y e z x new)(B:L zs=z)(u:0<z)(w:d<L Y)(A:∀r∈bA,L r=z)(y:∀r∈new,L r=z)(i:(L bA+L new)*(by'+1)<=1099511627776)(s:∀c Y',qc Y' e z c (bA++new)->Fx Y Y' (aA a)->(∀b∈aA c,b∈aA a\/b.1=d)->K c Y'):eV (Gy e zs by' Y d a x) K:=by have n:gL Y x=V new:=(by rcases t with⟨rfl,rfl⟩|⟨q,m,rfl,f⟩;rfl;simp[gL,f]);have o:Gy e zs by' Y d a x=Gy e zs by' Y d a (.l new U U):=(by have j:gL Y (.l new U U)=V new:=rfl;unfold Gy;rw[n,j]);rw[o];by_cases k:new=[];subst k;have:Gy e zs by' Y d a (.l [] U U)=V (a,Y):=(by unfold Gy;simp only[gL];rw[lC<|by simp];rcases g with⟨_,rfl⟩|⟨q,m,rfl,f⟩;rfl;simp[f]);rw[this];exact s a Y (by simpa using g) (Fx.refl _ _) λb i=> .inl i;grind [qs,bc.p]
structure MPs(Y:ae)(m b:Id)(v1 v4:Nat)(h:AV)(ts:List aO6)(a:AV):Prop where
 M:J7 Y m b [] h
 p:box Y (4,v4)=V ⟨196,2,U,U,[[sl w6.c aNF,a]]⟩
 ga:qc Y 258 4 a (ts.map aO6.c)
 pa:∀q∈aA a,q.1=93
 r:box Y (2,v1)=V ⟨196,2,U,U,[aoD]⟩
 ht:∀t∈ts,shT t
structure TB(Y:ae)(v:Nat)(nm:ByteArray)(a:AV)(l:List NA):Prop where
 p:box Y (8,v)=V ⟨258,4,U,U,[[st nm,iv 0, .l ([⟨#[97]⟩,⟨#[98]⟩].map cs) U U,a]]⟩
 ga:qc Y 274 11 a (l.map NA.c)
 pa:∀q∈aA a,q.1=56\/q.1=68\/q.1=87
 hs:∀s∈l,shS 4 s
section
variable{ks:List Nat}{Y Y':ae}{m b:Id}{v1 v4 v:Nat}{h h' a:AV}{ts:List aO6}{nm:ByteArray}{l:List NA}{Lw:List Id}
theorem MPs.kx(S:MPs Y m b v1 v4 h ts a)(k:Kx ks Y Y')(M:J7 Y' m b [] h')(c:4∉ks)(e:2∉ks)(f:93∉ks):MPs Y' m b v1 v4 h' ts a:=⟨M,k.keep _ _ c S.p,k.gr S.ga λq g=>by grind [MPs.pa],S.pa,k.keep _ _ e S.r,S.ht⟩
theorem MPs.fx(S:MPs Y m b v1 v4 h ts a)(F:Fx Y Y' Lw)(e:∀q∈Lw,q.1=8\/q.1=56\/q.1=68\/q.1=87):MPs Y' m b v1 v4 h ts a:=by have i:=S.M.sm;have f:=S.M.sb;refine⟨S.M.fx F (by grind) (by grind) (λq c g=>by have:=e _ g;have:=S.M.sh q c;omega),(by grind [Fx.keep,MPs.p]),S.ga.fx F (λq c g=>by grind [MPs.pa]),S.pa,(by grind [Fx.keep,MPs.r]),S.ht⟩
theorem TB.kx(S:TB Y v nm a l)(k:Kx ks Y Y')(c:8∉ks)(e:56∉ks)(f:68∉ks)(g:87∉ks):TB Y' v nm a l:=⟨k.keep _ _ c S.p,k.gr S.ga (λq i=>by grind [TB.pa]),S.pa,S.hs⟩
theorem TB.fx0(S:TB Y v nm a l)(F:Fx Y Y' Lw)(c:∀q∈Lw,q.1≠8/\q.1≠56/\q.1≠68/\q.1≠87):TB Y' v nm a l:=⟨(by grind [Fx.keep,TB.p]),S.ga.fx F (λq e g=>by grind [TB.pa]),S.pa,S.hs⟩
theorem TB.set{i:AV}(n:box Y (8,v)=V ⟨258,4,U,U,[[st nm,iv 0, .l ([⟨#[97]⟩,⟨#[98]⟩].map cs) U U,i]]⟩){e:AV}{l':List NA}(g:qc Y 274 11 e<|l'.map NA.c)(o:∀q∈aA e,q.1=56\/q.1=68\/q.1=87)(f:∀s∈l',shS 4 s){K:ae->Prop}(k:∀Y1,TB Y1 v nm e l'->Fx Y Y1 [(8,v)]->K Y1):sV (aK 1 Y (.p (8,v) 0 3) e) K:=A0 n g.ce (by simp) λY1 F j=>k Y1 ⟨j,(by grind [qc.fx]),o,f⟩ F
end
def baI{Y:ae}:aX zd9 4 Y [(0,sv [109,97,105,110]),(1,sv [116,49]),(2,sv [116,50]),(3,sv [116,51])]=V (.l ([⟨#[109,97,105,110]⟩,⟨#[116,49]⟩,⟨#[116,50]⟩,⟨#[116,51]⟩].map cs) U U,Y):=by kernel_rfl
def bas{nm:ByteArray}:bM bt2 brF [(0,st nm),(2, .l ([⟨#[97]⟩,⟨#[98]⟩].map cs) U U)]=V (.a [st nm,iv 0, .l ([⟨#[97]⟩,⟨#[98]⟩].map cs) U U, .l [] U U]):=rfl
def a5R{o:Int}{nm:ByteArray}:bM brG alz [(0,iv o),(2,st nm)]=V (.a [iv o,iv 0,st nm,sv [], .l [] U U,iv 0,iv 0,sv [], .l [] U U, .l [] U U, .l [] U U]):=rfl
def a51{Y:ae}{o:Int}{nm:ByteArray}:aX brP 1 Y [(0, .a [iv o,iv 0,st nm,sv [], .l [] U U,iv 0,iv 0,sv [], .l [] U U, .l [] U U, .l [] U U])]=V (.l ([NA.mk o 0 nm ⟨#[]⟩ [] (lD.mk 0 0 ⟨#[]⟩ []) [] []].map NA.c) U U,Y):=aQm (tgt:=(NA.mk o 0 nm ⟨#[]⟩ [] (lD.mk 0 0 ⟨#[]⟩ []) [] []).c) (by rw[a6X];rfl) bit (by decide) (aS7 (x:=NA.mk o 0 nm ⟨#[]⟩ [] (lD.mk 0 0 ⟨#[]⟩ []) [] [])) (by decide)
def aWJ(l:List Int)(hp:(∀x∈l,0<=x/\x<256)/\L l<4611686018427387904):Ct 123 [sl cu l] (λr=>∃p:aQl,r= .a p.c/\shP p/\p.bm0=aNF):=by refine aDq (bgf λs0 hl h0=>?_);simp only[aUA];refine ic hl λv1 s1 F1 N1 q1=>?_;have bu:=F1.len.trans hl;have ac:bM btZ bmK [(0,sl cu l)]=V (.a [sl cu l,iv 0]):=rfl;simp only[qz 2,qy 8,ac,aY];refine bxL rfl (by decide) (by omega) λE s2 F2 N2 q2=>?_;have bw:=F2.len.trans bu;have bp:bM bu0 [(0,1),(1,1),(2,1),(3,1),(4,1),(5,1),(6,1),(7,1)] [(0, .p (14,E) 0 0),(2,iv 20)]=V (.a [.p (14,E) 0 0,iv 0,iv 20,bv I,bv I,bv I,bv I, .l [] U U]):=rfl;simp only[bp,aY];refine bxL rfl (by decide) (by omega) λZ s3 F3 N3 q3=>?_;have aL:=F3.len.trans bw;have T3:Tp s3 (14,E) l 0:=⟨F3.kq q2,by omega,hp.1,hp.2⟩;have M3:J7 s3 (16,Z) (14,E) [] (.l [] U U):=⟨(by simp_all),⟨l,0,T3⟩, .inl ⟨rfl,rfl⟩,aL,rfl,rfl,by simp[aA]⟩;have bq:bM aoD bmK [(0,sl w6.c aNF)]=V (.a [sl w6.c aNF, .l [] U U]):=rfl;simp only[jM,jt,aQV,bq,u0];refine⟨by simp[lo,nA,uN,yv,wD],?_⟩;refine anu aL λv4 s4 F4 N4 q4=>?_;have S4:MPs s4 (16,Z) (14,E) v1 v4 (.l [] U U) [] (.l [] U U):=⟨M3.fx0 F4,q4, .inl ⟨rfl,rfl⟩,by simp[aA],F4.kq<|F3.kq<|F2.kq q1,by simp⟩;obtain⟨th,lf,s,tx,ab,lp,aK⟩:=S4.M.mx;simp only[qz 10,qb aK,u0,u1,aK,aRV,aRa,aj];refine aXR S4.M λy s5 y0 y1 M5 K5=>?_;have y1:=y1 (by decide);have S5:=S4.kx K5 M5 (by decide) (by decide) (by decide);simp only[qz 12,qy 14,u0,u1,baI,eM (x:=2+y) (by omega)<|by omega];obtain⟨n,hn⟩:∃n:Nat,2+y=n:=(by grind);rw[hn];have cn:n<=4:=(by omega);refine yV n (λk _ Y=>∃h ts a,MPs Y (16,Z) (14,E) v1 v4 h ts a/\L ts=k) ⟨_,_,_,S5,rfl⟩ ?_;rintro k _ Y hk ⟨h,ts,a,S,bB⟩;have aM:=S.M.le;obtain⟨th,lf,s,tx,ab,lp,hb⟩:=S.M.mx;simp only[qz 43,qy 60,aI,au,qb hb,u0,u1,hb,aRa,aj];refine⟨λad=>?_,λad=>?_⟩;have a5:k<n:=(by grind);refine aPJ S.M (by simp) λs6 M6 F6=>?_;have S6:MPs s6 (16,Z) (14,E) v1 v4 h ts a:=S.kx (ks:=[16]) (F6.kx<|by simp) M6 (by decide) (by decide) (by decide);simp only[qz 16,au,amZ,u0,rk,pz,aV4];refine⟨⟨by omega,by simp;omega⟩,?_⟩;generalize gd ([⟨#[109,97,105,110]⟩,⟨#[116,49]⟩,⟨#[116,50]⟩,⟨#[116,51]⟩]:List ByteArray) (k:Int).toNat=nm;simp only[qz 18,qy 20,bas,aY];refine anu S6.M.le λv8 s7 F7 N7 q7=>?_;have S7:=S6.fx F7 (by simp);have B7:TB s7 v8 nm (.l [] U U) []:=⟨q7, .inl ⟨rfl,rfl⟩,by simp[aA],by simp⟩;simp only[qz 22];refine bpD (λo=>∀(Y1:ae) (h1 a8:AV) (w:List NA),MPs Y1 (16,Z) (14,E) v1 v4 h1 ts a->TB Y1 v8 nm a8 w->L w<=3->o [] Y1) ?_ λo az=>?_;intro Y1 h1 a8 w A B ax;obtain⟨th,lf,s,tx,ab,lp,ac⟩:=A.M.mx;simp only[qz 81,aI,qb ac,u0,u1,ac,B.p,aRV,bfx,aRa,aj];refine aXR A.M λy s8 y0 y1 M8 K8=>?_;have y1:=y1 (by decide);have A8:=A.kx K8 M8 (by decide) (by decide) (by decide);have B8:=B.kx K8 (by decide) (by decide) (by decide) (by decide);simp only[qz 30,u0,u1,eM (x:=1+y) (by omega)<|by omega];refine baZ (D:=2) A8.M (by simp) rfl (by omega) (by omega) λa9 l9 h9 s9 g9 cm co p9 M9 K9=>?_;have A9:=A8.kx K9 M9 (by decide) (by decide) (by decide);have B9:=B8.kx K9 (by decide) (by decide) (by decide) (by decide);simp only[qz 32];refine apX B9.ga g9 rfl (by decide) (by rw[A9.M.le];decide) (qW (f:=NA.c) (z:=11) λ_=>bit) (by grind [bit]) (by simp;omega) λck cr av aG cq=>?_;rw[<-dg] at av;have G:=B9.pa;have a7:=A9.fx aG (λq u=>by have:=G q u;omega);have aB:=aG.keep _ _ (λu=>by have:=G _ u;simp at this) B9.p;simp only[qz 34,u0,u1,aB,aj];refine TB.set aB av (by grind) (λs af=>?_) λbF an bc=>?_;grind [TB.hs,shS.mono];have aa:=a7.fx bc (by simp);refine dT (by simp[eL,lb,lbV,m8,dC,dK]) ?_;have a3:L (w++l9)<=6:=(by simp;omega);generalize w++l9=bR at an a3;clear av aB;refine bpD (λo=>∀(T:ae) (h2 W:AV) (bd:List NA),MPs T (16,Z) (14,E) v1 v4 h2 ts a->TB T v8 nm W bd->L bd<=8->o [] T) ?_ λo X=>?_;intro T h2 W bd A B ax;have ay:aX btU 1 T [(0, .a [st nm,iv 0, .l ([⟨#[97]⟩,⟨#[98]⟩].map cs) U U,W])]=V (.l ([(⟨nm,0,[⟨#[97]⟩,⟨#[98]⟩],bd⟩:aO6)].map aO6.c) U U,kills T<|eB<|.a [st nm,iv 0, .l ([⟨#[97]⟩,⟨#[98]⟩].map cs) U U,W]):=aQm (tgt:=(⟨nm,0,[⟨#[97]⟩,⟨#[98]⟩],bd⟩:aO6).c) (by simp only[ji,mU,aQ5,aXQ,aOb B.ga];rfl) rfl (by decide) rfl (by decide);have a1:∀q∈eB (.a [st nm,iv 0, .l ([⟨#[97]⟩,⟨#[98]⟩].map cs) U U,W]),q.1=56\/q.1=68\/q.1=87:=λq u=>(by simp only[eB,Cz,RN,iR,dW,cL] at u;exact B.pa q<|by cases W<;>first|exact u|simp[iR] at u);have FK:=aOp (eB<|.a [st nm,iv 0, .l ([⟨#[97]⟩,⟨#[98]⟩].map cs) U U,W]) T;simp only[qz 129,qy 46,aI,u0,u1,A.p,aEa B.p rfl,aRV,bfx,aRa,aj,ay];have C:=A.fx FK (λq u=>by have:=a1 q u;omega);refine apQ C.ga C.M.le (qW (f:=aO6.c) (z:=4) λ_=>rfl) (by grind [aO6.c]) (by simp) (by simp;omega) λa4 s4 g4 F4 N4=>?_;rw[<-dg] at g4;have bA:=C.pa;have p4:=F4.keep _ _ (by grind) C.p;simp only[qz 48,u0,u1,p4,aj];refine A0 p4 g4.p.ce (by simp) λs5 F5 b5=>?_;have hm:=C.M.sm;have hb:=C.M.sb;have M5:=(C.M.fx F4 (by grind) (by grind) (λq u g=>by have:=bA _ g;have:=C.M.sh q u;omega)).fx F5 (by simp) (by simp) (λq u g=>by simp at g;subst g;have:=C.M.sh _ u;simp at this);simp only[qz 50,au,u0,u1];refine dR (mk:=λ(_:Unit) i=>[iv i]) (s:=()) (s':=()) (λ_ _=>rfl) a5 (by omega) ⟨h2,ts++[⟨nm,0,[⟨#[97]⟩,⟨#[98]⟩],bd⟩],a4,⟨M5,b5,g4.p.fx F5 (by grind),λq u=>(N4 q u).2,?_,?_⟩,by simp[bB]⟩;exact F5.kq (F4.keep _ _ (by grind) C.r);intro t H;rcases dF.1 H with g|g;exact A.ht t g;simp only[cE] at g;subst g;exact⟨by simp,ax,B.hs⟩;obtain⟨th,lf,s,tx,ab,lp,aw⟩:=aa.M.mx;rcases P:Q ((k:Int)=0) with _|_;simp only[qz 131,qy 40,au,P,u0,u1,aj,aOq,↓jN,a7c,↓iB];exact X bF _ _ _ aa an (by omega);simp only[qz 131,qy 40,au,P,qb aw,aw,u0,u1,aRV,aRa,aj,aPh,↓jA,aUw];refine aXR aa.M λy bG y0 y1 bi aJ=>?_;have al:=aa.kx aJ bi (by decide) (by decide) (by decide);have F:=an.kx aJ (by decide) (by decide) (by decide) (by decide);simp only[F.p,amZ,rk,pz,a5R,a51,u0,u1];refine⟨λ_=>⟨⟨by decide,by decide⟩,?_⟩,λ_=>X bG _ _ _ al F<|by omega⟩;refine apQ F.ga al.M.le (by grind [bit]) (by grind [bit]) (by simp) (by simp;omega) λbn bH O N bj=>?_;rw[<-dg] at O;have G:=F.pa;have am:=al.fx N (λq u=>by have:=G q u;omega);have R:=N.keep _ _ (by grind) F.p;simp only[qz 42,R,u0,u1,aj];refine TB.set R O.p (by grind) (λs af=>?_) λaQ ao ap=>?_;rcases dF.1 af with g|g;exact F.hs s g;simp only[cE] at g;subst g;exact aOI (by omega) (.inl rfl) (by decide) (by decide);refine dT (by simp[eL,lb,lbV,m8,dC,dK]) ?_;exact X aQ _ _ _ (am.fx ap<|by simp) ao (by simp;omega);obtain⟨th,lf,s,tx,ab,lp,cl⟩:=S7.M.mx;rcases P:Q ((k:Int)=0) with _|_;simp only[qz 83,au,P,u0,u1,↓iB];exact az s7 _ _ _ S7 B7 (by simp);simp only[qz 83,au,P,u0,u1,↓iC];refine AI (α:=Unit) (λ_ i=>[iv i]) 0 n 1 (by omega) (λj _ Y=>∃a8 w,MPs Y (16,Z) (14,E) v1 v4 h ts a/\TB Y v8 nm a8 w/\L w+1=j) (s0:=()) (by grind) ?_;rintro j _ Y1 hj ⟨a8,w,A,B,ax⟩;simp only[qz 97,qy 24,aI,au,B.p,amZ,rk,pz,a5R,a51,bh,u0,u1,aj];refine⟨λad=>⟨⟨by omega,by have:j<n:=(by simpa using ad);simp;omega⟩,?_⟩,λad=>az Y1 _ _ _ A B<|by omega⟩;have bx:j<n:=(by grind);refine apQ B.ga A.M.le (by grind [bit]) (by grind [bit]) (by simp) (by simp;omega) λbn bH O N bj=>?_;rw[<-dg] at O;have G:=B.pa;have am:=A.fx N (λq u=>by have:=G q u;omega);have R:=N.keep _ _ (by grind) B.p;simp only[qz 26,R,u0,u1,aj];refine TB.set R O.p (by grind) (λs af=>?_) λaQ ao ap=>?_;rcases dF.1 af with g|g;exact B.hs s g;simp only[cE] at g;subst g;exact aOI (by omega) (.inl rfl) (by decide) (by decide);refine dT (by simp[eL,lb,lbV,m8,dC,dK]) ?_;simp only[au,u0,u1];exact dR (mk:=λ(_:Unit) i=>[iv i]) (s:=()) (s':=()) (λ_ _=>rfl) bx (by omega) ⟨_,_,am.fx ap (by simp),ao,by simp;omega⟩;have ha:dG Y (.a [sl w6.c aNF,a])= .a (⟨aNF,ts⟩:aQl).c:=(by simp only[dG,eR,nrm,ji,mU];have e1:gK (gi Y a)=sl aO6.c ts:=aOb S.ga;rw[e1];rfl);have aP:∀x y:AV,aN (V 2) [x,y]=V (.a [x,y]):=λ_ _=>rfl;have aM:L ts<=4:=(by omega);have aO:shP ⟨aNF,ts⟩:=⟨⟨by show L aNF<1000;decide,by grind,λt H=>by have:=(S.ht t H).1;omega⟩,aM,S.ht⟩;simp only[S.p,aQd,qh,df,aP,jM,kU,jt,ha,u0,aQV];refine⟨aO,by simp[lo,uN,yv,wD],?_⟩;simp only[oJ,pG,u0,u1];refine⟨λhc=>?_,λhc=>?_⟩;refine⟨by simp[lo,nA,uN,yv,wD],?_⟩;simp only[aV4,bQ,qz 52,jM,kU,jt,tW,Fa,aQV];refine⟨by simp[lo,nA,eB,iR],by rw[aXP rfl];trivial,?_⟩;have cp:shS 4 (NA.mk 1 0 ⟨#[120]⟩ ⟨#[]⟩ [] (lD.mk 1 1 ⟨#[]⟩ []) [] []):=aOI (λ_=>⟨.inl ⟨.inl rfl,rfl⟩,by simp[lD.l]⟩) (.inl rfl) (by decide) (by decide);have br:∀x:NA,bM bt2 brF [(0,sv [109,97,105,110]),(2, .l ([⟨#[97]⟩,⟨#[98]⟩].map cs) U U),(3, .l ([x].map NA.c) U U)]=V (.a [sv [109,97,105,110],iv 0, .l ([⟨#[97]⟩,⟨#[98]⟩].map cs) U U, .l ([x].map NA.c) U U]):=λ_=>rfl;have ay:∀(s:ae) (x:NA),aX btU 1 s [(0, .a [sv [109,97,105,110],iv 0, .l ([⟨#[97]⟩,⟨#[98]⟩].map cs) U U, .l ([x].map NA.c) U U])]=V (.l ([(⟨⟨#[109,97,105,110]⟩,0,[⟨#[97]⟩,⟨#[98]⟩],[x]⟩:aO6)].map aO6.c) U U,s):=λs x=>aQm (tgt:=(⟨⟨#[109,97,105,110]⟩,0,[⟨#[97]⟩,⟨#[98]⟩],[x]⟩:aO6).c) rfl rfl (by decide) rfl (by decide);have bs:∀t:aO6,bM aoD bmK [(0,sl w6.c aNF),(1, .l ([t].map aO6.c) U U)]=V (.a [sl w6.c aNF, .l ([t].map aO6.c) U U]):=λ_=>rfl;simp only[a50,bQ,qz 54,br,ay,aY,qz 56,qy 58,bs];refine stW S.r rfl rfl λs5 F5 b5=>?_;rw[aEa b5 rfl];refine aOv (v':= .a (⟨aNF,[⟨⟨#[109,97,105,110]⟩,0,[⟨#[97]⟩,⟨#[98]⟩],[NA.mk 1 0 ⟨#[120]⟩ ⟨#[]⟩ [] (lD.mk 1 1 ⟨#[]⟩ []) [] []]⟩]⟩:aQl).c) (Q:=λr=>∃p:aQl,r= .a p.c/\shP p/\p.bm0=aNF) rfl rfl ⟨_,rfl,⟨⟨by decide,by decide,by simp⟩,by decide,?_⟩,rfl⟩;intro t H;simp only[cE] at H;subst H;exact⟨by decide,by decide,by simp_all⟩;refine stW S.r rfl rfl λs5 F5 b5=>?_;have g5:=S.ga.fx F5 (λq u e=>by grind [MPs.pa]);simp only[b5,aQd,qh,df,aP,aY];refine aOv (v':= .a (⟨aNF,ts⟩:aQl).c) (Q:=λr=>∃p:aQl,r= .a p.c/\shP p/\p.bm0=aNF) ?_ (by simp[iX,aQl.c,eN,sl]) ⟨_,rfl,aO,rfl⟩;simp only[fzT,ji,mU,aBr g5];rfl
def aTV:FT:=om aWJ
def bbr{l Lw K}:=f111 aTV aWJ l Lw K (j:=by simp+contextual only[ij,aQZ])
theorem a64(i:aNZ):L (a6z i)<=3:=by grind [a6z]
structure RP(Y:ae)(v1 v7:Nat)(p:aQl)(w:J9)(ts:List aTo)(a:AV):Prop where
 p:box Y (1,1)=V ⟨196,2,U,U,[p.c]⟩
 c:box Y (7,v7)=V ⟨129,7,U,U,[[sl cA.c w.cells,sl dS.c w.ak,sl aOw.c w.bC,sl cs w.bU,sl cs w.ay,sl dL.c w.dU,a]]⟩
 ga:qc Y 247 2 a (ts.map aTo.c)
 pa:∀q∈aA a,q.1=110
 r:box Y (2,v1)=V ⟨129,7,U,U,[tH]⟩
 ht:∀t∈ts,L t.bid<1000000
 le:L Y=4096
theorem RP.fx{Y Y':ae}{v1 e:Nat}{p:aQl}{w:J9}{ts:List aTo}{a:AV}{Lw:List Id}(S:RP Y v1 e p w ts a)(F:Fx Y Y' Lw)(f:∀q∈Lw,q.1≠1/\q.1≠2/\q.1≠7/\q.1≠110):RP Y' v1 e p w ts a:=⟨(by grind [Fx.keep,RP.p]),(by grind [Fx.keep,RP.c]),S.ga.fx F<|λq i g=>(f q g).2.2.2<|S.pa q i,S.pa,(by grind [Fx.keep,RP.r]),S.ht,F.len.trans S.le⟩
def aXe(p:aQl)(M:shP p/\p.bm0=aNF):Ct 122 [.a p.c] (λr=>∃(c:aBY) (e l:Int),r= .t [.a c.c,iv e,iv l]/\aOc c):=by obtain⟨M,hd⟩:=M;refine aDq (bgU rfl λs2 hl b1 h0=>?_);simp only[a1t];refine ic hl λv1 s3 F3 N3 q3=>?_;have ae:=F3.len.trans hl;have b3:=F3.kq b1;have aK:bM tH [(0,6),(6,1)] []=V (.a tH):=rfl;simp only[qz 4,qy 6,qy 8,qy 10,u0,u1,b3,pz,jM,kU,jt,Fa,aQV,rr,aK];refine⟨M,trivial,λ_=>?_,λhc=>⟨⟨M,hd⟩,?_⟩⟩;refine stW q3 rfl rfl λZ W b5=>?_;have:aN (V 7) tH=V (.a tH):=rfl;simp only[b5,aQd,qh,df,this,aY];exact aOH (vs':=[.a (⟨⟨[],[],[],[],[],[]⟩,[]⟩:aBY).c,iv (chk p).1,iv (chk p).2]) (Q:=λr=>∃(c:aBY) (e l:Int),r= .t [.a c.c,iv e,iv l]/\aOc c) rfl rfl ⟨_,_,_,rfl,by simp[aOc]⟩;rintro r ⟨w,rfl,hw,R⟩;have R:=R (by grind);have aJ:bM tH [(0,6),(6,1)] [(0, .a w.c)]=V (.a [sl cA.c w.cells,sl dS.c w.ak,sl aOw.c w.bC,sl cs w.bU,sl cs w.ay,sl dL.c w.dU, .l [] U U]):=rfl;simp only[aJ,aY];refine⟨by simp[lo,nA,eB,iR,aQl.c,sl],?_⟩;refine anu ae λv7 s4 F4 N4 q4=>?_;have S4:RP s4 v1 v7 p w [] (.l [] U U):=⟨F4.kq b3,q4, .inl ⟨rfl,rfl⟩,by simp[aA],F4.kq q3,by simp,F4.len.trans ae⟩;have aU:=M.2.2;have bH:=M.2.1;refine jD (α:=Int) (λnx i=>[iv nx,iv i]) 1 (L p.ay) (λk nx Y=>0<=nx/\nx<=k*60000/\∃ts a,RP Y v1 v7 p w ts a/\L ts=k) (s0:=0) (by grind) ?_;rintro k nx Y hk ⟨bI,bK,ts,a,S,aV⟩;simp only[qz 55,aI,au,u0,u1,S.p,S.c,rk,pz,aRZ,aj,ixv,bh];refine⟨λB=>⟨u7 B,?_⟩,λB=>?_⟩;rotate_left;refine stW S.r rfl rfl λZ W b5=>?_;have g5:=S.ga.fx W (λq R e=>by grind [RP.pa]);simp only[qz 32,aEa b5 rfl,aY];refine aOH (vs':=[.a (⟨w,ts⟩:aBY).c,iv 0,iv 0]) (Q:=λr=>∃(c:aBY) (e l:Int),r= .t [.a c.c,iv e,iv l]/\aOc c) ?_ (by simp[iX,aBY.c,J9.c,eN,sl]) ⟨_,_,_,rfl,?_,S.ht⟩;have e1:fz Z a=sl aTo.c ts:=aBr g5;simp only[ji,mU,fzT,List.take_succ_cons,CE,e1];rfl;grind;have D:=aL B;have X:=aU _<|asq D;have aE:bM buZ [(0,6),(6,1),(7,1),(8,1),(9,1)] [(0, .a w.c),(1,sl cs (gd p.ay k).locs),(4,iv nx)]=V (.a [sl cA.c w.cells,sl dS.c w.ak,sl aOw.c w.bC,sl cs w.bU,sl cs w.ay,sl dL.c w.dU,sl cs (gd p.ay k).locs, .l [] U U,iv 0,iv nx]):=rfl;simp only[aE,aY];refine bxL rfl (by decide) (by rw[S.le];decide) λv Z W N5 q5=>?_;have S5:=S.fx W (by simp);have bA:k<4:=(by omega);have G5:Gn nx Z (45,v) w (gd p.ay k).locs (.l [] U U) 0:=⟨(by simp_all),⟨[], .inl ⟨rfl,rfl⟩,rfl⟩,S5.le,rfl,by simp[aA],hw,by have:=X.1;omega,R⟩;simp only[S5.p,rk,pz,ixv,u0,u1,bh];refine⟨dJ D,?_⟩;refine ba2 G5 X.2 (by omega) λa6 n6 s6 G6 bB R6=>?_;have a0:∀q∈((45,v):Id)::aA (AV.l [] U U),q.1≠1/\q.1≠2/\q.1≠7/\q.1≠110:=(by simp[aA]);have S6:=S5.fx R6.f a0;obtain⟨bW,aZ,aW,ad⟩:=G6.bx0;simp only[qz 14,qb ad,u0,u1,ad,aRV,bfx,aRa,aj];refine G6.set λs7 G7 F7=>?_;have S7:=S6.fx F7 (by simp);simp only[qz 16,bdI,aY];refine aPw G7 (by omega) λa8 s8 n8 G8 bD br R8=>?_;have a1:∀q∈((45,v):Id)::aA a6,q.1≠1/\q.1≠2/\q.1≠7/\q.1≠110:=λq R=>(by grind [Gn.sa]);have S8:=S7.fx R8.f a1;obtain⟨bX,bO,bL,P⟩:=G8.bx0;obtain⟨o,go,bF⟩:=G8.ga;obtain⟨a3,af,rfl,ap⟩:∃q m,a8= .m q (L o)/\box s8 q=V ⟨264,6,U,I,o.map aNZ.c++m⟩:=(by rcases go with⟨g,_⟩|⟨q,m,g1,g2⟩;have:o=[]:=(by simpa using g);grind;simp_all);obtain⟨q1,z⟩:=a3;obtain rfl:q1=16:=G8.sa (q1,z) (by simp[aA]);have aG:∀a:AV,(∃q n,a= .m q n)->bM bnF bmK [(0,iv<|L (gd p.ay k).locs),(1,a)]=V (.a [iv<|L (gd p.ay k).locs,a]):=(by rintro a ⟨q,n,rfl⟩;rfl);simp only[qz 18,qy 20,qb P,u0,u1,P,aRV,bfx,aRa,aj,aG _ ⟨_,_,rfl⟩];refine anu S8.le λH s9 F9 N9 q9=>?_;have S9:=S8.fx F9 (by simp);refine dT (by simp[eL,lb,m8,dC,dK,sl]) ?_;have aD:=F9.kq P;have aT:=F9.kq ap;refine yV (L o) (λ_ _ Y'=>Fx s9 Y' [(11,H)]/\∃rg:Int,box Y' (11,H)=V ⟨247,2,U,U,[[iv rg, .m (16,z)<|L o]]⟩) ⟨Fx.refl _ _,_,q9⟩ ?_;rintro j _ Y1 hj ⟨F,rg,ag⟩;have O:=F.kq aD;have E:=F.kq aT;have aR:fS Y1 (.m (16,z)<|L o)=V (iv<|L o):=(by simp[fS,E]);have ab:=S9.fx F (by simp);have a5:∀x y:AV,aN (V 2) [x,y]=V (.a [x,y]):=λ_ _=>rfl;simp only[qz 127,qy 26,aI,au,qb O,u0,u1,O,ab.c,ag,a5,aRV,bfx,aRa,aj,aR];refine⟨λB=>?_,λB=>?_⟩;have hj:=aL B;have aM:cz 6 Y1 (.m (16,z)<|L o) (iv j)=V (.p (16,z) j 0):=(by grind [cz]);have aQ:vp (V 6) Y1 (.p (16,z) j 0)=V (.a (gd o j).c):=(by have hr:(o.map aNZ.c++af)[j]?=V (aNZ.c<|gd o j):=(by grind [bT]);simp only[vp,iE,E,aQd,hr];rfl);simp only[aM,aQ,aY,jM,kU,jt,Fa,aQV];rintro r ⟨t',o',rfl⟩;refine⟨by simp[lo,nA,eB,iR,aNZ.c],?_⟩;refine yV (L<|a6z<|gd o j) (λ_ _ Y'=>Fx s9 Y' [(11,H)]/\∃rg:Int,box Y' (11,H)=V ⟨247,2,U,U,[[iv rg, .m (16,z)<|L o]]⟩) ⟨F,rg,ag⟩ ?_;rintro i _ Y2 hi ⟨aa,bR,T⟩;simp only[qz 163,aI,au,u0,u1,T,aRV,aRa,gT,tf,rk,aj,bh,aRW];refine⟨λC=>⟨dJ<|aL C,?_⟩,λC=>?_⟩;refine A0 T rfl (by simp) λY3 A ax=>?_;simp only[qz 24,au,u0,u1];exact dR (mk:=λ(_:Unit) i=>[iv i]) (s:=()) (s':=()) (λ_ _=>rfl) (aL C) (by grind [a64]) ⟨(aa.trans A).mono (by simp),_,ax⟩;exact dR (mk:=λ(_:Unit) i=>[iv i]) (s:=()) (s':=()) (λ_ _=>rfl) hj (by omega) ⟨aa,_,T⟩;have aC:qc Y1 264 6 (.m (16,z)<|L o) (o.map aNZ.c):= .inr ⟨_,af,by simp,E⟩;have aF:aX buV 1 Y1 [(0, .a [iv rg, .m (16,z)<|L o])]=V (.l ([(⟨rg,o⟩:aTo)].map aTo.c) U U,kills Y1<|eB<|.a [iv rg, .m (16,z)<|L o]):=aQm (tgt:=(⟨rg,o⟩:aTo).c) (by simp only[ji,mU,aQ5,aOb aC];rfl) rfl (by decide) rfl (by decide);have FK:=aOp (eB<|.a [iv rg, .m (16,z)<|L o]) Y1;have u:=ab.fx FK (by simp[eB,iR]);simp only[aF,bQ];have bG:=u.pa;refine apQ u.ga u.le (by grind [aTo.c]) (by grind [aTo.c]) (by simp) (by simp;omega) λaw bS N A bz=>?_;rw[<-dg] at N;have ac:=A.keep _ _ (by grind) u.c;simp only[qz 28,u0,u1,ac,aj];refine A0 ac N.p.ce (by simp) λbV G aB=>?_;simp only[qz 30,au,u0,u1];refine dR (mk:=λ(nx:Int) i=>[iv nx,iv i]) (s:=nx) (s':=aZ) (λ_ _=>rfl) D (by omega) ⟨aW.1,by omega,ts++[⟨rg,o⟩],aw,⟨?_,aB,N.p.fx G (by grind),(by grind),?_,?_,G.len.trans<|A.len.trans u.le⟩,by simp[aV]⟩;exact G.kq (A.keep _ _ (by grind) u.p);exact G.kq (A.keep _ _ (by grind) u.r);grind [RP.ht]
def aUc:FT:=om aXe
def bbW{p Lw K}:=f111 aUc aXe p Lw K (j:=by simp+contextual only[ij,ijv])
def a7C:dO:=(123,aTV)::(122,aUc)::aYc
def a7l:eJ a7C:=ve (rj aWJ)<|ve (rj aXe)<|aX5
def aWk:=ai @bbr<|ai @bbW<|@aQV
section
attribute[local irreducible] aX
def a8I:=lA 3 []
def aYR a s0 R:=(.mk _:NR a7C a8I Tryz.f59 [a] [] s0 R).p
def bge{a:AV}{R:j4}(h:H0 λs0=>aYR a s0 R):Ct 59 [a] R:=z0 a8I a7l Tryz.func59 h
end
def aWI(l:List Int)(o:(∀x∈l,0<=x/\x<256)/\L l<4611686018427387904):Ct 59 [sl cu l] (λr=>∃c:aBY,r= .a c.c/\aOc c):=by refine aDq (bge λs0 d z=>?_);simp only[aYR];refine ic d λD A f w q=>?_;simp only[qz 2,qy 4,jM,kU,jt,alg,aWk];refine⟨o,?_⟩;rintro r ⟨p,rfl,k,m⟩;refine⟨by simp[lo,nA,eB,iR,sl],?_⟩;simp only[Fa,aWk];refine⟨⟨k,m⟩,?_⟩;rintro r ⟨c,e,l',rfl,n⟩;refine⟨by simp[lo,nA,eB,iR,aQl.c,sl],?_⟩;have e0:eO 0 (.t [.a c.c,iv e,iv l'])=V (.a c.c):=rfl;have i:eO 1 (.t [.a c.c,iv e,iv l'])=V (iv e):=rfl;have j:eO 2 (.t [.a c.c,iv e,iv l'])=V (iv l'):=rfl;simp only[e0,i,j,aY];have u:=f.len.trans d;have b:L c.c=7:=rfl;refine aRA rfl b (by decide) (by omega) λE B g y s=>?_;simp only[qz 6,qy 8,aEa s b,aY];refine stW (g.kq q) rfl b λC v h=>?_;rw[aEa h b];exact aOv (v':= .a c.c) (Q:=λr=>∃c:aBY,r= .a c.c/\aOc c) rfl (by simp[iX,aBY.c,J9.c,eN,sl]) ⟨c,rfl,n⟩
def aTU:FT:=om aWI
def bbq{l Lw K}:=f111 aTU aWI l Lw K (j:=by simp+contextual only[ij,aQZ])
def a7D:dO:=(59,aTU)::a7C
def aR2:eJ a7D:=ve (rj aWI)<|a7l
def bcw:=ai @bbq<|@aWk
section
attribute[local irreducible] aX
def atZ:=lA 24 [(4,([4],[1,2,3])),(10,([5],[1,2,3])),(16,([6],[1,2,3])),(21,([],[1,2,3,6,7]))]
def IH a b R:=(.mk _:NS a7D atZ Tryz.f118 [.u] [a] b R).p
def aLs{c0:List AV}{s0:ae}{R:be}(hs:L s0=4096)(l0:L c0=6)(h:HB1 31 6 1 c0 s0 λc b=>IH c b R):EB 118 [.a c0] s0 R:=zB1 atZ aR2 Tryz.func118 hs l0 h
def IK a b R:=(.mk _:NS a7D atW Tryz.f57 [.u] [a] b R).p
def aLy{c0:List AV}{s0:ae}{R:be}(hs:L s0=4096)(l0:L c0=6)(h:HB1 31 6 1 c0 s0 λc b=>IK c b R):EB 57 [.a c0] s0 R:=zB1 atW aR2 Tryz.func57 hs l0 h
def au4:=lA 15 [(4,([22],[0,1,21])),(10,([3],[0,1,2,21,22]))]
def ajP s0 R:=(.mk _:NR a7D au4 Tryz.f54 [] [] s0 R).p
def aMx{R:j4}(h:H0 λs0=>ajP s0 R):Ct 54 [] R:=z0 au4 aR2 Tryz.func54 h
def aVb a b R:=(.mk _:NS a7D atW Tryz.f266 [.u] [a] b R).p
def bhc{c0:List AV}{s0:ae}{R:be}(hs:L s0=4096)(l0:L c0=4)(h:HB1 251 4 1 c0 s0 λc b=>aVb c b R):EB 266 [.a c0] s0 R:=zB1 atW aR2 Tryz.func266 hs l0 h
end
def mG{B:aG}{A:(aG)->Prop}(Q:aG)(b:∀a,(∀vs Y',Q vs Y'->a vs Y')->A a)(c:∀vs Y',Q vs Y'->B vs Y'):A B:=b B c
theorem a7a{α:Type}{f:Nat->List α}{k:Nat}:(aH<|k+1).flatMap f=(aH k).flatMap f++f k:=by rw[qn,List.flatMap_append];simp
def eU{α:Type}{f:Nat->List α}{c:Nat}(h:∀k,L (f k)<=c):∀n,L ((aH n).flatMap f)<=n*c
 |0=>by simp
 |n+1=>by
  have a:=eU h n
  grind [a7a]
def Dv{Y:ae}{b:Id}{T e:TypeId}{z ze j d by':Nat}{cs zs:List AV}{a:AV}{bA new:List (List AV)}{t o:Bool}{K:ae->Prop}(w:box Y b=V ⟨T,z,U,U,[cs]⟩)(O:j<L cs)(u:bc Y e ze a bA)(i:b∉aA a)(G:L zs=ze)(k:0<ze)(B:d<L Y)(E:∀r∈bA,L r=ze)(D:∀r∈new,L r=ze)(h:(L bA+L new)*(by'+1)<=1099511627776)(A:b.1≠d)(v:∀c Y',box Y' b=V ⟨T,z,U,U,[cs.set j c]⟩->bc Y' e ze c (bA++new)->Fx Y Y' (b::aA a)->(∀q∈aA c,(q∈aA a\/ig Y q)/\(q∈aA a\/q.1=d))->K Y'):eV (Gy e zs by' Y d a<|.l new t o) λx s=>rV (iQ j s<|.p b 0 0) λy=>sV (aK 1 s y x) K:=by refine gD u G k B E D h λc Y' g F N P=>?_;have f:=F.keep _ _ i w;have C:iQ j Y' (.p b 0 0)=V (.p b 0 j):=(by simp[iQ,f]);simp only[C,aY];refine cy (y:=1) (cs:=[c]) f (ms g) rfl (by omega) λn m M=>?_;have H:b∉aA c:=(by grind);refine v c n ?_ (by grind [bc.fx]) ((F.trans m).mono λq R=>?_) (by simp_all);grind [GP];grind
def qZ(n:Nat):List aoC:=(aH n).map λi=>⟨if i=0 then 1 else 0,0,I⟩
def aog{α:Type}{n:Nat}{x:α}{β:Type}{f:α->β}:(er (n+1) x).map f=(er n x).map f++[f x]:=by rw[List.replicate_succ',dg];rfl
section
variable{Y:ae}
theorem aDP{x0 x2 x5:AV}{ls fs ts:List (List AV)}{t1 o1 t3 o3 t4 o4:Bool}(hl:L Y=4096)(h1:L ls<=100)(h3:L fs<=100)(h4:L ts<=100):∃r m,(∃a1 a2 a3,r= .a [a1,iv<|-1,a2,a3]/\bc m 184 2 a1 ((er (L ls) (⟨-1,[]⟩:cg)).map cg.c)/\bc m 4 1 a2 ((er (L fs) I).map cb)/\bc m 138 3 a3 ((qZ<|L ts).map aoC.c)/\Fx Y m []/\(∀q∈aA a1,ig Y q/\q.1=20)/\(∀q∈aA a2,ig Y q/\q.1=32)/\(∀q∈aA a3,ig Y q/\q.1=49))/\cZ aS GG 118 [.a [x0, .l ls t1 o1,x2, .l fs t3 o3, .l ts t4 o4,x5]] Y r m:=by refine aLs hl rfl λs2 v1 K2 bu nf b1=>?_;have B:Fx Y s2 []:=K2.fx [];have G:L s2=4096:=B.len.trans hl;simp only[IH];refine ic G λv2 s3 Z N3 b2=>?_;have aP:L s3=4096:=Z.len.trans G;have aF:bM aNC brF [(1,iv<|-1)]=V (.a [.l [] U U,iv<|-1, .l [] U U, .l [] U U]):=rfl;simp only[qz 4,qy 6,qy 8,aF,aY];refine ic aP λn s4 F4 N4 b6=>?_;refine cy (y:=4) (cs:=[.l [] U U,iv<|-1, .l [] U U, .l [] U U]) b6 rfl rfl (by decide) λt F5 b6=>?_;have ay:box t (3,n)=V ⟨36,4,U,U,[[.l [] U U,iv<|-1, .l [] U U, .l [] U U]]⟩:=b6;have u:Fx s2 t []:=((Z.trans F4).trans F5).mono (by grind [ig.no,ig.old]);have aQ:L t=4096:=u.len.trans G;have c1:=u.kq b1;have c2:box t (2,v2)=_:=F5.kq<|F4.kq b2;have N6:ig Y (3,n):=(N4.old Z).old B;have aV:∀{Y':ae} {ks:List Id},Fx t Y' ks->((1,v1):Id)∉ks->box Y' (1,v1)=V ⟨31,6,U,U,[[x0, .l ls t1 o1,x2, .l fs t3 o3, .l ts t4 o4,x5]]⟩:=λF h=>F.keep _ _ h c1;have R:∀{x:List AV} {y:AV},aN J (y::x)=V y:=λ{x y}=>(by cases y<;>rfl);have w:∀{l:List cg},∀r∈l.map cg.c,L r=2:=qW (by intro _;rfl);have v:∀{l:List Bool},∀r∈l.map cb,L r=1:=(by grind);have alx:∀{l:List aoC},∀r∈l.map aoC.c,L r=3:=qW (by intro _;rfl);refine yV (L ls) (λk _ Y'=>∃a1,box Y' (3,n)=V ⟨36,4,U,U,[[a1,iv<|-1, .l [] U U, .l [] U U]]⟩/\bc Y' 184 2 a1 ((er k (⟨-1,[]⟩:cg)).map cg.c)/\Fx t Y' [(3,n)]/\∀q∈aA a1,ig t q/\q.1=20) ⟨_,ay,bc.nil,Fx.refl _ _,by simp[aA]⟩ ?_;rintro k _ m P ⟨a1,m1,g1,A,P1⟩;have d1:=aV A (by simp);have aO:L m=4096:=A.len.trans aQ;have aG:bM btg bmK [(0,iv<|-1)]=V (.a [iv<|-1, .l [] U U]):=rfl;have aJ:∀{Y:ae},aX buU 1 Y [(0, .a [iv<|-1, .l [] U U])]=V (.l ([(⟨-1,[]⟩:cg)].map cg.c) U U,Y):=λ{Y}=>(by simp[aX,aly,eY,nrm,gK,eR,gi,eB,iR,kills,bqL,eN,er];rfl);simp only[qz 25,qy 10,au,aI,u0,u1,d1,R,nM,J3,aj,fS,m1,aG,aJ];refine⟨λh=>?_,λh=>?_⟩;have p:=aL h;refine Dv m1 (by simp) g1 (by grind) rfl (by decide) (by omega) w w (by grind) (by simp) λE K H N g P2=>?_;simp only[qz 14,au,u0,u1];refine yU p ⟨E,H,by rw[aog];exact N,(A.trans g).mono λq e=>?_,λq e=>⟨?_,?_⟩⟩;grind [ig.no];grind [ig.old];grind;have o:k=L ls:=(by grind);subst o;clear P h;refine yV (L fs) (λk _ Y'=>∃a2,box Y' (3,n)=V ⟨36,4,U,U,[[a1,iv<|-1,a2, .l [] U U]]⟩/\bc Y' 4 1 a2 ((er k I).map cb)/\Fx m Y' [(3,n)]/\∀q∈aA a2,ig m q/\q.1=32) ⟨_,m1,bc.nil,Fx.refl _ _,by simp[aA]⟩ ?_;rintro k _ K P ⟨a2,H,N,g,P2⟩;have d2:=g.kq d1;have ah:L K=4096:=g.len.trans aO;have af:∀{Y:ae},aX BD 1 Y [(0,bv I)]=V (.l ([I].map cb) U U,Y):=λ{Y}=>iz;simp only[qz 61,qy 16,au,aI,u0,u1,d2,R,nM,J3,aj,fS,H,af];refine⟨λh=>?_,λh=>?_⟩;have p:=aL h;refine Dv H (by simp) N (by grind) rfl (by decide) (by omega) v v (by grind) (by simp) λE M S O f P3=>?_;simp only[qz 20,au,u0,u1];refine yU p ⟨E,S,by rw[aog];exact O,(g.trans f).mono λq e=>?_,λq e=>⟨?_,?_⟩⟩;grind [ig.no];grind [ig.old];grind;have o:k=L fs:=(by grind);subst o;clear P h;refine yV (L ts) (λk _ Y'=>∃a3,box Y' (3,n)=V ⟨36,4,U,U,[[a1,iv<|-1,a2,a3]]⟩/\bc Y' 138 3 a3 ((qZ k).map aoC.c)/\Fx K Y' [(3,n)]/\∀q∈aA a3,ig K q/\q.1=49) ⟨_,H,bc.nil,Fx.refl _ _,by simp[aA]⟩ ?_;rintro k _ M P ⟨a3,S,O,f,P3⟩;have d3:=f.kq d2;have ak:L M=4096:=f.len.trans ah;have aK:bM btu aon [(0,iv 0)]=V (.a<|aoC.c ⟨0,0,I⟩):=rfl;have ag:∀{Y:ae} {x:aoC},aX btP 1 Y [(0, .a<|aoC.c x)]=V (.l ([x].map aoC.c) U U,Y):=λ{Y x}=>ua rfl rfl rfl (by decide) rfl (by decide);have aU:∀{x:aoC},aN (V 3) (aoC.c x)=V (.a<|aoC.c x):=λ{x}=>rfl;have X:∀{x y x2 x3:AV},aN (V 4) [x,y,x2,x3]=V (.a [x,y,x2,x3]):=rfl;have bt:qZ (k+1)=qZ k++[⟨if k=0 then 1 else 0,0,I⟩]:=(by simp[qZ,qn]);have bs:L (qZ k)=k:=(by simp[qZ]);simp only[qz 97,qy 22,qy 34,au,aI,u0,u1,d3,R,nM,J3,aj,fS,aK];refine⟨λh=>?_,λh=>?_⟩;have p:=aL h;refine ic ak λv7 Y4 aq N7 b7=>?_;refine cy (y:=3) (cs:=aoC.c ⟨0,0,I⟩) b7 rfl rfl (by decide) λD j b7=>?_;have W:box D (7,v7)=V ⟨138,3,U,U,[aoC.c ⟨0,0,I⟩]⟩:=b7;have T:Fx M D []:=(aq.trans j).mono (by grind [ig.no]);simp only[qz 24,di];refine mG (λvs Y'=>vs=[]/\box Y' (7,v7)=V ⟨138,3,U,U,[aoC.c ⟨if k=0 then 1 else 0,0,I⟩]⟩/\Fx M Y' []) (λb hJ=>?_) ?_;simp only[qz 131,qy 26,au,u0,u1,W,aj];refine⟨λhi=>?_,λhi=>hJ [] D ⟨rfl,?_,T⟩⟩;refine cy (y:=1) (cs:=[iv 1]) W rfl rfl (by decide) λY6 F6 b8=>hJ [] Y6 ⟨rfl,?_,(T.trans F6).mono<|by simp only[dW,cE];grind [ig.no]⟩;have h0:k=0:=(by grind);rw[lC h0];exact b8;have h0:¬k=0:=(by grind);grind;rintro vs Y6 ⟨rfl,b8,C⟩;have m6:=C.kq S;have g6:=O.fx C (by simp);simp only[qz 129,qy 28,aI,u0,u1,m6,b8,R,aU,nM,J3,aj,ag];refine Dv m6 (by simp) g6 (by grind) rfl (by decide) (by grind [Fx.len]) alx alx (by grind [aO1]) (by simp) λE Y7 m7 g7 F7 P7=>?_;simp only[qz 32,au,u0,u1];refine yU p ⟨E,m7,by grind,((f.trans C).trans F7).mono λq e=>?_,λq e=>⟨?_,?_⟩⟩;simp only[dF,eW,ql,bjz] at e⊢;grind [ig.no];grind [ig.old];grind;have o:k=L ts:=(by grind);subst o;have az:=f.kq<|g.kq<|A.kq c2;simp only[S,u0,u1,X];refine cy (y:=4) (cs:=[a1,iv<|-1,a2,a3]) az rfl rfl (by decide) λD j b5=>?_;have ax:box D (2,v2)=V ⟨36,4,U,U,[[a1,iv<|-1,a2,a3]]⟩:=b5;simp only[ax,u0,u1,X,aNN,aoz];have i:∀{a:AV} {d:Nat},(∀q∈aA a,q.1=d)->d≠2->d≠3->∀q∈aA a,q∉[((2,v2):Id)]/\q∉[((3,n):Id)]:=λh h1 h2 q e=>⟨(by grind),by grind⟩;have n1:=i (λq e=>(P1 q e).2) (by decide) (by decide);have n2:=i (λq e=>(P2 q e).2) (by decide) (by decide);have n3:=i (λq e=>(P3 q e).2) (by decide) (by decide);have am:∀{q:Id},ig t q->ig Y q:=λh=>(h.old u).old B;refine⟨a1,a2,a3,rfl,((g1.fx g λq e=>(n1 q e).2).fx f λq e=>(n1 q e).2).fx j λq e=>(n1 q e).1,(N.fx f λq e=>(n2 q e).2).fx j λq e=>(n2 q e).1,O.fx j λq e=>(n3 q e).1,(((((B.trans u).trans A).trans g).trans f).trans j).mono λq e=>?_,(by grind),(by grind [ig.old]),λq e=>⟨am (by grind [ig.old]),(P3 q e).2⟩⟩;simp only[dW,dF,cE,or_self] at e;rcases e with rfl|rfl;exact .inr N6.no;exact .inr (N3.old B).no
end
def wI(n:Nat):List dL:=(aH n).flatMap λ(t:Nat)=>(aH 6).map λ(k:Nat)=>⟨(t:Int),(k:Int),10*(t:Int)+k+1⟩
def aNE:J9:=⟨[⟨⟨#[120]⟩,0,0,I,0⟩,⟨⟨#[121]⟩,0,0,I,1⟩,⟨⟨#[118]⟩,0,0,U,0⟩,⟨⟨#[113]⟩,0,2,I,0⟩,⟨⟨#[113]⟩,1,2,I,0⟩],[⟨⟨#[109]⟩,I⟩,⟨⟨#[110]⟩,I⟩,⟨⟨#[114]⟩,U⟩],[⟨⟨#[99]⟩,0⟩],[⟨#[102]⟩],[⟨#[109,97,105,110]⟩,⟨#[116,49]⟩,⟨#[116,50]⟩,⟨#[116,51]⟩],wI 4⟩
def gu(t o:Bool):List AV:=[.l (aNE.cells.map cA.c) U U, .l (aNE.ak.map dS.c) U U, .l (aNE.bC.map aOw.c) U U, .l (aNE.bU.map cs) U U, .l (aNE.ay.map cs) U U, .l (aNE.dU.map dL.c) t o]
def bdB:Ct 54 [] λr=>∃t o,r= .a (gu t o):=by
 refine aMx λs0 hl h0=>?_
 simp only[ajP]
 refine ic hl λv0 s1 F1 N1 b1=>?_
 have v:L s1=4096:=F1.len.trans hl
 have hc:∀{Y:ae},aX btQ 5 Y [(0, .a<|cA.c ⟨⟨#[120]⟩,0,0,I,0⟩),(1, .a<|cA.c ⟨⟨#[121]⟩,0,0,I,1⟩),(2, .a<|cA.c ⟨⟨#[118]⟩,0,0,U,0⟩),(3, .a<|cA.c ⟨⟨#[113]⟩,0,2,I,0⟩),(4, .a<|cA.c ⟨⟨#[113]⟩,1,2,I,0⟩)]=V (.l (aNE.cells.map cA.c) U U,Y):=λ{Y}=>rfl
 have N:bM bsR aOs [(0,sv [120])]=V (.a<|cA.c ⟨⟨#[120]⟩,0,0,I,0⟩):=rfl
 have O:bM bsR aOs [(0,sv [121]),(4,iv 1)]=V (.a<|cA.c ⟨⟨#[121]⟩,0,0,I,1⟩):=rfl
 have P:bM bsR aOs [(0,sv [118]),(3,bv U)]=V (.a<|cA.c ⟨⟨#[118]⟩,0,0,U,0⟩):=rfl
 have R:bM bsR aOs [(0,sv [113]),(2,iv 2)]=V (.a<|cA.c ⟨⟨#[113]⟩,0,2,I,0⟩):=rfl
 have S:bM bsR aOs [(0,sv [113]),(1,iv 1),(2,iv 2)]=V (.a<|cA.c ⟨⟨#[113]⟩,1,2,I,0⟩):=rfl
 simp only[qz 2,N,O,P,R,S,aY,hc,bQ]
 have aa:bM btf bmK [(0,sv [109])]=V (.a<|dS.c ⟨⟨#[109]⟩,I⟩):=rfl
 have ab:bM btf bmK [(0,sv [110])]=V (.a<|dS.c ⟨⟨#[110]⟩,I⟩):=rfl
 have ac:bM btf bmK [(0,sv [114]),(1,bv U)]=V (.a<|dS.c ⟨⟨#[114]⟩,U⟩):=rfl
 have X:∀{Y:ae},aX btR 3 Y [(0, .a<|dS.c ⟨⟨#[109]⟩,I⟩),(1, .a<|dS.c ⟨⟨#[110]⟩,I⟩),(2, .a<|dS.c ⟨⟨#[114]⟩,U⟩)]=V (.l (aNE.ak.map dS.c) U U,Y):=λ{Y}=>rfl
 simp only[qz 4,aa,ab,ac,aY,X,bQ]
 have al:bM bt0 bmK [(0,sv [99])]=V (.a<|aOw.c ⟨⟨#[99]⟩,0⟩):=rfl
 have m:∀{Y:ae},aX btS 1 Y [(0, .a<|aOw.c ⟨⟨#[99]⟩,0⟩)]=V (.l (aNE.bC.map aOw.c) U U,Y):=λ{Y}=>rfl
 have hf:∀{Y:ae},aX zd9 1 Y [(0,sv [102])]=V (.l (aNE.bU.map cs) U U,Y):=λ{Y}=>rfl
 have ht:∀{Y:ae},aX zd9 4 Y [(0,sv [109,97,105,110]),(1,sv [116,49]),(2,sv [116,50]),(3,sv [116,51])]=V (.l (aNE.ay.map cs) U U,Y):=λ{Y}=>rfl
 simp only[qz 6,al,aY,m,bQ,qz 8,hf,qz 10,ht]
 have hw:bM aRc aM7 [(0, .l (aNE.cells.map cA.c) U U),(1, .l (aNE.ak.map dS.c) U U),(2, .l (aNE.bC.map aOw.c) U U),(3, .l (aNE.bU.map cs) U U),(4, .l (aNE.ay.map cs) U U)]=V (.a [.l (aNE.cells.map cA.c) U U, .l (aNE.ak.map dS.c) U U, .l (aNE.bC.map aOw.c) U U, .l (aNE.bU.map cs) U U, .l (aNE.ay.map cs) U U, .l [] U U]):=rfl
 simp only[qz 12,qy 14,hw,aY]
 have bg:L aNE.ay=4:=rfl
 have be:∀a,a=aNE.dU->wI 4=a:=λa h=>h.symm
 generalize hA:AV.l (aNE.cells.map cA.c) U U=A
 generalize hB:AV.l (aNE.ak.map dS.c) U U=B
 generalize hC:AV.l (aNE.bC.map aOw.c) U U=C
 generalize hD:AV.l (aNE.bU.map cs) U U=D
 refine ic v λi s2 F2 N2 b2=>?_
 refine cy (y:=6) (cs:=[A,B,C,D, .l (aNE.ay.map cs) U U, .l [] U U]) b2 rfl rfl (by decide) λd F3 b3=>?_
 have u:box d (1,i)=V ⟨31,6,U,U,[[A,B,C,D, .l (aNE.ay.map cs) U U, .l [] U U]]⟩:=b3
 have n:Fx s1 d []:=(F2.trans F3).mono (by grind [ig.no])
 have c1:=n.kq b1
 have af:L d=4096:=n.len.trans v
 have k1:∀{x:List AV} {y:AV},aN J (y::x)=V y:=λ{x y}=>by cases y<;>rfl
 have w:∀{x y x2 x3 x4 x5:AV},aN (V 6) [x,y,x2,x3,x4,x5]=V (.a [x,y,x2,x3,x4,x5]):=rfl
 have ag:∀{Y:ae},fS Y (.l (aNE.ay.map cs) U U)=V (iv (4:Nat)):=λ{Y}=>rfl
 simp only[qz 16,u0,u1,u,k1,nM,J3,aj,ag]
 have alx:∀{l:List dL},∀r∈l.map dL.c,L r=3:=qW (by intro _;rfl)
 have bf:∀k,wI (k+1)=wI k++(aH 6).map λ(j:Nat)=>⟨(k:Int),(j:Int),10*(k:Int)+j+1⟩:=λk=>a7a
 have am:∀k,L (wI k)<=k*6:=λk=>eU (f:=λ(t:Nat)=>(aH 6).map λ(k:Nat)=>(⟨(t:Int),(k:Int),10*(t:Int)+k+1⟩:dL)) (c:=6) (λt=>by simp) k
 refine yV 4 (λk _ Y'=>∃a,box Y' (1,i)=V ⟨31,6,U,U,[[A,B,C,D, .l (aNE.ay.map cs) U U,a]]⟩/\bc Y' 181 3 a ((wI k).map dL.c)/\Fx d Y' [(1,i)]/\∀q∈aA a,ig d q/\q.1=40) ⟨_,u,bc.nil,Fx.refl _ _,by simp[aA]⟩ ?_
 rintro k _ Y1 X ⟨a1,m1,g1,e,P1⟩
 have aW:L Y1=4096:=e.len.trans af
 have a0:=am k
 simp only[qz 25,qy 24,au,aI,u0,u1]
 refine⟨λh=>?_,λh=>?_⟩
 ·have ah:=aL h
  refine yV 6 (λj _ Y'=>∃a,box Y' (1,i)=V ⟨31,6,U,U,[[A,B,C,D, .l (aNE.ay.map cs) U U,a]]⟩/\bc Y' 181 3 a ((wI k++(aH j).map λ(j:Nat)=>(⟨(k:Int),(j:Int),10*(k:Int)+j+1⟩:dL)).map dL.c)/\Fx d Y' [(1,i)]/\∀q∈aA a,ig d q/\q.1=40) ⟨a1,m1,by grind,e,P1⟩ ?_
  rintro j _ Y2 hj ⟨a2,E,g2,p,P2⟩
  have W:∀{Y:ae} {x:dL},aX btT 1 Y [(0, .a<|dL.c x)]=V (.l ([x].map dL.c) U U,Y):=λ{Y x}=>ua rfl rfl rfl (by decide) rfl (by decide)
  have T:∀{x y z:Int},bM bt1 aon [(0,iv x),(1,iv y),(2,iv z)]=V (.a<|dL.c ⟨x,y,z⟩):=λ{x y z}=>rfl
  simp only[qz 61,qy 18,au,aI,u0,u1,E,k1,nM,J3,aj,T,W]
  refine⟨λM=>?_,λM=>?_⟩
  ·have g:j<6:=(by grind)
   rw[show dq.wrap (dq.wrap (dq.wrap (10*(k:Int))+j)+1)=10*(k:Int)+j+1 by
    rw[eM (x:=10*(k:Int)) (by omega) (by omega),eM (x:=10*(k:Int)+j) (by omega) (by omega),eM (by omega)<|by omega]]
   refine Dv E (by simp) g2 (by grind) rfl (by decide) (by grind [Fx.len]) alx alx (by simp only[bJ,a6G,List.length_range,bZ,aO1];omega) (by simp) λa' Y3 m3 K F P3=>?_
   simp only[qz 22,au,u0,u1]
   refine yU g ⟨a',m3,by simp only[qn,dg,<-bje] at K⊢;exact K,(p.trans F).mono λq m=>?_,λq m=>⟨?_,?_⟩⟩
   ·simp only[dF,eW,ql,bjz] at m⊢
    grind [ig.no]
   ·grind [ig.old]
   grind
  ·have bd:¬(j:Int)<6:=bpF M
   have g:j=6:=by omega
   subst g
   refine yU ah ⟨a2,E,by grind,p,P2⟩
 ·have Z:k=4:=(by grind)
  subst Z
  have H:=e.kq c1
  simp only[m1,w,u0,u1]
  refine cy (y:=6) (cs:=[A,B,C,D, .l (aNE.ay.map cs) U U,a1]) H rfl rfl (by decide) λb F5 b5=>?_
  have G:box b (0,v0)=V ⟨31,6,U,U,[[A,B,C,D, .l (aNE.ay.map cs) U U,a1]]⟩:=b5
  simp only[G,w,u0,u1]
  obtain⟨t,o,q1⟩:=(g1.fx F5<|by grind).frD
  have hr:jS b [.a [A,B,C,D, .l (aNE.ay.map cs) U U,a1]]= .a (gu t o):=by
   show AV.a [dQ b A,dQ b B,dQ b C,dQ b D,dQ b<|.l (aNE.ay.map cs) U U,dQ b a1]=_
   rw[q1,<-hA,<-hB,<-hC,<-hD];rfl
  unfold aE
  rw[hr]
  exact⟨rfl,t,o,rfl⟩
def PM:Ct 54 [] (·= .a aNE.c):=by refine aDq ?_;obtain⟨r,b,d⟩:=bdB;refine⟨r,?_,d⟩;obtain⟨t,o,rfl⟩:=b;rfl
def Gf:FT:=BJ PM
def azy{Lw K}:=al2 Gf PM Lw K
def aTk{c:AV}{cs:List AV}:wn (c::cs)=aA c++wn cs:=by cases c<;>rfl
def aYg{c Y:ae}{d:Nat}{cs:List AV}{a:AV}{e:TypeId}{z:Nat}{bA:List (List AV)}(g:bc c e z a bA)(n:bA.all (λr=>r.all DU)=U)(i:d<L Y):∃h f,gU c d Y (a::cs)=(gU c d f cs).map (λp=>(h::p.1,p.2))/\bc f e z h bA/\Fx Y f []/\∀q∈aA h,ig Y q/\q.1=d:=by rcases g with⟨rfl,rfl⟩|⟨b,rfl,k⟩;exact⟨.l [] U U,Y,rfl, .inl ⟨rfl,rfl⟩,Fx.refl _ _,by simp[aA]⟩;refine⟨.m (zt Y d)<|L bA,put Y d ⟨e,z,U,I,bA⟩,?_, .inr ⟨_,rfl,be7 i⟩,kH i,λq j=>?_⟩;grind [vY,gU];simp only[aA,cE] at j;subst j;exact⟨qQ Y d,rfl⟩
def a57{Y:ae}{d:Nat}{K:be}{w:J9}(b:d<L Y)(X:L w.ak<=100)(Z:L w.bU<=100)(h4:L w.ay<=100)(G:∀a1 a2 a3 Y',bc Y' 184 2 a1 ((er (L w.ak) (⟨-1,[]⟩:cg)).map cg.c)->bc Y' 4 1 a2 ((er (L w.bU) I).map cb)->bc Y' 138 3 a3 ((qZ<|L w.ay).map aoC.c)->Fx Y Y' []->(∀q∈aA a1++(aA a2++aA a3),ig Y q/\q.1=d)->K (.a [a1,iv<|-1,a2,a3]) Y'):cN 118 [.a w.c] Y d K:=by obtain⟨r,l,⟨a1,a2,a3,rfl,g1,u,v,F,S,T,W⟩,E⟩:=aDP (Y:=eK) (x0:=sl cA.c w.cells) (x2:=sl aOw.c w.bC) (x5:=sl dL.c w.dU) (ls:=w.ak.map dS.c) (fs:=w.bU.map cs) (ts:=w.ay.map cs) (t1:=I) (o1:=I) (t3:=I) (o3:=I) (t4:=I) (o4:=I) (List.length_replicate ..) (by grind) (by grind) (by grind);simp only[bJ] at g1 u v;obtain⟨n,m,B,M,i,P⟩:=aYg (Y:=Y) (d:=d) (cs:=[iv (-1),a2,a3]) g1 (by simp[cg.c,DU,sl]) b;obtain⟨o,R,C,N,j,n2⟩:=aYg (Y:=m) (d:=d) (cs:=[a3]) u (by simp[DU,cb]) (by rw[i.len];exact b);obtain⟨t,A,D,O,k,n3⟩:=aYg (Y:=R) (d:=d) (cs:=[]) v (by simp[dV,DU,aoC.c]) (by rw[j.len,i.len];exact b);have f:[AV.a w.c].map (dG Y)=[.a w.c]:=rfl;refine .inr (.inr ⟨by rw[f];simp[iX,J9.c,eN,sl],by simp[aRI,b],[a1,iv<|-1,a2,a3],l,[n,iv<|-1,o,t],A,by rw[f];exact E,?_,?_,?_⟩);have m1:∀{a:AV},(aA a).Nodup:=λ{a}=>(by cases a<;>simp[aA]);have e0:wn [a1,iv<|-1,a2,a3]=aA a1++(aA a2++aA a3):=(by rw[aTk,aTk,aTk,aTk];show aA a1++([]++(aA a2++(aA a3++[])))=_;simp);rw[e0,xl,xl];refine⟨m1,⟨m1,m1,λx f y g e=>?_⟩,λx f y g e=>?_⟩;grind;subst e;rcases dF.1 g with g|g;grind;grind;rw[B];have:gU l d m [iv (-1),a2,a3]=(gU l d m [a2,a3]).map λp=>(iv (-1)::p.1,p.2):=rfl;rw[this,C,D];rfl;refine G n o t A ((M.fx j<|by simp).fx k<|by simp) (N.fx k<|by simp) O ((i.trans j).trans k) λq H=>?_;rcases dF.1 H with h|h;exact P q h;rcases dF.1 h with h|h;grind [ig.old];grind [ig.old]
def aH6(w:J9):sA:=⟨⟨er (L w.ak) ⟨-1,[]⟩,-1,er (L w.bU) I,qZ<|L w.ay⟩,w.cells.map (·.init),er (L w.bU) 0,er (L w.ay) 0⟩
def aWw{Y:ae}{e:TypeId}{z:Nat}{a:AV}{bA:List (List AV)}{d:Nat}(g:bc Y e z a bA)(h:∀q∈aA a,q.1=d):dK a=[]\/dK a=[d]:=by rcases g with⟨_,rfl⟩|⟨b,rfl,_⟩;exact .inl rfl;grind [aA,dK]
theorem k1m{b:Id}{n:Nat}:dK (.m b n)=[b.1]:=rfl
def k1p{b:Id}{i j:Nat}:dK (.p b i j)=[b.1]:=rfl
def k1s{v:Value}:dK (.s v)=[]:=rfl
theorem k1l{r:List (List AV)}{t o:Bool}:dK (.l r t o)=[]:=rfl
structure SnL(Y0 Y:ae)(s:sA)(a1 a2 a3 a4 a5 a6:AV):Prop where
 g1:qc Y 184 2 a1 (s.gp.ak.map cg.c)
 g2:qc Y 4 1 a2 (s.gp.done.map cb)
 g3:qc Y 138 3 a3 (s.gp.ay.map aoC.c)
 g4:qc Y 2 1 a4 (s.cells.map ci)
 g5:qc Y 2 1 a5 (s.bU.map ci)
 g6:qc Y 3 1 a6 (s.count.map ci)
 p1:∀q∈aA a1,ig Y0 q/\q.1=6
 p2:∀q∈aA a2,ig Y0 q/\q.1=6
 p3:∀q∈aA a3,ig Y0 q/\q.1=6
 p4:∀q∈aA a4,ig Y0 q/\q.1=32
 p5:∀q∈aA a5,ig Y0 q/\q.1=10
 p6:∀q∈aA a6,ig Y0 q/\q.1=14
section
variable{Y0 Y:ae}{s:sA}{a1 a2 a3 a4 a5 a6:AV}
theorem SnL.ids(h:SnL Y0 Y s a1 a2 a3 a4 a5 a6){x:Int}:∀q∈eB (.a [a1,iv x,a2,a3,a4,a5,a6]),ig Y0 q/\(q.1=6\/q.1=10\/q.1=14\/q.1=32):=by intro q b;have c:∀{a:AV},iR a=aA a:=λ{a}=>(by cases a<;>rfl);simp only[eB,Cz,RN,c,cL,dF] at b;rcases b with g|g|g|g|g|g|g;grind [SnL.p1];simp[aA] at g;grind [SnL.p2];grind [SnL.p3];grind [SnL.p4];grind [SnL.p5];grind [SnL.p6]
theorem SnL.lz(h:SnL Y0 Y s a1 a2 a3 a4 a5 a6):[a1,iv s.gp.tx,a2,a3,a4,a5,a6].map (lz Y)=s.c:=by simp only[ji,mU,aOb h.g1,aOb h.g2,aOb h.g3,aOb h.g4,aOb h.g5,aOb h.g6,aQ5];rfl
end
def aXI{Y:ae}{w:J9}(hl:L Y=4096)(h0:L w.cells<=1000)(h1:L w.ak<=100)(h3:L w.bU<=100)(h4:L w.ay<=100):∃r A,(∃a1 a2 a3 a4 a5 a6,r= .a [a1,iv<|-1,a2,a3,a4,a5,a6]/\SnL Y A (aH6 w) a1 a2 a3 a4 a5 a6/\Fx Y A [])/\cZ aS GG 57 [.a w.c] Y r A:=by refine aLy hl rfl λs2 v1 K2 bv nf b1=>?_;have E:Fx Y s2 []:=K2.fx [];have R:L s2=4096:=E.len.trans hl;simp only[IK];refine ic R λv2 s3 F N3 b2=>?_;have c1:=F.kq b1;have aC:L s3=4096:=F.len.trans R;have r6:aN (V 6) w.c=V (.a w.c):=rfl;have aM:aN J (w.c.drop 3)=V (sl cs w.bU):=rfl;have aO:aN J (w.c.drop 4)=V (sl cs w.ay):=rfl;have Z:aN J w.c=V (sl cA.c w.cells):=rfl;simp only[qz 4,u0,u1,c1,r6];refine a57 (by omega) h1 h3 h4 λa1 a2 a3 s5 g1 g2 g3 n P=>?_;have P1:∀q∈aA a1,q.1=6:=λq b=>(P q<|by simp[b]).2;have P2:∀q∈aA a2,q.1=6:=λq b=>(P q<|by simp[b]).2;have P3:∀q∈aA a3,q.1=6:=λq b=>(P q<|by simp[b]).2;have D:=n.kq c1;have an:=n.kq b2;have aD:L s5=4096:=n.len.trans aC;simp only[qz 6,u0,u1,D,aM,aj];refine AP (by decide) (by decide) (by omega) (by omega) λB s6 p5 N6 G d5=>?_;have aE:L s6=4096:=G.len.trans aD;have al:=G.kq D;simp only[qz 8,u0,u1,al,aO,aj];refine AP (by decide) (by decide) (by omega) (by omega) λC s7 p6 N7 T d6=>?_;have S:L s7=4096:=T.len.trans aE;have O:=G.trans T;have av:bM bsk anY [(0, .a [a1,iv<|-1,a2,a3]),(2, .m B<|L w.bU),(3, .m C<|L w.ay)]=V (.a [a1,iv<|-1,a2,a3, .l [] U U, .m B<|L w.bU, .m C<|L w.ay]):=rfl;simp only[qz 10,qy 12,av,aY];refine anu S λN v o N8 d9=>?_;have f:=O.trans o;have aF:L v=4096:=o.len.trans S;have am:=f.kq D;have ao:=f.kq an;have q1:=g1.fx f (by simp);have q2:=g2.fx f (by simp);have q3:=g3.fx f (by simp);have q5:=o.kq<|T.kq d5;have q6:=o.kq d6;obtain⟨bt,g⟩:=B;obtain⟨bu,i⟩:=C;simp only at p5 p6;subst p5;subst p6;simp only[qz 14];refine dT ?_ ?_;rcases aWw g1 P1 with K|K<;>rcases aWw g2 P2 with M|M<;>rcases aWw g3 P3 with e3|e3<;>simp[eL,lb,m8,dC,k1m,k1p,k1s,k1l,J9.c,sl,K,M,e3];refine yV (L w.cells) (λk _ Y'=>∃a,box Y' (3,N)=V ⟨40,7,U,U,[[a1,iv<|-1,a2,a3,a, .m (10,g)<|L w.bU, .m (14,i)<|L w.ay]]⟩/\bc Y' 2 1 a (((w.cells.take k).map (·.init)).map ci)/\Fx v Y' [(3,N)]/\∀q∈aA a,ig v q/\q.1=32) (by grind [bc,Fx.refl,aA]) ?_;rintro k _ A hk ⟨a4,m1,W,y,P4⟩;have K:=y.kq am;have aB:L A=4096:=y.len.trans aF;have aw:∀{Y:ae} {x:Int},aX yW 1 Y [(0,iv x)]=V (.l ([x].map ci) U U,Y):=λ{Y x}=>iz;simp only[qz 25,qy 16,qy 22,au,aI,u0,u1,K,Z,m1,aRV,bfx,aRa,rk,aj,ix,bh,aw];refine⟨λh=>?_,λh=>?_⟩;have t:=aL h;refine⟨dJ t,?_⟩;refine apQ W.p aB fF fF (by simp) (by simp;omega) λa' H g5 j N5=>?_;have m5:=j.keep _ _ (λb=>by have:=(P4 _ b).2;simp at this) m1;simp only[qz 18,u0,u1,m5,aj];refine A0 m5 g5.p.ce (by simp) λY6 aa C=>?_;have P5:∀q∈aA a',ig v q/\q.1=32:=(by grind [ig.old]);simp only[qz 20];refine dT (by simp[eL,lb,m8,dC,dK]) ?_;simp only[au,u0,u1];refine yU t ⟨a',C,?_,((y.trans j).trans aa).mono λq b=>?_,P5⟩;rw[iJ t,<-bT t,dg,dg];grind [bc.fx];grind [ig.no];have ax:k=L w.cells:=(by grind);subst ax;rw[gV] at W;have M:=y.kq ao;have Bi:aN (V 7) [a1,iv<|-1,a2,a3,a4, .m (10,g)<|L w.bU, .m (14,i)<|L w.ay]=V (.a [a1,iv<|-1,a2,a3,a4, .m (10,g)<|L w.bU, .m (14,i)<|L w.ay]):=rfl;simp only[Bi,aY];refine stW M rfl rfl λH j B=>?_;simp only[B,aQd,qh,df,Bi,aY];have u:Fx v H [(3,N),(2,v2)]:=y.trans j;have X:∀{a:AV} {d:Nat},(∀q∈aA a,q.1=d)->d≠2->d≠3->∀q∈aA a,q∉[((3,N):Id),((2,v2):Id)]:=(by grind);have z1:=q1.fx u (X P1 (by decide)<|by decide);have z2:=q2.fx u (X P2 (by decide)<|by decide);have z3:=q3.fx u (X P3 (by decide)<|by decide);have z4:=W.fx j (λq b e=>by have:=(P4 q b).2;simp at e;subst e;simp at this);have z5:bc H 2 1 (.m (10,g)<|L w.bU) ((er (L w.bU) (0:Int)).map ci):= .inr ⟨(10,g),by simp,by rw[u.kq q5,List.map_replicate];rfl⟩;have z6:bc H 3 1 (.m (14,i)<|L w.ay) ((er (L w.ay) (0:Int)).map ci):= .inr ⟨(14,i),by simp,by rw[u.kq q6,List.map_replicate];rfl⟩;have o3:∀{q:Id},ig s3 q->ig Y q:=λh=>(h.old F).old E;have o9:∀{q:Id},ig v q->ig Y q:=(by grind [ig.old]);have n5:ig Y (10,g):=o3<|N6.old n;have bw:ig Y (14,i):=o3<|(N7.old G).old n;refine⟨a1,a2,a3,a4,_,_,rfl,⟨z1.p,z2.p,z3.p,z4.p,z5.p,z6.p,(by grind),(by grind),(by grind),(by grind),λq h=>?_,λq h=>?_⟩,((((E.trans F).trans n).trans f).trans u).mono λq b=>?_⟩;grind [aA];grind [aA];simp only[dW,eW,ql,bjz,cL] at b;rcases b with rfl|rfl;exact .inr (o3<|(N8.old O).old n).no;exact .inr (N3.old E).no
def SlR(Y:ae)(z:Nat)(x:AV)(bA:List<|List AV):Prop:=(∃t o,x= .l bA t o)\/∃b m e,x= .m b (L bA)/\box Y b=V ⟨e,z,U,I,bA++m⟩
section
variable{Y Y':ae}{z:Nat}{x:AV}{bA:List (List AV)}
theorem SlR.fx{Lw:List Id}(h:SlR Y z x bA)(F:Fx Y Y' Lw)(a:∀q∈aA x,q∉Lw):SlR Y' z x bA:=by rcases h with h|⟨b,m,e,rfl,c⟩;exact .inl h;exact .inr ⟨b,m,e,rfl,F.keep _ _ (a b<|by simp[aA]) c⟩
theorem SlR.bx(h:SlR Y z x bA):∀q∈aA x,∃y,box Y q=V y:=by rcases h with⟨t,o,rfl⟩|⟨b,m,e,rfl,a⟩;simp[aA];grind [aA]
def SlR.of{e:TypeId}(h:qc Y e z x bA):SlR Y z x bA:=by rcases h with⟨rfl,rfl⟩|⟨b,m,rfl,a⟩;exact .inl ⟨_,_,rfl⟩;exact .inr ⟨b,m,e,rfl,a⟩
def SlR.ro(h:SlR Y z x bA):gL Y x=V bA:=by rcases h with⟨t,o,rfl⟩|⟨b,m,e,rfl,a⟩;rfl;simp[gL,a]
theorem SlR.ln(h:SlR Y z x bA):fS Y x=V (iv<|L bA):=by rcases h with⟨t,o,rfl⟩|⟨b,m,e,rfl,a⟩;rfl;simp[fS,a]
theorem SlR.ce(h:SlR Y z x bA):eY x=V [x]:=by rcases h with⟨t,o,rfl⟩|⟨b,m,e,rfl,a⟩<;>rfl
theorem SlR.ix1(h:SlR Y 1 x bA){i:Nat}{c:AV}(k:bA[i]?=V [c]){K:AV->j4}(g:∀p,p= .q [c]\/(∃b,p= .p b i 0/\b∈aA x)->K p c):rV (cz 1 Y x<|iv i) λp=>rV (vp J Y p) (K p):=by obtain⟨d,j⟩:=List.getElem?_eq_some_iff.1 k;rcases h with⟨t,o,rfl⟩|⟨b,m,e,rfl,a⟩;have:cz 1 Y (.l bA t o) (iv i)=V (.q [c]):=(by simp[cz,d,j]);rw[this];exact g _<|.inl rfl;have n:cz 1 Y (.m b<|L bA) (iv i)=V (.p b i 0):=(by simp[cz,a,d]);have f:(bA++m)[i]?=V [c]:=(by grind);have r:vp J Y (.p b i 0)=V c:=(by simp only[vp,iE,a,aQd,f];cases c<;>rfl);grind [aY,aA]
theorem apV{e:TypeId}{d by':Nat}{zs:List AV}{a:AV}{new:List (List AV)}{K:be}(f:qc Y e z a bA)(n:gL Y x=V new)(y:L zs=z)(t:0<z)(u:d<L Y)(w:∀r∈bA,L r=z)(v:∀r∈new,L r=z)(g:(L bA+L new)*(by'+1)<=1099511627776)(k:∀c Y',qc Y' e z c (bA++new)->Fx Y Y' (aA a)->(∀b∈aA c,b∈aA a\/ig Y b/\b.1=d)->K c Y'):eV (Gy e zs by' Y d a x) K:=by have j:Gy e zs by' Y d a x=Gy e zs by' Y d a (.l new U U):=(by have h:gL Y (.l new U U)=V new:=rfl;unfold Gy;rw[n,h]);rw[j];by_cases i:new=[];subst i;have:Gy e zs by' Y d a (.l [] U U)=V (a,Y):=(by unfold Gy;simp only[gL];rw[lC<|by simp];rcases f with⟨_,rfl⟩|⟨q,m,rfl,o⟩;rfl;simp[o]);rw[this];exact k a Y (by simpa using f) (Fx.refl _ _) λb g=> .inl g;grind [qs,bc.p]
end
def baG{Y:ae}{z0 a:AV}{e:TypeId}{z:Nat}{bA:List (List AV)}(g:qc Y e z a bA):aX [z0] 1 Y [(0,a)]=V (.l [[.l bA I I]] U U,kills Y<|aA a):=by rcases g with⟨rfl,rfl⟩|⟨b,m,rfl,c⟩;simp[aX,aly,eY,nrm,gK,eR,gi,eB,iR,kills,bqL,eN,aA];simp[aX,aly,eY,nrm,gK,eR,gi,eB,iR,bqL,eN,aA,c]
def SlR.keys{Y:ae}{z:Nat}{x:AV}{bA:List (List AV)}(h:SlR Y z x bA){P:Nat->Prop}(a:∀q∈aA x,P q.1):m8 x=[]\/∃p,m8 x=[p]/\P p:=by rcases h with⟨t,o,rfl⟩|⟨b,m,e,rfl,c⟩;exact .inl rfl;exact .inr ⟨b.1,rfl,a b<|by simp[aA]⟩
def a6M{Y:ae}{o ev:Int}{T x2:AV}{y7:List Int}{J6:List (List Int)}(hl:L Y=4096)(h1:SlR Y 1 T<|y7.map ci)(h2:SlR Y 1 x2<|J6.map cl)(hp:∀q∈aA T,q.1≠1/\q.1≠3)(b1:L y7<=1000)(b2:L J6<=1000)(b3:∀t∈J6,L t<=1000):
  ∃r g,(∃a1 a2,r= .a [iv o,a1,a2,iv ev]/\qc g 2 1 a1 (y7.map ci)/\qc g 38 1 a2 (J6.map cl)/\Fx Y g []/\(∀q∈aA a1,ig Y q/\q.1=12)/\∀q∈aA a2,ig Y q/\q.1=31)/\cZ aS GG 266 [.a [iv o,T,x2,iv ev]] Y r g:=by
 refine bhc hl rfl λs2 v1 K2 bc nf c1=>?_
 have A:Fx Y s2 []:=K2.fx []
 have K:L s2=4096:=A.len.trans hl
 have H1:=h1.fx A (by simp)
 have H2:=h2.fx A (by simp)
 simp only[aVb]
 refine ic K λv2 R v N3 q3=>?_
 have N:=v.kq c1
 have M:=v.len.trans K
 have F:∀{x:List AV} {y:AV},aN J (y::x)=V y:=λ{x y}=>by cases y<;>rfl
 simp only[qz 4,u0,u1,N,F,nM,J3,aj,nS]
 have H3:=H2.fx v (by simp)
 have Z:=H1.fx v (by simp)
 simp only[qz 6,u0,u1,N,F,nM,J3,aj]
 refine apV (bA:=[]) (e:=2) (z:=1) (.inl ⟨rfl,rfl⟩) Z.ro rfl (by decide) (by omega) (by simp) fF (by simp;omega) λa1 s4 E F4 P4=>?_
 simp only[dW] at E
 have a8:∀q∈aA a1,ig R q/\q.1=12:=(by grind [aA])
 have d:Fx R s4 []:=F4.mono (by simp[aA])
 have am:bM aoB brF [(0,iv o),(3,iv ev),(1,a1)]=V (.a [iv o,a1, .l [] U U,iv ev]):=by
  rcases E with⟨_,rfl⟩|⟨b,m,rfl,_⟩<;>rfl
 simp only[qz 8,qy 10,am,aY]
 refine anu (d.len.trans M) λS G w N5 q5=>?_
 have av:L G=4096:=w.len.trans<|d.len.trans M
 have c5:=w.kq<|d.kq N
 have d5:=w.kq<|d.kq q3
 have g5:=E.fx w (by simp)
 have H5:=(H3.fx d<|by simp).fx w (by simp)
 have o3:∀{q:Id},ig R q->ig Y q:=λh=>(h.old v).old A
 have o5:∀{q:Id},ig G q->ig Y q:=(by grind [ig.old])
 refine dT ?_ ?_
 ·have hk:m8 a1=[]\/m8 a1=[12]:=by
   rcases E with⟨_,rfl⟩|⟨b,m,rfl,_⟩
   ·exact .inl rfl
   grind [aA,m8,dC,dK]
  rcases hk with D|D<;>rcases h1.keys (P:=λp=>p≠1/\p≠3) hp with e2|⟨p,e2,p1,p3⟩<;>simp[eL,lb,Cz, *]<;>simp[m8,dC,dK]<;>omega
 refine yV (L J6) (λk _ Y'=>∃a2,box Y' (3,S)=V ⟨251,4,U,U,[[iv o,a1,a2,iv ev]]⟩/\qc Y' 38 1 a2 ((J6.take k).map cl)/\Fx G Y' [(3,S)]/\∀q∈aA a2,ig G q/\q.1=31) (by grind [qc,Fx.refl,aA]) ?_
 rintro k _ g hk ⟨a2,m1,g2,j,P6⟩
 have D:=j.kq c5
 have ab:ig Y (3,S):=o3<|N5.old d
 have H6:=H5.fx j (λq n e=>by
  simp only[cE] at e
  subst e
  obtain⟨y,hy⟩:=h2.bx _ n
  exact ab.no y hy)
 simp only[qz 25,qy 24,au,aI,u0,u1,D,m1,F,nM,J3,aj,H6.ln,bJ,nS]
 refine⟨λh=>?_,λh=>?_⟩
 ·have f:=aL h
  simp only[qz 14,au,u0,u1,D,F,nM,J3,aj]
  refine H6.ix1 (i:=k) (c:=sl ci<|gd J6 k) (by rw[bj9,eC f,bT f];rfl) λp bb=>?_
  have ar:L g=4096:=j.len.trans av
  have ba:=b3 _<|asq f
  refine apV (bA:=[]) (e:=3) (z:=1) (new:=(gd J6 k).map ci) (.inl ⟨rfl,rfl⟩) rfl rfl (by decide) (by omega) (by simp) fF (by simp;omega) λC s7 O F7 P7=>?_
  simp only[dW] at O
  have u:Fx g s7 []:=F7.mono (by simp[aA])
  have ac:∀q∈aA C,ig g q/\q.1=29:=(by grind [aA])
  have B:=aOp (aA C) s7
  simp only[qz 16,qy 18,baG O,bQ]
  have g8:=(g2.fx u<|by simp).fx B (by grind)
  refine qs (new:=[[.l ((gd J6 k).map ci) I I]]) g8 rfl (by decide) (by rw[B.len,u.len,ar];decide) (by intro r hr;obtain⟨y,_,rfl⟩:=dN.1 hr;rfl) (by simp) (by simp) (by simp;omega) λa9 s9 g9 X P9=>?_
  have m9:=X.keep _ _ (λn=>by have:=(P6 _ n).2;simp at this) (B.keep _ _ (λn=>by have:=(ac _ n).2;simp at this) (u.kq m1))
  simp only[qz 20,u0,u1,m9,aj]
  refine A0 m9 g9.p.ce (by simp) λbd H ad=>?_
  simp only[qz 22]
  refine dT ?_ ?_
  ·have ap:m8 C=[]\/m8 C=[29]:=by
    rcases O with⟨_,rfl⟩|⟨b,m,rfl,_⟩
    ·exact .inl rfl
    grind [aA,m8,dC,dK]
   rcases ap with e7|e7<;>simp[eL,lb,e7,Cz]<;>simp[m8,dC,dK,sl]
  simp only[au,u0,u1]
  refine yU f ⟨a9,ad,?_,((((j.trans u).trans B).trans X).trans H).mono λq n=>?_,by grind [ig.old]⟩
  ·rw[iJ f,<-bT f,dg]
   exact g9.p.fx H (by grind)
  grind [ig.no,ig.old]
 ·have ao:k=L J6:=(by grind)
  subst ao
  rw[gV] at g2
  have d6:=j.kq d5
  have uS:aN (V 4) [iv o,a1,a2,iv ev]=V (.a [iv o,a1,a2,iv ev]):=rfl
  simp only[uS,aY]
  refine stW d6 rfl rfl λs8 W b8=>?_
  simp only[b8,aQd,qh,df,uS,aY]
  refine⟨a1,a2,rfl,(g5.fx j<|by grind).fx W (by grind),(by grind [qc.fx]),(((((A.trans v).trans d).trans w).trans j).trans W).mono λq n=>?_,(by grind),by grind⟩
  grind [ig.no,ig.old]
def aR3:dO:=(54,Gf)::a7D
def aPL:eJ aR3:=ve (apM PM)<|aR2
def aPg:=ai @azy<|@bcw
section
attribute[local irreducible] aX
def a9J:=lA 25 [(4,([7],[2,3,4,6])),(12,([8,9,10],[2,3,4]))]
def aVf a b c R:=(.mk _:NS aR3 a9J Tryz.f267 [.u, .u] [a,b] c R).p
def bhf{c0:List AV}{b:List AV}{s0:ae}{R:be}(hs:L s0=4096)(l0:L c0=6)(l1:L b=4)(h:HB2 264 6 2 c0 251 4 3 b s0 λd e c=>aVf d e c R):EB 267 [.a c0, .a b] s0 R:=zB2 a9J aPL Tryz.func267 hs l0 l1 h
end
def bfq{Y:ae}{b:Id}{i j z:Nat}{e s:TypeId}{z2:Nat}{a:AV}{r:List AV}{bA d:List (List AV)}{K:ae->Prop}(h:box Y b=V ⟨e,z,U,I,bA⟩)(w:bA[i]?=V r)(x:j<L r)(g:qc Y s z2 a d)(n:b∉aA a)(u:∀Y',Fx Y Y' (aA a++[b])->box Y' b=V ⟨e,z,U,I,bA.set i<|r.set j<|.l d I I⟩->K Y'):sV (aK 1 Y (.p b i j) a) K:=by have v:nrm (eR Y a)= .l d I I:=(by rcases g with⟨rfl,rfl⟩|⟨q,m,rfl,o⟩;rfl;simp[eR,gi,o,nrm,gK]);have k:eB a=aA a:=(by rcases g with⟨rfl,rfl⟩|⟨q,m,rfl,o⟩<;>rfl);have f:=aOp (aA a) Y;have c:=f.keep b _ n h;have t:aK 1 Y (.p b i j) a=V (wr (kills Y<|aA a) b ⟨e,z,U,I,bA.set i<|r.set j<|.l d I I⟩):=(by simp only[aK,aBG,h,eE,brW,k,v,pW,c,eY,w,bZ,aO1];rw[lC ⟨trivial,by omega,λ_=>rfl⟩];grind [GP]);rw[t];exact u _ (f.trans<|wc c)<|lO c
structure TSt(Y:ae)(P:List Int->Prop)(n:Nat)(a1 a2:AV)(y7:List Int)(J6:List<|List Int):Prop where
 g1:qc Y 2 1 a1 (y7.map ci)
 g2:qc Y 38 1 a2 (J6.map cl)
 n1:L y7=n
 n2:L J6=n
 hP:∀t∈J6,P t
 p1:∀q∈aA a1,q.1=12
 p2:∀q∈aA a2,q.1=31
def aSq(Y:ae)(P:List Int->Prop)(n:Nat)(a1 b:AV)(ev:Int)(r:AV)(c:ae):Prop:=Fx Y c (aA a1++aA b)/\(r= .t [.a aoB,bv I]\/∃(e:Int) (d:Bool) (y7:List Int) (J6:List<|List Int),r= .t [.a [iv e,a1,b,iv ev],bv d]/\TSt c P n a1 b y7 J6)
theorem TSt.fx{Y Y':ae}{P:List Int->Prop}{n:Nat}{a1 b:AV}{y7:List Int}{J6:List (List Int)}(S:TSt Y P n a1 b y7 J6){Lw:List Id}(F:Fx Y Y' Lw)(c:∀q∈Lw,q.1≠12/\q.1≠31):TSt Y' P n a1 b y7 J6:=⟨S.g1.fx F λq a e=>(c q e).1<|S.p1 q a,S.g2.fx F λq a e=>(c q e).2<|S.p2 q a,S.n1,S.n2,S.hP,S.p1,S.p2⟩
def bdr{Y:ae}{P:List Int->Prop}{n:Nat}{i:aNZ}{pc ev:Int}{a1 D:AV}{y7:List Int}{J6:List (List Int)}(hl:L Y=4096)(S:TSt Y P n a1 D y7 J6)(bU:1<=i.op/\i.op<=5)(hn:n<=1000)(ba:P [])(bc:∀a b,P a->P b->P (mP a b))(bb:∀a,P a->L a<=1000):∃r A,aSq Y P n a1 D ev r A/\cZ aS GG 267 [.a i.c, .a [iv pc,a1,D,iv ev]] Y r A:=by refine bhf hl rfl rfl λs4 v2 v3 K4 bW nf2 bX c2 c3=>?_;have F4:Fx Y s4 []:=K4.fx [];have bl:=F4.len.trans hl;simp only[aVf];refine ic bl λv5 s5 F5 N5 c5=>?_;have d2:=F5.kq c2;have F:=F5.kq c3;simp only[qz 6,u0,u1,d2,pz,jM,kU,jt,Fa,aPg];rintro r ⟨t',o',rfl⟩;refine⟨by simp[lo,nA,eB,iR,aNZ.c],?_⟩;refine yV (L<|a6z i) (λk _ Y'=>Y'=s5/\∀j,j<k->aF n (gd (a6z i) j)) ⟨rfl,by simp⟩ ?_;rintro k _ A hk ⟨rfl,hc⟩;have w:=(S.fx F4<|by simp).fx F5 (by simp);have X:∀{x:List AV} {y:AV},aN J (y::x)=V y:=λ{x y}=>(by cases y<;>rfl);have N:Fx Y A []:=F4.trans F5;have hz:bM aoB brF []=V (.a aoB):=rfl;have az:∀{Y':ae},qc Y' 2 1 a1 (y7.map ci)->fS Y' a1=V (iv n):=λg=>(by rw[g.ln,bJ,S.n1]);have af:∀M:Bool,sV (aK 4 A (.p (4,v5) 0 0)<|.a aoB) λs=>rV (vp (V 4) s<|.p (4,v5) 0 0) λt=>aNN (aSq Y P n a1 D ev) s [t,bv I]:=λM=>(by refine stW c5 rfl rfl λs6 F6 b6=>?_;rw[aEa b6 rfl];exact⟨(N.trans F6).mono (by grind [ig.no,ig.old]), .inl rfl⟩);have bi:∀x:Int,(Q (x<0)||Q (x>=(n:Int)))=I->aF n x:=λx H=>(by simp only[cP,aNK] at H;exact⟨by omega,by omega⟩);rcases Decidable.em (k<L (a6z i)) with B|B;have hd:Q ((k:Int)<(L (a6z i):Int))=U:=(by grind);rcases h1:Q (gd (a6z i) k<0) with _|_;rcases h2:Q (gd (a6z i) k>=(n:Int)) with _|_;simp only[qz 25,qy 8,au,aI,gT,tf,rk,pz,bh,hd,h1,h2,u0,u1,F,X,aj,az w.g1,↓jA,a7c,↓iC,↓iB];refine⟨dJ B,dJ B,dR (mk:=λ(_:Unit) i=>[iv i]) (s:=()) (s':=()) (λ_ _=>rfl) B (by grind [a64]) ⟨rfl,a6p hc<|bi _ ?_⟩⟩;simp_all;simp only[qz 25,qy 8,au,aI,gT,tf,rk,pz,bh,hd,h1,h2,u0,u1,F,X,aj,az w.g1,↓jA,a7c,↓iC,hz];exact⟨dJ B,dJ B,af I⟩;simp only[qz 25,qy 8,au,aI,gT,tf,rk,pz,bh,hd,h1,u0,u1,F,X,aj,↓jN,aUw,↓iC,hz];exact⟨dJ B,af I⟩;(focus have hd:Q ((k:Int)<(L (a6z i):Int))=I:=(by simp;omega);simp only[qz 25,qy 8,au,aI,gT,hd,↓iB,u0,u1];have bj:k=L (a6z i):=(by omega);subst bj;have f:∀r∈a6z i,aF n r:=λr hr=>(by obtain⟨j,hj,rfl⟩:=ou hr;grind [bT]);have ho:i.op=1\/i.op=2\/i.op=3\/i.op=4\/i.op=5:=(by omega);refine bsK (λd=>∀(v:Int) (M:Bool) (tx:AV) (t:List Int),(∃t' o',tx= .l (t.map ci) t' o')->P t->aF n i.a->d [iv v,bv M,tx] A) ?_ λd C=>?_;rintro v M tx t ⟨t',o',rfl⟩ G ay;obtain⟨m,hm⟩:∃m:Nat,i.a=m:=⟨i.a.toNat,by have:=ay.1;omega⟩;have aC:m<n:=(by have:=ay.2;omega);have bS:m<L y7:=(by rw[w.n1];exact aC);have aB:m<L J6:=(by rw[w.n2];exact aC);have bV:=bb _ G;simp only[qz 75,qy 14,aI,au,u0,u1,d2,F,pz,X,aj,nS,hm];refine apV (bA:=[]) (e:=3) (z:=1) (new:=t.map ci) (.inl ⟨rfl,rfl⟩) rfl rfl (by decide) (by grind [Fx.len]) (by simp) fF (by simp;omega) λa7 s7 g7 F7 P7=>?_;simp only[dW] at g7;have O:Fx A s7 []:=F7.mono (by simp[aA]);have aQ:∀q∈aA a7,ig A q/\q.1=125:=(by grind [aA]);have W:=w.fx O (by simp);have aZ:=O.kq F;have a3:=O.kq c5;simp only[qz 16,au];refine ixG W.g1 (by grind [dJ]) λb1 m1 bd bf=>?_;rw[bh];have bo:b1.1=12:=W.p1 b1 (by grind [aA]);refine aQz (x:=iv v) (r:=[iv<|gd y7 m]) bf (by simp_all [xe,bT]) (by simp) rfl rfl rfl λs8 F8 b8=>?_;have aL:(y7.map ci++m1).set m ([iv<|gd y7 m].set 0<|nrm<|eR s7<|iv v)=(y7.set m v).map ci++m1:=(by rw[List.set_append_left _ _ (by grind),vB];rfl);rw[aL] at b8;have e1:qc s8 2 1 a1 ((y7.set m v).map ci):= .inr ⟨b1,m1,by rw[bd];simp,b8⟩;have e2:=W.g2.fx F8 (by grind [TSt.p2]);have e7:=g7.fx F8 (by grind);have Z:∀{q:Id},q.1≠12->q∉[b1]:=(by grind);have a0:=F8.keep _ _ (Z<|by simp) aZ;have a4:=F8.keep _ _ (Z<|by simp) a3;simp only[qz 18];refine ixG e2 (by grind [dJ]) λb2 m2 be bg=>?_;rw[bh];have bY:b2.1=31:=W.p2 b2 (by grind [aA]);refine bfq (r:=[sl ci<|gd J6 m]) bg (by rw[xe (by grind),bj9,eC aB,bT aB];rfl) (by simp) e7 (by grind) λs9 F9 b9=>?_;have ar:(J6.map cl++m2).set m ([sl ci<|gd J6 m].set 0<|.l (t.map ci) I I)=(J6.set m t).map cl++m2:=(by rw[List.set_append_left _ _ (by grind),vB];rfl);rw[ar] at b9;have n2:∀{q:Id},q.1≠125->q.1≠31->q∉aA a7++[b2]:=λh h' e=>(by rcases dF.1 e with e|e;grind;grind);have S9:TSt s9 P n a1 D (y7.set m v) (J6.set m t):=⟨e1.fx F9<|λq o=>n2 (by grind [TSt.p1])<|by grind [TSt.p1], .inr ⟨b2,m2,by rw[be];simp,b9⟩,by simp[w.n1],by simp[w.n2],(by grind [TSt.hP]),W.p1,W.p2⟩;have ax:=F9.keep _ _ (n2 (by simp)<|by simp) a0;have a5:=F9.keep _ _ (by grind) a4;simp only[qz 20];refine dT ?_ ?_;simp only[au,nr];simp[eL,lb,m8,dC,dK,bo];simp only[u0,u1,ax,X,J3,aj];refine A0 ax rfl (by simp) λbp aa aT=>?_;have E:∃al,box bp (3,v3)=V ⟨251,4,U,U,[[iv al,a1,D,iv ev]]⟩:=⟨_,aT⟩;obtain⟨al,E⟩:=E;simp only[qz 22,qy 24,aEa E rfl,aY,ck];refine stW (aa.kq a5) rfl rfl λb0 aw aU=>?_;rw[aEa aU rfl];refine⟨(((((N.trans O).trans F8).trans F9).trans aa).trans aw).mono λq o=>?_, .inr ⟨al,M,_,_,rfl,(S9.fx aa<|by simp).fx aw<|by simp⟩⟩;simp only[dW,cL,dF,cE] at o;rcases o with((o|o|o)|o)|o;grind [aA];exact .inr ((aQ q o).1.old N).no;grind [aA];grind;subst o;exact .inr (N5.old F4).no;have R:∀{x:Int} {K:AV->j4},aF n x->(∀p y,K p<|iv y)->rV (cz 1 A a1<|iv x) λp=>rV (vp J A p) (K p):=λ{x K} H hK=>(by obtain⟨m,rfl⟩:∃m:Nat,x=m:=⟨x.toNat,by have:=H.1;omega⟩;have hm:m<L y7:=(by have:=H.2;have:=w.n1;omega);exact(SlR.of w.g1).ix1 (i:=m) (c:=iv<|gd y7 m) (by grind [bT]) λp _=>hK p _);have T:∀{x:Int} {K:AV->j4},aF n x->(∀p t,P t->K p (sl ci t))->rV (cz 1 A D<|iv x) λp=>rV (vp J A p) (K p):=λ{x K} H hK=>(by obtain⟨m,rfl⟩:∃m:Nat,x=m:=⟨x.toNat,by have:=H.1;omega⟩;have hm:m<L J6:=(by have:=H.2;have:=w.n2;omega);exact(SlR.of w.g2).ix1 (i:=m) (c:=sl ci<|gd J6 m) (by rw[bj9,eC hm,bT hm];rfl)<|by grind [TSt.hP,asq]);rcases ho with h|h|h|h|h;(all_goals simp only[qz 77,h,brp,bq0,Int.reduceEq,u0,u1,d2,F,pz,X,aj,↓iC,↓iB,jM,kU,jt,tW,aPg,rr,GL]);exact C _ _ _ [] ⟨_,_,rfl⟩ ba (by grind [a6z]);refine R (f _<|by simp[a6z,h]) λp y=>T (f _<|by simp[a6z,h]) λp t G=>C _ _ _ t ⟨_,_,rfl⟩ G (f _<|by simp[a6z,h]);intro x;refine R (f _<|by simp[a6z,h]) λp y=>?_;simp only[tW,aPg];rintro r ⟨u,M,rfl⟩;refine⟨by simp[lo,nA,eB,iR],?_⟩;simp only[oJ,pG,u0];exact T (f _<|by simp[a6z,h]) λp t G=>C _ _ _ t ⟨_,_,rfl⟩ G (f _<|by simp[a6z,h]);intro x;refine R (f _<|by simp[a6z,h]) λp y=>R (f _<|by simp[a6z,h]) λp y'=>?_;simp only[tW,aPg];rintro r ⟨u,M,rfl⟩;refine⟨by simp[lo,nA,eB,iR],?_⟩;simp only[oJ,pG,u0];refine T (f _<|by simp[a6z,h]) λp t G=>T (f _<|by simp[a6z,h]) λp t2 bm=>?_;simp only[alg,aPg];refine⟨by grind,?_⟩;rintro r ⟨t',o',rfl⟩;exact⟨by simp[lo,nA,eB,iR,sl],C _ _ _ (mP t t2) ⟨_,_,rfl⟩ (bc _ _ G bm)<|f _<|by simp[a6z,h]⟩;refine A0 F rfl (by simp) λs6 F6 b6=>?_;have aV:box s6 (3,v3)=V ⟨251,4,U,U,[[iv i.a,a1,D,iv ev]]⟩:=b6;simp only[qz 10,qy 12,aEa aV rfl,aY];refine stW (F6.kq c5) rfl rfl λs7 F7 b7=>?_;rw[aEa b7 rfl];refine⟨((N.trans F6).trans F7).mono λq o=>?_, .inr ⟨i.a,U,y7,J6,rfl,(w.fx F6<|by simp).fx F7<|by simp⟩⟩;simp only[dW,dF,cE] at o;rcases o with rfl|rfl;simp_all;exact .inr (N5.old F4).no)
def a7E:dO:=aR3
def a7m:eJ a7E:=aPL
def aTd:=@aPg
section
attribute[local irreducible] aX
def a9H:=lA 26 [(7,([6],[2,3,4]))]
def aVc a b c R:=(.mk _:NS a7E a9H Tryz.f235 [.u, .u] [a,b] c R).p
def bhd{c0:List AV}{b:List AV}{s0:ae}{R:be}(hs:L s0=4096)(l0:L c0=2)(l1:L b=4)(h:HB2 247 2 2 c0 251 4 3 b s0 λd e c=>aVc d e c R):EB 235 [.a c0, .a b] s0 R:=zB2 a9H a7m Tryz.func235 hs l0 l1 h
end
def aOo(Y:ae):AV->AV| .t vs=> .t (vs.map λx=>nrm<|eR Y x)|x=>nrm<|eR Y x
def aNW:AV->List Id| .t vs=>vs.flatMap eB|x=>eB x
def bcr{P:Program}{κ:vg}{w:World}{Y:ae}{β:Id->Nat}{v:Value}{x:AV}(s:Iy P κ w Y β)(h:ba κ w Y β v x):ba κ w (kills Y<|aNW x) β v (aOo Y x):=by cases x with|t vs=>(cases h with|t g h=>refine .t (by grind) λi v c f a=>?_;rw[bj9] at a;cases e:vs[i]? with|none=>simp_all|some y=>rw[e] at a;simp only[df,bE] at a;subst a;exact yo<|xK s (h i v y f e) λb d=>List.mem_flatMap.2 ⟨y,List.mem_of_getElem? e,d⟩)|_=>exact yo (xK s h λb d=>d)
def cZ.frz{P:Program}{G:zp}{fn:FuncId}{xs:List AV}{Y a:ae}{r:AV}(h:cZ P G fn xs Y r a):cZ P G fn xs Y (aOo a r) (kills a<|aNW r):=by refine⟨h.1,λκ w β c s g f=>(h.2 κ w β c s g f).mono ?_⟩;rintro e k ⟨v,d,rfl,i,b,j⟩;exact⟨v,d,rfl,bcr b i,(btl _ b).2.1,j.trans (btl _ b).1⟩
def aQR{P:Program}{G:zp}{fn:FuncId}{xs:List AV}{Y:ae}{R Q:be}(h:∃r a,R r a/\cZ P G fn xs Y r a)(d:∀r a,R r a->Q (aOo a r) (kills a<|aNW r)):∃r a,Q r a/\cZ P G fn xs Y r a:=by obtain⟨r,a,b,c⟩:=h;exact⟨_,_,d r a b,c.frz⟩
def a6r{Y:ae}{e:TypeId}{z:Nat}{a:AV}{bA:List (List AV)}(g:qc Y e z a bA):gK (gi Y a)= .l bA I I:=aOb g
def aQX{Y:ae}{e:TypeId}{z:Nat}{a:AV}{bA:List (List AV)}(g:qc Y e z a bA):iR a=aA a:=by rcases g with⟨_,rfl⟩|⟨b,m,rfl,_⟩<;>rfl
end Go.Ab
