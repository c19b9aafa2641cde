/- Part of the proof of EncodeGoals. -/
import Derived.Test.YtcceijpmabdflaaGreatDoorE
set_option linter.all false
set_option maxRecDepth 100000
open And renaming intro->ai
open Bool renaming and_eq_true->bN,false->I,false_eq_true->eE,not_eq_false'->fK,or_eq_false_iff->cP,or_true->wY,true->U
open Decidable renaming decide->Q,not_not->aNS
open Go.IntKind renaming i64->dq
open Go.Proofs.Tryz renaming prog->aS
open Int renaming toNat_natCast->bh
open List renaming all_eq_true->dV,append_nil->cL,cons_append->zn,drop_succ_cons->nM,drop_zero->ip,ext_getElem?->aqI,flatMap_cons->Cz,flatMap_nil->RN,getElem?_append_left->xe,getElem?_cons_zero->qh,getElem?_eq_getElem->eC,getElem?_map->bkb,getElem_of_mem->ou,length->L,length_append->a6G,length_cons->bZ,length_map->bJ,length_nil->aO6,map_append->dg,map_cons->ji,map_map->vA,map_nil->mU,map_set->vB,mem_append->dF,mem_cons->eW,mem_filter->jW,mem_map->dN,mem_map_of_mem->CA,mem_or_eq_of_mem_set->CC,mem_singleton->cE,nil_append->dW,nodup_append->xl,not_mem_nil->ql,range->aH,range_succ->qn,replicate->er,set_cons_zero->RY,set_eq_take_append_cons_drop->GP,take_length->gV,take_of_length_le->oB,take_succ_eq_append_getElem->iJ,take_zero->CE
open Nat renaming eq_zero_or_pos->oD,le_refl->dA,lt_or_ge->jj,mul_le_mul_right->qo,zero_add->aj
open Ne renaming symm->Sa
open Option renaming bind_some->aPy,map_some->df,none->J,some->V
namespace Go.Ab
open Go Go.RowKit Go.Proofs Go.Proofs.Tryz
structure Tp(Y:ae)(b:Id)(l:d0)(at':Nat):Prop where
 bx:box Y b=V ⟨117,2,U,U,[[sl cu l,iv at']]⟩
 le:at'<=L l
 ok:∀x∈l,0<=x/\x<256
 ll:L l<4611686018427387904
theorem Tp.fx{Y Y' b l a ks}(T:Tp Y b l a)(F:Fx Y Y' ks)(h:b∉ks):Tp Y' b l a:=⟨F.keep _ _ h T.bx,T.le,T.ok,T.ll⟩
def a6S{Y l}:fS Y (sl cu l)=V (iv<|L l):=cT
def aWF{Y b l}{a:Nat}(q:L Y=4096)(T:Tp Y b l a)(n:Int):∃r Y1,(∃(x:Int) (f:Nat),r=iv x/\0<=x/\(1<=n->x<n)/\Tp Y1 b l f/\a<=f/\(a<L l->1<=n->f=a+1)/\Fx Y Y1 [b])/\cZ aS GG 115 [.p b 0 0,iv n] Y r Y1:=by refine bgg q ?_;have i:=T.bx;have u:=T.ll;simp+contextual only[nlP i,eS,i,aRf,bhZ,aQ6];refine⟨λh=>?_,λh=>?_⟩;refine⟨0,a,rfl,by omega,λh=>by omega,T,by omega,λh1 h2=>?_,Fx.refl _ _⟩;grind;simp only[cP,aNK] at h;have c:a<L l:=(by omega);rw[fX<|by omega];refine stC i rfl (by simp) λY1 j g=>?_;have s:=T.ok _<|dB c;simp only[qz 2,nlP g,eS,g,aRf,bhZ,aQ6,List.set_cons_succ,RY,a6E,cu,qM,aS6,aPR,aP1];have k:dq.wrap (((a+1:Nat):Int)-1)=(a:Int):=(by grind [eM]);rw[k,bh,eM (x:=gd l a) (by omega)<|by omega];refine⟨dJ c,by omega,_,a+1,rfl,Int.tmod_nonneg _ s.1,λh1=>Int.tmod_lt_of_pos _ (by omega),⟨g,c,T.ok,T.ll⟩,by omega,λ_ _=>rfl,j⟩
def a55{Y b l}{a:Nat}(f:L Y=4096)(T:Tp Y b l a){n:Int}{d:Nat}{K}(g:∀(x:Int) (c:Nat) Y1,0<=x->(1<=n->x<n)->Tp Y1 b l c->a<=c->(a<L l->1<=n->c=a+1)->Fx Y Y1 [b]->K (iv x) Y1):cB 115 [.p b 0 0,iv n] Y d K:=by refine jH rfl (aWF f T n) ?_;grind [Fx.len]
structure Mak(Y:ae)(m b:Id)(hs:List ByteArray)(h:AV):Prop where
 mx:∃(th lf:Int) (s tx at' lp:Bool),box Y m=V ⟨268,8,U,U,[[.p b 0 0,iv th,iv lf,bv s,bv tx,bv at',bv lp,h]]⟩
 tp:∃l a,Tp Y b l a
 gh:sA Y 9 1 h (hs.map cs)
 le:L Y=4096
 sm:m.1=16
 sb:b.1=14
 sh:∀q∈aA h,q.1=15
section
variable{Y Y':ae}{m b:Id}{hs:List ByteArray}{h:AV}{d:Nat}{K:be}
theorem Mak.ne(M:Mak Y m b hs h):m≠b:=(by grind [Mak.sm,Mak.sb])
theorem Mak.fx{ks}(M:Mak Y m b hs h)(F:Fx Y Y' ks)(h1:m∉ks)(h2:b∉ks)(c:∀q∈aA h,q∉ks):Mak Y' m b hs h:=by obtain⟨k,i,s,tx,f,j,g⟩:=M.mx;obtain⟨l,a,T⟩:=M.tp;exact⟨(by grind [Fx.keep]),⟨l,a,T.fx F h2⟩,M.gh.fx F c,F.len.trans M.le,M.sm,M.sb,M.sh⟩
theorem Mak.fx0(M:Mak Y m b hs h)(F:Fx Y Y' []):Mak Y' m b hs h:=(by grind [Mak.fx])
theorem Mak.nb(M:Mak Y m b hs h):∀q∈aA h,q∉[b]:=(by grind [Mak.sh,Mak.sb])
theorem Mak.nm(M:Mak Y m b hs h):∀q∈aA h,q∉[m]:=(by grind [Mak.sh,Mak.sm])
theorem aO4(M:Mak Y m b hs h){n}(g:∀(x) Y1,0<=x->(1<=n->x<n)->Mak Y1 m b hs h->Fx Y Y1 [b]->K (iv x) Y1):cB 115 [.p b 0 0,iv n] Y d K:=by obtain⟨r,k,s,tx,i,q,j⟩:=M.mx;obtain⟨l,a,T⟩:=M.tp;refine a55 M.le T λx c Y1 h1 h2 f _ _ F=>g x Y1 h1 h2 ⟨(by grind [Fx.keep,Mak.ne]),⟨l,c,f⟩,M.gh.fx F M.nb,F.len.trans M.le,M.sm,M.sb,M.sh⟩ F
theorem aPJ(M:Mak Y m b hs h){j x K}(c:(j=1\/j=2)/\(∃n:Int,x=iv n)\/(3<=j/\j<=6)/\∃u:Bool,x=bv u)(f:∀Y1,Mak Y1 m b hs h->Fx Y Y1 [m]->K Y1):sV (aK 1 Y (.p m 0 j) x) K:=by obtain⟨w,r,s,tx,k,v,g⟩:=M.mx;obtain⟨l,a,T⟩:=M.tp;have i:eY x=V [x]:=(by rcases c with⟨_,n,rfl⟩|⟨_,u,rfl⟩<;>rfl);refine stC g i (by simp;omega) λY1 F q=>f Y1 ⟨?_,⟨l,a,T.fx F<|by simpa using M.ne.symm⟩,M.gh.fx F M.nm,F.len.trans M.le,M.sm,M.sb,M.sh⟩ F;rcases c with⟨h1|h1,n,rfl⟩|⟨h1,u,rfl⟩;simp_all;simp_all;obtain rfl|rfl|rfl|rfl:j=3\/j=4\/j=5\/j=6:=(by omega);simp_all;simp_all;simp_all;simp_all
def bdh(M:Mak Y m b hs h)(g:L hs<1000)(s):∃r Y1,((∃v,r= .s v/\∃u:Bool,v= .bool u)/\Fx Y Y1 [])/\cZ aS GG 281 [.p m 0 0,st s] Y r Y1:=by refine bgo M.le ?_;obtain⟨k,i,s,tx,f,j,a⟩:=M.mx;have c:dG Y h=sl cs hs:=M.gh.ar;simp only[nlP a,eS,a,aRf,bhZ,aQ6,jM,kU,jt,c,tW,aD6,AL,aNG];exact⟨by omega,⟨_,rfl,_,rfl⟩,Fx.refl _ _⟩
theorem aQP(M:Mak Y m b hs h)(a:L hs<1000){s}(c:∀u,K (bv u) Y):cB 281 [.p m 0 0,st s] Y d K:=aV6 rfl (bdh M a s) (by simp_all)
def isE(k:Nat)(r:AV):Prop:=∃(e:u7) (t o:Bool),shE k e/\r= .a [iv e.op,iv e.n,st e.name, .l (e.l.map u7.c) t o]
theorem isE.mono{k n r}(h:isE k r)(a:k<=n):isE n r:=by obtain⟨e,t,o,h1,h2⟩:=h;exact⟨e,t,o,h1.mono a,h2⟩
def ExR(Y:ae)(m b:Id)(hs:List ByteArray)(h:AV)(k:Nat)(r:AV)(Y1:ae):Prop:=isE k r/\Mak Y1 m b hs h/\Fx Y Y1 [b]
theorem aTx{q T}{z:Nat}{r cs R}(f:box Y q=V ⟨T,z,U,U,[r]⟩)(i:L r=z)(g:L cs=z)(c:∀Y1,Fx Y Y1 [q]->R (.a cs) Y1):sV (aK z Y (.p q 0 0)<|.a cs) λs=>rV (Iy (V z) s<|.p q 0 0) λt=>aNR R s [t]:=by refine stW f i g λY1 F j=>?_;have:Iy (V z) Y1 (.p q 0 0)=V (.a cs):=(by grind [Iy,iE,aN]);rw[this];exact c Y1 F
def baK{Y}:aX zd9 7 Y [(0,sv [97]),(1,sv [98]),(2,sv [120]),(3,sv [121]),(4,sv [118]),(5,sv [120]),(6,sv [121])]=V (.l ([⟨#[97]⟩,⟨#[98]⟩,⟨#[120]⟩,⟨#[121]⟩,⟨#[118]⟩,⟨#[120]⟩,⟨#[121]⟩].map cs) U U,Y):=by kernel_rfl
def baN{Y}:aX bH 6 Y [(0,iv 6),(1,iv 7),(2,iv 8),(3,iv 11),(4,iv 13),(5,iv 17)]=V (.l ([6,7,8,11,13,17].map ci) U U,Y):=by kernel_rfl
def aSY{e:u7}{t o}:dG Y (.a [iv e.op,iv e.n,st e.name, .l (e.l.map u7.c) t o])= .a e.c:=by rw[aoH];rfl
theorem aXO{x c d r}(h:eB (.a c)=[])(f:eB (.a d)=[]):lo Y [.s x, .a c, .a d] r=True:=by have e:eB (.s x)=[]:=rfl;grind [lo,nA]
def aXP{x c r}(h:eB (.a c)=[]):lo Y [.s x, .a c] r=True:=by have e:eB (.s x)=[]:=rfl;simp[lo,nA,h,e]
def a6T{x r}:lo Y [.s x] r=True:=by simp[lo,nA,eB,iR]
def aWC{k e}(h:shE k e):isE k (.a e.c):=⟨e,I,I,h,by rw[aoH];rfl⟩
theorem a6K{n}(hn:n<=1)(ih:n=1->∀{Y},Mak Y m b hs h->∃r Y1,ExR Y m b hs h 1 r Y1/\cZ aS GG 278 [.p m 0 0,iv 0] Y r Y1)(M:Mak Y m b hs h):
  ∃r Y1,ExR Y m b hs h (n+1) r Y1/\cZ aS GG 278 [.p m 0 0,iv n] Y r Y1:=by
 obtain⟨m1,F⟩:=m
 obtain rfl:m1=16:=M.sm
 obtain⟨b1,z⟩:=b
 obtain rfl:b1=14:=M.sb
 refine bgm M.le ?_
 refine I7 M.le λv s1 R N1 q1=>?_
 simp only[qz 2,baK,bQ]
 have W:=M.fx0 R
 obtain⟨th,lf,s,tx,X,lp,N⟩:=W.mx
 simp only[qz 4,nlP N,eS,N,aRf,aQ6]
 refine aO4 W λx s2 h1 h2 D S=>?_
 have h2:=h2 (by decide)
 obtain⟨th,lf,s,tx,X,lp,C⟩:=D.mx
 have H:=S.kq q1
 have G:Fx Y s2 [(14,z)]:=(R.trans S).mono (by simp)
 have B:∀{g k:ae} {r:AV},isE (n+1) r->Mak g (16,F) (14,z) hs h->Fx Y g [(14,z)]->Fx g k [(4,v)]->ExR Y (16,F) (14,z) hs h (n+1) r k:=λE j f i=>
  ⟨E,j.fx i (by simp) (by simp) (λq hq e=>by grind [Mak.sh]),(f.trans i).mono<|by grind [bK.no]⟩
 have P:∀{g:ae} {d:Nat} {K:be},n=1->Mak g (16,F) (14,z) hs h->(∀r k,isE 1 r->Mak k (16,F) (14,z) hs h->Fx g k [(14,z)]->K r k)->cB 278 [.p (16,F) 0 0,iv 0] g d K:=λh1 j hK=>by
  refine jH rfl (ih h1 j) ?_
  rintro r k ⟨g1,u,g3⟩
  grind [Fx.len]
 simp+contextual only[qz 6,qy 16,nlP C,eS,C,aRf,aQ6,gT]
 refine⟨λ_=>?_,λhc=>⟨λ_=>?_,λh7=>⟨λh8=>?_,λh8=>?_⟩⟩⟩
 ·refine aO4 D λy g g1 u j f=>?_
  have A:=f.kq H
  simp only[qz 8,qy 10,jM,kU,jt,tW,aD6,a6T,aNG]
  exact aTx A rfl aN9 λk i=>B (aWC ⟨.inl ⟨.inl rfl,rfl⟩,by simp[u7.l]⟩) j ((G.trans f).mono<|by simp) i
 ·refine aO4 D λy g g1 u j f=>?_
  have A:=f.kq H
  have u:=u (by decide)
  simp only[qz 12,qy 14,amZ,eQ,rk,H7,jM,kU,jt,tW,aD6,a6T,aNG]
  exact⟨⟨g1,u⟩,aTx A rfl aN9 λk i=>B (aWC ⟨.inl ⟨.inr rfl,rfl⟩,by simp[u7.l]⟩) j ((G.trans f).mono<|by simp) i⟩
 ·have w:n=1:=by grind
  refine P w D λr g E j f=>?_
  have A:=f.kq H
  obtain⟨e,t,o,he,rfl⟩:=E
  have aa:aX btx 1 g [(0, .a [iv e.op,iv e.n,st e.name, .l (e.l.map u7.c) t o])]=V (.l [e.c] U U,g):=aQm (by rw[aoH];rfl) aN9 (by decide) (by rw[aoH];rfl) (by decide)
  simp only[aa,bQ,qz 18,qy 20]
  have Z:bM bti bqM [(0,iv 3),(2,sv [113]),(3, .l [e.c] U U)]=V (.a [iv 3,iv 0,sv [113], .l [e.c] U U]):=rfl
  simp only[Z,aY]
  refine aTx A rfl rfl λk i=>B ⟨u7.mk 3 0 ⟨#[113]⟩ [e],U,U,⟨.inr<|.inl ⟨rfl,rfl,rfl⟩,?_⟩,rfl⟩ j ((G.trans f).mono<|by simp) i
  grind [u7.l]
 ·have w:n=1:=by grind
  have e0:dq.wrap ((n:Int)-1)=0:=by subst w;rfl
  simp only[baN,bQ,qz 22,nlP C,eS,C,aRf,aQ6,gT]
  refine aO4 D λy g g1 u j f=>?_
  have u:=u (by decide)
  have A:=f.kq H
  simp only[qz 24,tf,eQ,rk,H7,e0]
  refine⟨⟨g1,u⟩,P w j λr k E M4 i=>?_⟩
  have q4:=i.kq A
  simp only[qz 26,eQ,e0]
  refine P w M4 λr' s5 ab M5 T=>?_
  have q5:=T.kq q4
  obtain⟨e,t,o,he,rfl⟩:=E
  obtain⟨e',t',o',ax,rfl⟩:=ab
  have O:6<=gd [(6:Int),7,8,11,13,17] y.toNat:=by
   grind [dB]
  generalize gd [(6:Int),7,8,11,13,17] y.toNat=op at O
  simp only[qz 28,jM,kU,jt,tW,aSY,aD6]
  rw[aXO rfl rfl]
  refine⟨trivial,stW q5 rfl aN9 λs6 F6 b6=>?_⟩
  refine dT (by simp[eL,lb,cq,Qh,zt,dC,dK]) ?_
  have:Iy (V 4) s6 (.p (4,v) 0 0)=V (.a (u7.mk op 0 ⟨#[]⟩ [e,e']).c):=by grind [aC5,a69]
  (try rw[art]);rw[this]
  refine B (aWC ⟨.inr<|.inr ⟨O,rfl⟩,?_⟩) M5 ((((G.trans f).trans i).trans T).mono<|by simp) F6
  grind [u7.l]
def a6J(M:Mak Y m b hs h):∃r Y1,ExR Y m b hs h 1 r Y1/\cZ aS GG 278 [.p m 0 0,iv 0] Y r Y1:=a6K (n:=0) (by omega) (λh=>by omega) M
def bdg(M:Mak Y m b hs h):∃r Y1,ExR Y m b hs h 2 r Y1/\cZ aS GG 278 [.p m 0 0,iv 1] Y r Y1:=a6K (n:=1) (by omega) (λ_ {Y} M=>a6J M) M
theorem baU(M:Mak Y m b hs h)(f:∀r Y1,isE 2 r->Mak Y1 m b hs h->Fx Y Y1 [b]->K r Y1):cB 278 [.p m 0 0,iv 0] Y d K:=by refine jH rfl (a6J M) ?_;rintro r g ⟨g1,a,c⟩;grind [Fx.len,isE.mono]
theorem aQO(M:Mak Y m b hs h)(f:∀r Y1,isE 2 r->Mak Y1 m b hs h->Fx Y Y1 [b]->K r Y1):cB 278 [.p m 0 0,iv 1] Y d K:=by refine jH rfl (bdg M) ?_;rintro r g ⟨g1,a,c⟩;grind [Fx.len]
structure RH(m b:Id)(Y:ae)(h:AV)(Y1:ae)(h1:AV):Prop where
 f:Fx Y Y1 (m::b::aA h)
 i:∀q∈aA h1,q∈aA h\/bK Y q
section
variable{Y2 Y1:ae}{h1 h2:AV}
theorem RH.refl:RH m b Y h Y h:=⟨Fx.refl _ _,λ_ g=> .inl g⟩
theorem RH.trans(H:RH m b Y h Y1 h1)(a:RH m b Y1 h1 Y2 h2):RH m b Y h Y2 h2:=by refine⟨(H.f.trans a.f).mono λq c=>?_,λq c=>(a.i q c).elim (H.i q) λg=> .inr<|g.old H.f⟩;grind [RH.i,bK.no]
theorem RH.of{ks}(F:Fx Y Y1 ks)(a:∀q∈ks,q=m\/q=b\/bK Y q):RH m b Y h Y1 h:=⟨(by grind [Fx.mono,bK.no]),λ_ g=> .inl g⟩
theorem RH.ofb(F:Fx Y Y1 [b]):RH m b Y h Y1 h:= .of F (by simp)
def RH.ofm(F:Fx Y Y1 [m]):RH m b Y h Y1 h:= .of F (by simp)
def RH.of0(F:Fx Y Y1 []):RH m b Y h Y1 h:= .of F (by simp)
theorem RH.new(H:RH m b Y h Y1 h1){q}(F:Fx Y1 Y2 [q])(a:bK Y q):RH m b Y h Y2 h1:=⟨(H.f.trans F).mono (by grind [bK.no]),H.i⟩
theorem Mak.out(M:Mak Y m b hs h):∀q,q.1≠14->q.1≠15->q.1≠16->q∉m::b::aA h:=λq g1 a c f=>by
 grind [Mak.sm,Mak.sb,Mak.sh]
end
def aTj{x:m8}:eB (.a x.c)=[]:=by rw[bkk];rfl
def aYy{a}{x:m8}:Lv a Y x.c x.c:=⟨by rw[bkk];rfl,by rw[aTj];simp⟩
def aPq{f op nm i index e t o u o' bd a body els}(k:sA Y 274 11 bd<|body.map m8.c)(p:sA Y 274 11 a<|els.map m8.c)(r:∀q∈aA bd,bK f q)(s:∀q∈aA a,bK f q):Lv f Y [iv op,iv 0,st nm,st i, .l (index.map u7.c) u o',iv e.op,iv e.n,st e.name, .l (e.l.map u7.c) t o,bd,a] (m8.mk op 0 nm i index e body els).c:=by refine⟨?_,λq j=>?_⟩;rw[bkk];simp only[ji,mU,aOb k,aOb p,aQ5,aXQ];rfl;simp only[eB,Cz,RN,iR,dW,cL,dF] at j;rcases j with g|g;(exact r q<|by cases bd<;>first|exact g|simp[iR] at g);exact s q (by cases a<;>first|exact g|simp[iR] at g)
def aPB{op nm j}{index:List u7}{e:u7}{t o r o' bd f}{P:Id->Prop}(k:∀q∈aA bd,P q)(p:∀q∈aA f,P q):∀q∈eB (.a [iv op,iv 0,st nm,st j, .l (index.map u7.c) r o',iv e.op,iv e.n,st e.name, .l (e.l.map u7.c) t o,bd,f]),P q:=λq i=>by
 simp only[eB,Cz,RN,iR,dW,cL,dF] at i
 rcases i with g|g
 ·exact k q (by cases bd<;>first|exact g|simp[iR] at g)
 ·exact p q (by cases f<;>first|exact g|simp[iR] at g)
def SmR(Y:ae)(m b:Id)(hs:List ByteArray)(h:AV)(d:Nat)(r:AV)(Y1:ae):Prop:=∃cs x f,r= .a cs/\Lv Y Y1 cs (m8.c x)/\(∀q∈eB (.a cs),q.1=30\/q.1=126)/\shS (d+1) x/\Mak Y1 m b hs f/\RH m b Y h Y1 f
def SsR(Y:ae)(m b:Id)(hs:List ByteArray)(h:AV)(d:Nat)(n:Int)(r:AV)(Y1:ae):Prop:=∃(l:List m8) (a:AV),sA Y1 274 11 r (l.map m8.c)/\L l<=n/\(∀x∈l,shS (d+1) x)/\(∀q∈aA r,bK Y q/\q.1=30)/\Mak Y1 m b hs a/\RH m b Y h Y1 a
def aQH(m b:Id)(d:Nat):Prop:=∀{Y:ae} {hs:List ByteArray} {h:AV} {n:Int},Mak Y m b hs h->L hs+d<=500->0<=n->n<=3->∃r Y1,SsR Y m b hs h d n r Y1/\cZ aS GG 194 [.p m 0 0,iv d,iv n] Y r Y1
theorem aQQ{D:Nat}(w:aQH m b D)(M:Mak Y m b hs h)(v:L hs+D<=500){i n:Int}(u:i=D)(k:0<=n)(s:n<=3)(C:∀(a) (l:List m8) (g) Y1,sA Y1 274 11 a (l.map m8.c)->(L l:Int)<=n->(∀x∈l,shS (D+1) x)->(∀q∈aA a,bK Y q/\q.1=30)->Mak Y1 m b hs g->RH m b Y h Y1 g->K a Y1):cB 194 [.p m 0 0,iv i,iv n] Y d K:=by subst u;refine jH rfl (w M v k s) ?_;rintro r Y1 ⟨l,g,g1,y,z,A,B,j⟩;exact⟨j.f.len,by grind⟩
def baO{Y x}:aX zd9 1 Y [(0,st x)]=V (.l ([x].map cs) U U,Y):=iz
theorem bdS(M:Mak Y m b hs h){h1 c K}(g:sA Y 9 1 h1<|c.map cs)(j:∀q∈aA h1,q.1=15)(f:∀Y1,Mak Y1 m b c h1->Fx Y Y1 [m]->K Y1):sV (aK 1 Y (.p m 0 7) h1) K:=by obtain⟨v,r,s,tx,k,u,i⟩:=M.mx;obtain⟨l,a,T⟩:=M.tp;refine stC i g.ce (by simp) λY1 F n=>f Y1 ⟨(by simp_all),⟨l,a,T.fx F<|by simpa using M.ne.symm⟩,(by grind [sA.fx,Mak.sm]),F.len.trans M.le,M.sm,M.sb,j⟩ F
theorem bdd{D:Nat}(ih:aQH m b D)(M:Mak Y m b hs h)(hl:L hs+D+1<=500){s}{O:Int}(hd:O=D):∃r Y1,SsR Y m b hs h D 2 r Y1/\cZ aS GG 282 [.p m 0 0,st s,iv O] Y r Y1:=by refine bgl M.le ?_;obtain⟨G,B,s',tx,j,C,A⟩:=M.mx;simp only[qy 2,nlP A,eS,A,aRf,bhZ,aQ6,baO];refine apQ M.gh M.le (by simp) (by simp) (by simp) (by simp;omega) λy E z u N4=>?_;rw[<-dg] at z;have n:=u.keep _ _ (λc=>by have:=M.sh _ c;have:=M.sm;omega) A;have W:∀{Y':ae} {K:ae->Prop},(∀Y1,Mak Y1 m b (hs++[s]) y->Fx E Y1 [m]->K Y1)->sV (aK 1 E (.p m 0 7) y) K:=λ{Y' K} hK=>(by obtain⟨l,a,T⟩:=M.tp;refine stC n z.p.ce (by simp) λY1 F b1=>hK Y1 ⟨⟨G,B,s',tx,j,C,b1⟩,⟨l,a,(T.fx u<|by grind [Mak.sh,Mak.sb]).fx F<|by simpa using M.ne.symm⟩,z.p.fx F (by grind [Mak.sm]),F.len.trans<|u.len.trans M.le,M.sm,M.sb,λq c=>(N4 q c).2⟩ F);simp only[qz 4,nlP n,eS,n];refine W (Y':=E) λs5 N R=>?_;obtain⟨G,B,s',tx,j,C,v⟩:=N.mx;simp only[qz 6,nlP v,eS,v,aRf,aQ6];refine aO4 N λx s6 h1 h2 X S=>?_;have h2:=h2 (by decide);simp only[qz 8,eQ,eM (x:=1+x) (by omega)<|by omega];refine aQQ ih X (by simp;omega) hd (by omega) (by omega) λa l h' s7 g1 g2 g3 k g R7=>?_;obtain⟨G,B,s',tx,j,C,w⟩:=g.mx;simp only[qz 10,qy 12,nlP w,eS,w,aRf,bhZ,aQ6,g.gh.ln,bJ,a6G,bZ,aO6];have e1:dq.wrap (((L hs+(0+1):Nat):Int)-1)=(L hs:Int):=(by grind [eM]);rw[e1];refine slP g.gh (by omega) (by simp;omega) λa8 P e8=>?_;rw[bh,dg,List.take_left'<|by simp] at P;refine bdS g P (λq c=>g.sh q<|e8▸c) λs9 Z H=>?_;have R4:RH m b Y h s6 y:=⟨((u.trans R).trans S).mono (by grind),by simp_all⟩;have R9:=(R4.trans R7).trans<|.ofm H;exact⟨l,a8,g1.fx H (λq c e=>by have:=(k q c).2;have:=M.sm;simp at e;subst e;omega),by omega,g3,λq c=>⟨(k q c).1.old R4.f,(k q c).2⟩,Z,⟨R9.f,by grind [RH.i]⟩⟩
def aPh{A K}:gF U A Y K=A K:=rfl
def aOq{A K}:gF I A Y K=K (.t []) Y:=rfl
def baJ:aX zd9 4 Y [(0,sv [120]),(1,sv [121]),(2,sv [120]),(3,sv [118])]=V (.l ([⟨#[120]⟩,⟨#[121]⟩,⟨#[120]⟩,⟨#[118]⟩].map cs) U U,Y):=by kernel_rfl
def aV4:aX zd9 2 Y [(0,sv [97]),(1,sv [98])]=V (.l ([⟨#[97]⟩,⟨#[98]⟩].map cs) U U,Y):=by kernel_rfl
def a5Z:aX zd9 2 Y [(0,sv [109]),(1,sv [110])]=V (.l ([⟨#[109]⟩,⟨#[110]⟩].map cs) U U,Y):=by kernel_rfl
def baH{e t o}:aX btx 1 Y [(0, .a [iv e.op,iv e.n,st e.name, .l (e.l.map u7.c) t o])]=V (.l ([e].map u7.c) U U,Y):=aQm (by rw[aoH];rfl) aN9 (by decide) (by rw[aoH];rfl) (by decide)
def a50{x}:aX brU 1 Y [(0, .a x.c)]=V (.l ([x].map m8.c) U U,Y):=ua (by rw[bkk];rfl) aTj biw (by decide) (by rw[bkk];rfl) (by decide)
section
variable{o:Int}{nm:ByteArray}{x:AV}{e:u7}{t o':Bool}{body:List m8}{bA:List (dM)}
def a5O(f:sA Y 274 11 x bA):bM brN alz [(0,iv o),(5, .a [iv e.op,iv e.n,st e.name, .l (e.l.map u7.c) t o']),(6,x)]=V (.a [iv o,iv 0,st ⟨#[]⟩,st ⟨#[]⟩, .l (([]:List u7).map u7.c) U U,iv e.op,iv e.n,st e.name, .l (e.l.map u7.c) t o',x, .l [] U U]):=by rcases f with⟨_,rfl⟩|⟨q,m,rfl,_⟩<;>rfl
def aSZ(f:sA Y 274 11 x bA):bM brN alz [(0,iv o),(2,st nm),(6,x)]=V (.a [iv o,iv 0,st nm,st ⟨#[]⟩, .l (([]:List u7).map u7.c) U U,iv (u7.mk 0 0 ⟨#[]⟩ []).op,iv (u7.mk 0 0 ⟨#[]⟩ []).n,st (u7.mk 0 0 ⟨#[]⟩ []).name, .l ((u7.mk 0 0 ⟨#[]⟩ []).l.map u7.c) U U,x, .l [] U U]):=by rcases f with⟨_,rfl⟩|⟨q,m,rfl,_⟩<;>rfl
def a5P(f:sA Y 274 11 x bA):bM brN alz [(0,iv o),(6,x)]=V (.a [iv o,iv 0,st ⟨#[]⟩,st ⟨#[]⟩, .l (([]:List u7).map u7.c) U U,iv (u7.mk 0 0 ⟨#[]⟩ []).op,iv (u7.mk 0 0 ⟨#[]⟩ []).n,st (u7.mk 0 0 ⟨#[]⟩ []).name, .l ((u7.mk 0 0 ⟨#[]⟩ []).l.map u7.c) U U,x, .l [] U U]):=by rcases f with⟨_,rfl⟩|⟨q,m,rfl,_⟩<;>rfl
def bam{E:u7}(f:sA Y 274 11 x bA):bM brN alz [(0,iv o),(5, .a E.c),(6,x)]=V (.a [iv o,iv 0,st ⟨#[]⟩,st ⟨#[]⟩, .l (([]:List u7).map u7.c) U U,iv E.op,iv E.n,st E.name, .l (E.l.map u7.c) I I,x, .l [] U U]):=by rw[aoH];exact a5O f
def a5Q:bM brN alz [(0,iv o),(2,st nm),(6, .l (body.map m8.c) t o')]=V (.a [iv o,iv 0,st nm,st ⟨#[]⟩, .l (([]:List u7).map u7.c) U U,iv (u7.mk 0 0 ⟨#[]⟩ []).op,iv (u7.mk 0 0 ⟨#[]⟩ []).n,st (u7.mk 0 0 ⟨#[]⟩ []).name, .l ((u7.mk 0 0 ⟨#[]⟩ []).l.map u7.c) U U, .l (body.map m8.c) t o', .l (([]:List m8).map m8.c) U U]):=rfl
end
def aRm{f op nm a index e t o j o' k i t3 o3 body els}:Lv f Y [iv op,iv 0,st nm,st a, .l (index.map u7.c) j o',iv e.op,iv e.n,st e.name, .l (e.l.map u7.c) t o, .l (body.map m8.c) k i, .l (els.map m8.c) t3 o3] (m8.mk op 0 nm a index e body els).c:=by refine⟨?_,λq g=>?_⟩;rw[bkk];simp only[ji,mU,aQ5,aXQ];rfl;simp[eB,iR] at g
theorem aOJ{n:Nat}{op:Int}{nm f index e body els}(h1:(op=1\/op=2\/op=3\/op=14)->shE 2 e)(h2:index=[]\/∃y,index=[y]/\shE 2 y/\nm=qN)(i:L e.l<=2)(j:L body<=4)(a:∀x∈body,shS n x)(k:L els<=4)(c:∀x∈els,shS n x)(p:1<=op/\op<=15):shS (n+1) (m8.mk op 0 nm f index e body els):=by refine⟨h1,?_,?_,?_,i,j,a,k,c,p⟩;show L index<=1;grind;show∀x∈index,shE 2 x;grind;intro h;rcases h2 with rfl|⟨y,rfl,_,g⟩;exact aRI rfl h;exact g
theorem aOI{n:Nat}{op:Int}{nm a index e}(h1:(op=1\/op=2\/op=3\/op=14)->shE 2 e)(h2:index=[]\/∃y,index=[y]/\shE 2 y/\nm=qN)(c:L e.l<=2)(f:1<=op/\op<=15):shS (n+1) (m8.mk op 0 nm a index e [] []):=(by grind [aOJ])
theorem aS4{D:Nat}(u:aQH m b D)(M:Mak Y m b hs h)(n:L hs+D+1<=500){s}{i:Int}(k:i=D)(A:∀(a) (l:List m8) (g) Y1,sA Y1 274 11 a (l.map m8.c)->(L l:Int)<=2->(∀x∈l,shS (D+1) x)->(∀q∈aA a,bK Y q/\q.1=30)->Mak Y1 m b hs g->RH m b Y h Y1 g->K a Y1):cB 282 [.p m 0 0,st s,iv i] Y d K:=by refine jH rfl (bdd u M n k) ?_;rintro r Y1 ⟨l,g,g1,v,w,y,z,j⟩;exact⟨j.f.len,by grind⟩
theorem aEa{q T}{z:Nat}{o u r}(c:box Y q=V ⟨T,z,o,u,[r]⟩)(f:L r=z):Iy (V z) Y (.p q 0 0)=V (.a r):=by grind [Iy,iE,aN]
theorem aP2{D}(h:D+1<1000):dq.wrap (((D+1:Nat):Int)-1)=(D:Int):=by grind [eM]
def baQ:aX brU 2 Y [(0, .a [iv 9,iv 0,sv [99],sv [], .l [] U U,iv 0,iv 0,sv [], .l [] U U, .l [] U U, .l [] U U]),(1, .a (m8.mk 1 0 ⟨#[97]⟩ ⟨#[]⟩ [] (u7.mk 2 0 ⟨#[120]⟩ []) [] []).c)]=V (.l ([m8.mk 9 0 ⟨#[99]⟩ ⟨#[]⟩ [] (u7.mk 0 0 ⟨#[]⟩ []) [] [],m8.mk 1 0 ⟨#[97]⟩ ⟨#[]⟩ [] (u7.mk 2 0 ⟨#[120]⟩ []) [] []].map m8.c) U U,Y):=by kernel_rfl
def baL{o}:aX brU 1 Y [(0, .a [iv o,iv 0,sv [99],sv [], .l [] U U,iv 0,iv 0,sv [], .l [] U U, .l [] U U, .l [] U U])]=V (.l ([m8.mk o 0 ⟨#[99]⟩ ⟨#[]⟩ [] (u7.mk 0 0 ⟨#[]⟩ []) [] []].map m8.c) U U,Y):=by kernel_rfl
theorem bdy{D:Nat}(ih:∀j,j<D->aQH m b j)(M:Mak Y m b hs h)(hl:L hs+D<=500):∃r Y1,SmR Y m b hs h D r Y1/\cZ aS GG 244 [.p m 0 0,iv D] Y r Y1:=by
 obtain⟨m1,m2⟩:=m
 obtain rfl:m1=16:=M.sm
 obtain⟨b1,b2⟩:=b
 obtain rfl:b1=14:=M.sb
 refine bgp M.le ?_
 refine I7 M.le λv s1 F1 N1 q1=>?_
 have M1:=M.fx0 F1
 obtain⟨th,lf,s,tx,aV,lp,ac⟩:=M1.mx
 simp only[qz 2,nlP ac,eS,ac,aRf,bhZ,aQ6]
 refine aPJ M1 (by simp) λs2 M2 F2=>?_
 have q2:=F2.kq q1
 obtain⟨th,lf,s,tx,aV,lp,bd⟩:=M2.mx
 simp only[qz 4,nlP bd,eS,bd,aRf,aQ6]
 refine aO4 M2 λx s3 h1 h2 G F3=>?_
 have h2:=h2 (by decide)
 have q3:=F3.kq q2
 have O:RH (16,m2) (14,b2) Y h s3 h:=((RH.of0 F1).trans<|.ofm F2).trans<|.ofb F3
 have N:∀{B:ae} {cs r:dM} {x:m8} {h4:AV},Mak B (16,m2) (14,b2) hs h4->RH (16,m2) (14,b2) Y h B h4->box B (4,v)=V ⟨274,11,U,U,[r]⟩->L r=11->Lv Y B cs x.c->(∀q∈eB (.a cs),q.1=30\/q.1=126)->shS (D+1) x->
   sV (aK 11 B (.p (4,v) 0 0)<|.a cs) λs=>rV (Iy (V 11) s<|.p (4,v) 0 0) λt=>aNR (SmR Y (16,m2) (14,b2) hs h D) s [t]:=λ{B cs r x h4} A R4 S hr L4 hi a2=>
  aTx S hr (by have:=brD L L4.eq;grind [biw]) λs5 T=>⟨cs,x,h4,rfl,L4.fx T (by grind) aS7,hi,a2,A.fx T (by simp) (by simp) (λq w e=>by grind [Mak.sh]),R4.new T N1⟩
 have out:∀{B s5:ae} {h4 h5:AV} {q:Id} {x:bY},Mak B (16,m2) (14,b2) hs h4->RH (16,m2) (14,b2) B h4 s5 h5->(q.1≠14/\q.1≠15/\q.1≠16)->box B q=V x->box s5 q=V x:=λA R g w=>R.f.keep _ _ (A.out _ g.1 g.2.1 g.2.2) w
 have a1:∀{B s6:ae} {x:m8} {h4:AV},Mak B (16,m2) (14,b2) hs h4->RH (16,m2) (14,b2) Y h B h4->Fx B s6 [(4,v)]->box s6 (4,v)=V ⟨274,11,U,U,[x.c]⟩->shS (D+1) x->aw 11 s6 (.p (4,v) 0 0) λt=>aNR (SmR Y (16,m2) (14,b2) hs h D) s6 [t]:=λ{B s6 x h4} A R4 F b6 a2=>by
  rw[art,aEa b6 biw]
  exact⟨_,x,h4,rfl,aYy,by rw[aTj];simp,a2,A.fx F (by simp) (by simp) (λq w e=>by grind [Mak.sh]),R4.new F N1⟩
 simp only[qz 6,qy 22,qy 126]
 generalize hE:@qp _ 128 ⟨_⟩=E
 have bc:∀{B:ae} {d:Nat},Mak B (16,m2) (14,b2) hs h->RH (16,m2) (14,b2) Y h B h->box B (4,v)=V ⟨274,11,U,U,[brN]⟩->cB 278 [.p (16,m2) 0 0,iv 1] B d E:=λ{B d} A R4 S=>by
  refine aQO A λr s5 hr H T=>?_
  obtain⟨e,t,o,he,rfl⟩:=hr
  have q5:=T.kq S
  simp only[<-hE,qz 128,qy 130,jM,kU,jt,tW,aSY,aD6]
  refine⟨by simp[lo,nA,eB,iR],N H (R4.trans<|.ofb T) q5 rfl aYy (by rw[aTj];simp) ?_⟩
  exact⟨λ_=>he,by simp[m8.index],by simp[m8.index],by simp[m8.index],he.len,by simp[m8.body],by simp[m8.body],by simp[m8.els],by simp[m8.els],by simp[m8.op],by simp[m8.op]⟩
 obtain⟨th,lf,s,tx,aV,lp,k⟩:=G.mx
 have hx:(x<4/\0<=x)\/x=4\/x=5\/x=6\/x=7\/x=8\/x=9\/x=10\/x=11\/x=12\/x=13\/x=14\/x=15\/x=16\/x=17:=by omega
 have bs:∀K:cC,(∀nb:Bool,(nb=U->0<D)->K (bv nb))->aO .gtr (iv D) (iv 0) λaF=>Qct aF (.p (16,m2) 0 0) λb5=>Qot aF (rV<|cO s3 b5) λca=>aT aF 2 s3 ca λcb=>Qot aF (aO .gtr cb<|iv 0) λcc=>aD aF cc (bv I) λaG=>Qct aG (.p (16,m2) 0 0) λcd=>Qot aG (rV<|cO s3 cd) λcg=>aT aG 4 s3 cg λch=>Qot aG (cf ch) λci=>aD aG ci (bv I) λcj=>K cj:=by
  intro K hK
  rcases oD D with h0|h0
  ·have e:Q ((0:Int)<(D:Int))=I:=by simp[h0]
   simp only[e,eQ,↓jN,bcW,↓uL]
   grind
  ·have e:Q ((0:Int)<(D:Int))=U:=by simp[h0]
   rcases bg:Q (0<lf) with _|_
   ·simp only[e,nlP k,eS,k,aRf,bhZ,aQ6,bg,↓jN,↓jA,bcW,aRV,↓uL]
    grind
   ·simp only[e,nlP k,eS,k,aRf,bhZ,aQ6,bg,↓jA,aRV,↓uL]
    grind
 refine bs _ λnb cA=>?_
 have P:∀{d:Nat},cB 278 [.p (16,m2) 0 0,iv 1] s3 d E:=bc G O q3
 rcases hx with hx|rfl|rfl|rfl|rfl|rfl|rfl|rfl|rfl|rfl|rfl|rfl|rfl|rfl|rfl
 all_goals
  simp only[nlP k,eS,k,aRf,bhZ,aQ6,boV,bqJ,Int.reduceEq,Int.reduceLT,↓iC,↓iB,↓jA,↓jN,↓aOq,aRV,bcW,Bool.false_or]
 ·refine⟨λ_=>?_,λg=>aRI hx.1<|by simpa using g⟩
  simp only[baJ,bQ,qz 8,amZ,u0,rk,H7]
  refine⟨⟨hx.2,hx.1⟩,aQO G λr s5 hr H T=>?_⟩
  obtain⟨e,t,o,he,rfl⟩:=hr
  have q5:=T.kq q3
  simp only[qz 10,jM,kU,jt,tW,aSY,aD6]
  refine⟨by simp[lo,nA,eB,iR],stW q5 rfl biw λs6 F6 b6=>?_⟩
  refine dT (by simp[eL,lb,cq,Qh,zt,dC,dK]) ?_
  exact a1 H (O.trans<|.ofb T) F6 b6 (aOI (λ_=>he) (.inl rfl) he.len<|by decide)
 ·simp only[aV4,bQ,qz 14,nlP k,eS,k,aRf,aQ6]
  refine aO4 G λy B y1 y2 A C=>?_
  have y2:=y2 (by decide)
  have S:=C.kq q3
  simp only[qz 16,amZ,u0,rk,H7]
  refine⟨⟨y1,y2⟩,aQO A λr s5 hr H T=>?_⟩
  obtain⟨e,t,o,he,rfl⟩:=hr
  have q5:=T.kq S
  simp only[qz 18,jM,kU,jt,tW,aSY,aD6]
  refine⟨by simp[lo,nA,eB,iR],stW q5 rfl biw λs6 F6 b6=>?_⟩
  refine dT (by simp[eL,lb,cq,Qh,zt,dC,dK]) ?_
  exact a1 H ((O.trans<|.ofb C).trans<|.ofb T) F6 b6 (by grind [aOI,shE.len])
 ·refine baU G λr B hr A C=>?_
  obtain⟨e,t,o,he,rfl⟩:=hr
  have S:=C.kq q3
  simp only[baH,bQ,qz 24]
  refine aQO A λr s5 hr H T=>?_
  obtain⟨e',t',o',cz,rfl⟩:=hr
  have q5:=T.kq S
  have bO:bM brN alz [(0,iv 1),(2,sv [113]),(4, .l ([e].map u7.c) U U),(5, .a [iv e'.op,iv e'.n,st e'.name, .l (e'.l.map u7.c) t' o'])]=V (.a [iv 1,iv 0,st qN,st ⟨#[]⟩, .l ([e].map u7.c) U U,iv e'.op,iv e'.n,st e'.name, .l (e'.l.map u7.c) t' o', .l (([]:List m8).map m8.c) U U, .l (([]:List m8).map m8.c) U U]):=rfl
  simp only[qz 26,qy 28,bO,aY]
  exact N H ((O.trans<|.ofb C).trans<|.ofb T) q5 rfl aRm (by simp[eB,iR]) (by grind [aOI,shE.len])
 ·refine⟨λhD=>?_,λ_=>P⟩
  obtain⟨j,rfl⟩:∃j,D=j+1:=⟨D-1,by grind⟩
  refine aQO G λr B hr A C=>?_
  obtain⟨e,t,o,he,rfl⟩:=hr
  have S:=C.kq q3
  simp only[qz 30,eQ,aP2 (D:=j)<|by omega]
  refine aQQ (ih j<|by omega) A (by omega) rfl (by omega) (by omega) λa l h' s5 g1 g2 g3 Z H W=>?_
  have q5:=out A W (by simp) S
  simp only[qz 32,qy 34,a5O g1,aY]
  refine anu H.le λv7 s7 X N7 b7=>?_
  have M7:=H.fx0 X
  have q7:=X.kq q5
  have G7:=g1.fx X (by simp)
  have R7:=((O.trans<|.ofb C).trans W).trans<|.of0 X
  have na:∀q∈aA a,bK Y q:=(by grind [bK.old])
  obtain⟨cl,bU,s',cm,bn,bV,bf⟩:=M7.mx
  simp only[qz 36,di,qz 83,nlP bf,eS,bf,aRf,aQ6]
  refine aO4 M7 λy s8 y1 y2 M8 F8=>?_
  have q8:=F8.kq q7
  have b8:=F8.kq b7
  have G8:=G7.fx F8 (λq w e=>by have:=(Z q w).2;simp at e;subst e;simp at this)
  have R8:=R7.trans<|.ofb F8
  simp only[qz 38,eQ,aP2 (D:=j)<|by omega]
  refine⟨λ_=>?_,λ_=>?_⟩
  ·refine aQQ (ih j<|by omega) M8 (by omega) rfl (by omega) (by omega) λa' l' h9 s9 k1 k2 k3 k4 M9 R9=>?_
   have q9:=out M8 R9 (by simp) q8
   have b9:=out M8 R9 (by simp) b8
   have G9:=G8.fx R9.f (by grind [Mak.out])
   simp only[qz 40,qy 42,eS,b9]
   refine stC b9 k1.ce (by simp) λcD ax bI=>?_
   have bW:=λq w=>(k4 q w).1.old R8.f
   have b0:=ax.kq q9
   simp only[qz 81,qy 44,aI,aEa bI rfl,aY]
   have p9:∀{q:Id},q.1=30->q∉[((7,v7):Id)]:=λh e=>by simp at e;grind
   refine N (M9.fx ax (by simp) (by simp) (λq w e=>by have:=M9.sh q w;simp at e;grind)) ((R8.trans R9).new ax<|((N7.old W.f).old C).old O.f) b0 rfl
    (aPq (index:=[]) (e:=e) (G9.fx ax λq w=>p9 (Z q w).2) (k1.fx ax λq w=>p9 (k4 q w).2) na bW) (aPB (index:=[]) (by grind)<|by grind) ?_
   exact aOJ (λ_=>he) (.inl rfl) he.len (by omega) g3 (by omega) k3 (by decide)
  ·simp only[qz 81,qy 44,aI,aEa b8 rfl,aY]
   exact N M8 R8 q8 rfl (aPq (index:=[]) (e:=e) (els:=[]) G8 (.inl ⟨rfl,rfl⟩) na<|by simp[aA]) (aPB (index:=[]) (by grind)<|by simp[aA]) (aOJ (λ_=>he) (.inl rfl) he.len (by omega) g3 (by simp) (by simp)<|by decide)
 ·refine⟨λhD=>?_,λ_=>P⟩
  obtain⟨j,rfl⟩:∃j,D=j+1:=⟨D-1,by grind⟩
  refine aPJ G (by simp) λB A C=>?_
  have S:=C.kq q3
  simp only[qz 46,jM,kU,jt,tW,aD6,Fa,eQ,aP2 (D:=j)<|by omega]
  refine⟨by simp[lo,nA,eB,iR],by simp[lo,nA,eB,iR],by rw[aXO rfl rfl];trivial,?_⟩
  refine aQQ (ih j<|by omega) A (by omega) rfl (by omega) (by omega) λa l h' s5 g1 g2 g3 Z H W=>?_
  have q5:=out A W (by simp) S
  simp only[qz 48,qy 50,jM,kU,jt,tW,aD6,Fa,a50,u0]
  refine⟨by simp[lo,nA,eB,iR],by simp[lo,nA,eB,iR],by rw[aXO rfl rfl];trivial,by rw[aXP rfl];trivial,?_⟩
  have na:=λq w=>(Z q w).2
  refine apQ g1 H.le (by grind [biw]) (by grind [biw]) (by simp) (by simp;omega) λa' s6 g6 F6 N6=>?_
  rw[<-dg] at g6
  have q6:=F6.keep _ _ (λw=>by have:=na _ w;simp at this) q5
  have M6:=H.fx F6 (by grind) (by grind) (λq w e=>by grind [Mak.sh])
  have aX:=O.trans<|.ofm C
  have R6:RH (16,m2) (14,b2) Y h s6 h':=⟨((aX.trans W).f.trans F6).mono (by grind [bK.no,bK.old]),(aX.trans W).i⟩
  simp only[qz 52,qy 54,bam g6.p,aY]
  refine anu M6.le λv7 s7 X N7 b7=>?_
  have M7:=M6.fx0 X
  have q7:=X.kq q6
  have G7:=g6.p.fx X (by simp)
  obtain⟨bk,bi,s8,bl,bb,bj,am⟩:=M7.mx
  simp only[qz 56,nlP am,eS,am]
  refine aPJ M7 (by simp) λs9 M9 F9=>?_
  have q9:=F9.kq q7
  have b9:=F9.kq b7
  have G9:=G7.fx F9 (λq w e=>by have:=(N6 q w).2;simp at e;subst e;simp at this)
  simp only[qz 58,qy 60,aEa b9 rfl,aY]
  refine N M9 ((R6.trans<|.of0 X).trans<|.ofm F9) q9 rfl (aPq (index:=[]) (els:=[]) G9 (.inl ⟨rfl,rfl⟩) (λq w=>(N6 q w).1.old (aX.trans W).f)<|by simp[aA]) (aPB (index:=[]) (by grind)<|by simp[aA]) ?_
  have e1:∀{z:Int} {s:ByteArray},shE 1 (u7.mk 2 z s []):=λ{z s}=>⟨.inl ⟨.inr rfl,rfl⟩,by simp[u7.l]⟩
  have e2:∀{z:Int} {s:ByteArray},shE 1 (u7.mk 1 z s []):=λ{z s}=>⟨.inl ⟨.inl rfl,rfl⟩,by simp[u7.l]⟩
  refine aOJ (λ_=>⟨.inr (.inr ⟨by decide,rfl⟩),?_⟩) (.inl rfl) (by decide) (by simp;omega) ?_ (by simp) (by simp) (by decide)
  ·grind [u7.l]
  ·intro y hy
   rcases dF.1 hy with hy|hy
   ·exact g3 y hy
   ·simp only[cE] at hy
    subst hy
    refine aOI (λ_=>⟨.inr (.inr ⟨by decide,rfl⟩),?_⟩) (.inl rfl) (by decide) (by decide)
    grind [u7.l]
 ·cases nb
  ·simp only[u0,aOq,↓jN,bcW,↓iB]
   exact P
  obtain⟨j,rfl⟩:∃j,D=j+1:=⟨D-1,by grind⟩
  simp only[a5Z,amZ,rk,H7,eQ,aPh,↓jA,aRV]
  refine⟨⟨by decide,by decide⟩,aQP G (by omega) λu=>?_⟩
  cases u
  ·simp only[eQ,↓iC]
   simp only[qz 66,amZ,rk,H7,aP2 (D:=j) (by omega),eQ]
   refine⟨⟨by decide,by decide⟩,aS4 (ih j<|by omega) G (by omega) rfl λa l h' s5 g1 g2 g3 Z H W=>?_⟩
   simp only[qz 68,qy 70,aSZ g1,aY]
   exact N H (O.trans W) (out G W (by simp) q3) rfl (aPq (index:=[]) (els:=[]) g1 (.inl ⟨rfl,rfl⟩) (λq w=>(Z q w).1.old O.f)<|by simp[aA]) (aPB (index:=[]) (by grind)<|by simp[aA]) (aOJ (by omega) (.inl rfl) (by decide) (by omega) g3 (by simp) (by simp)<|by decide)
  ·simp only[eQ,↓iB]
   exact P
 ·cases nb
  ·simp only[u0,aOq,↓jN,bcW,↓iB]
   exact P
  obtain⟨j,rfl⟩:∃j,D=j+1:=⟨D-1,by grind⟩
  simp only[a5Z,amZ,rk,H7,eQ,aPh,↓jA,aRV]
  refine⟨⟨by decide,by decide⟩,aQP G (by omega) λu=>?_⟩
  cases u
  ·simp only[eQ,↓iC]
   simp only[qz 66,amZ,rk,H7,aP2 (D:=j) (by omega),eQ]
   refine⟨⟨by decide,by decide⟩,aS4 (ih j<|by omega) G (by omega) rfl λa l h' s5 g1 g2 g3 Z H W=>?_⟩
   simp only[qz 68,qy 70,aSZ g1,aY]
   exact N H (O.trans W) (out G W (by simp) q3) rfl (aPq (index:=[]) (els:=[]) g1 (.inl ⟨rfl,rfl⟩) (λq w=>(Z q w).1.old O.f)<|by simp[aA]) (aPB (index:=[]) (by grind)<|by simp[aA]) (aOJ (by omega) (.inl rfl) (by decide) (by omega) g3 (by simp) (by simp)<|by decide)
  ·simp only[eQ,↓iB]
   exact P
 ·cases nb
  ·simp only[u0,aOq,↓jN,bcW,↓iB]
   exact P
  obtain⟨j,rfl⟩:∃j,D=j+1:=⟨D-1,by grind⟩
  simp only[u0,aPh,↓jA,aRV]
  refine aQP G (by omega) λu=>?_
  cases u
  ·simp only[aP2 (D:=j) (by omega),eQ,↓iC]
   refine aS4 (ih j<|by omega) G (by omega) rfl λa l h' s5 g1 g2 g3 Z H W=>?_
   simp only[qz 74,qy 76,aSZ g1,aY]
   exact N H (O.trans W) (out G W (by simp) q3) rfl (aPq (index:=[]) (els:=[]) g1 (.inl ⟨rfl,rfl⟩) (λq w=>(Z q w).1.old O.f)<|by simp[aA]) (aPB (index:=[]) (by grind)<|by simp[aA]) (aOJ (λh=>aRI h<|by decide) (.inl rfl) (by decide) (by omega) g3 (by simp) (by simp)<|by decide)
  ·simp only[eQ,↓iB]
   exact P
 ·cases nb
  ·simp only[u0,aOq,↓jN,bcW,↓iB]
   exact P
  obtain⟨j,rfl⟩:∃j,D=j+1:=⟨D-1,by grind⟩
  simp only[u0,aPh,↓jA,aRV]
  refine aQP G (by omega) λu=>?_
  cases u
  ·simp only[aP2 (D:=j) (by omega),eQ,↓iC]
   refine aS4 (ih j<|by omega) G (by omega) rfl λa l h' s5 g1 g2 g3 Z H W=>?_
   simp only[qz 74,qy 76,aSZ g1,aY]
   exact N H (O.trans W) (out G W (by simp) q3) rfl (aPq (index:=[]) (els:=[]) g1 (.inl ⟨rfl,rfl⟩) (λq w=>(Z q w).1.old O.f)<|by simp[aA]) (aPB (index:=[]) (by grind)<|by simp[aA]) (aOJ (λh=>aRI h<|by decide) (.inl rfl) (by decide) (by omega) g3 (by simp) (by simp)<|by decide)
  ·simp only[eQ,↓iB]
   exact P
 ·refine⟨λhn=>?_,λ_=>P⟩
  obtain⟨j,rfl⟩:∃j,D=j+1:=⟨D-1,by grind⟩
  refine aPJ G (by simp) λB A C=>?_
  have S:=C.kq q3
  obtain⟨cl,bU,s',cm,bn,bV,be⟩:=A.mx
  simp only[qz 78,nlP be,eS,be,aRf,aQ6]
  refine aO4 A λy s5 y1 y2 H T=>?_
  have y2:=y2 (by decide)
  have q5:=T.kq S
  simp only[qz 80,eQ,eM (x:=1+y) (by omega)<|by omega]
  refine aQQ (ih 0<|by omega) H (by omega) rfl (by omega) (by omega) λa l h' s6 g1 g2 g3 Z M6 R6=>?_
  have q6:=out H R6 (by simp) q5
  simp only[qz 82,qy 84,a5P g1,aY]
  refine anu M6.le λv7 s7 X N7 b7=>?_
  have M7:=M6.fx0 X
  have q7:=X.kq q6
  have G7:=g1.fx X (by simp)
  have aZ:=(O.trans<|.ofm C).trans<|.ofb T
  obtain⟨bk,bi,s8,bl,bb,bj,am⟩:=M7.mx
  simp only[qz 86,nlP am,eS,am]
  refine aPJ M7 (by simp) λs9 M9 F9=>?_
  have q9:=F9.kq q7
  have b9:=F9.kq b7
  have G9:=G7.fx F9 (λq w e=>by have:=(Z q w).2;simp at e;subst e;simp at this)
  simp only[qz 88,qy 90,aEa b9 rfl,aY]
  exact N M9 (((aZ.trans R6).trans<|.of0 X).trans<|.ofm F9) q9 rfl (aPq (index:=[]) (els:=[]) G9 (.inl ⟨rfl,rfl⟩) (by grind [bK.old])<|by simp[aA]) (aPB (index:=[]) (by grind)<|by simp[aA]) (aOJ (by omega) (.inl rfl) (by decide) (by omega) (by grind [shS.mono]) (by simp) (by simp)<|by decide)
 ·cases nb
  ·simp only[u0,↓jN,bcW,↓iB]
   exact P
  cases aV
  ·obtain⟨j,rfl⟩:∃j,D=j+1:=⟨D-1,by grind⟩
   simp only[nlP k,eS,k,aRf,bhZ,aQ6,↓jA,aRV,↓iC]
   refine aPJ G (by simp) λB A C=>?_
   have S:=C.kq q3
   simp only[qz 92,eQ,aP2 (D:=j)<|by omega]
   refine aQQ (ih j<|by omega) A (by omega) rfl (by omega) (by omega) λa l h' s6 g1 g2 g3 Z M6 R6=>?_
   have q6:=out A R6 (by simp) S
   simp only[qz 94,qy 96,a5P g1,aY]
   refine anu M6.le λv7 s7 X N7 b7=>?_
   have M7:=M6.fx0 X
   have q7:=X.kq q6
   have G7:=g1.fx X (by simp)
   have aZ:=O.trans<|.ofm C
   obtain⟨bk,bi,s8,bl,bb,bj,am⟩:=M7.mx
   simp only[qz 98,nlP am,eS,am]
   refine aPJ M7 (by simp) λs9 M9 F9=>?_
   have q9:=F9.kq q7
   have b9:=F9.kq b7
   have G9:=G7.fx F9 (λq w e=>by have:=(Z q w).2;simp at e;subst e;simp at this)
   simp only[qz 100,qy 102,aEa b9 rfl,aY]
   exact N M9 (((aZ.trans R6).trans<|.of0 X).trans<|.ofm F9) q9 rfl (aPq (index:=[]) (els:=[]) G9 (.inl ⟨rfl,rfl⟩) (by grind [bK.old])<|by simp[aA]) (aPB (index:=[]) (by grind)<|by simp[aA]) (aOJ (by omega) (.inl rfl) (by decide) (by omega) g3 (by simp) (by simp)<|by decide)
  ·simp only[nlP k,eS,k,aRf,bhZ,aQ6,↓jA,aRV,↓iB]
   exact P
 ·cases nb
  ·simp only[u0,aOq,↓jN,bcW,↓iB]
   exact P
  cases aV
  ·simp only[nlP k,eS,k,aRf,bhZ,aQ6,aPh,↓jA,aRV]
   refine aQP G (by omega) λu=>?_
   cases u
   ·have ac:bM brN alz [(0,iv 9),(2,sv [99])]=V (.a [iv 9,iv 0,sv [99],sv [], .l [] U U,iv 0,iv 0,sv [], .l [] U U, .l [] U U, .l [] U U]):=rfl
    simp only[ac,jM,kU,jt,tW,aD6,Fa,eQ,↓iC]
    simp only[baQ,bQ,qz 106,qy 108,a5Q,aY]
    refine⟨by simp[lo,nA,eB,iR],by rw[aXP rfl];trivial,N G O q3 rfl aRm (by simp[eB,iR])<|aOJ (by omega) (.inl rfl) (by decide) (by decide) ?_ (by simp) (by simp)<|by decide⟩
    obtain⟨j,rfl⟩:∃j,D=j+1:=⟨D-1,by grind⟩
    intro y hy
    simp only[eW,ql,bmK] at hy
    rcases hy with rfl|rfl
    ·exact aOI (by omega) (.inl rfl) (by decide) (by decide)
    ·exact aOI (λ_=>⟨.inl ⟨.inr rfl,rfl⟩,by simp[u7.l]⟩) (.inl rfl) (by decide) (by decide)
   ·simp only[eQ,↓iB]
    exact P
  ·simp only[nlP k,eS,k,aRf,bhZ,aQ6,aOq,↓jA,↓jN,aRV,bcW,↓iB]
   exact P
 ·cases nb
  ·simp only[nlP k,eS,k,aRf,aQ6,aOq,↓jN,bcW,↓iB]
   exact P
  simp only[u0,aPh,↓jA,aRV]
  refine aQP G (by omega) λu=>?_
  cases u
  ·simp only[nlP k,eS,k,aRf,aQ6,↓iC]
   refine aO4 G λy B y1 y2 A C=>?_
   have y2:=y2 (by decide)
   have S:=C.kq q3
   have ac:∀o:Int,bM brN alz [(0,iv o),(2,sv [99])]=V (.a [iv o,iv 0,sv [99],sv [], .l [] U U,iv 0,iv 0,sv [], .l [] U U, .l [] U U, .l [] U U]):=λ_=>rfl
   simp only[qz 112,ac,baL,bQ,qz 114,qy 116,a5Q,eM (x:=10+y) (by omega) (by omega),eQ]
   refine N A (O.trans<|.ofb C) S rfl aRm (by simp[eB,iR]) (aOJ (by omega) (.inl rfl) (by decide) (by simp) ?_ (by simp) (by simp)<|by decide)
   obtain⟨j,rfl⟩:∃j,D=j+1:=⟨D-1,by grind⟩
   intro z hz
   simp only[eW,ql,bmK] at hz
   subst hz
   exact aOI (λh=>by omega) (.inl rfl) (by decide) (by omega)
  ·simp only[eQ,↓iB]
   exact P
 ·cases tx
  ·cases lp
   ·cases s
    ·simp only[nlP k,eS,k,aRf,bhZ,aQ6,↓jA,aRV,Bool.and_self,↓iC]
     refine aPJ G (by simp) λB A C=>?_
     have S:=C.kq q3
     simp only[qz 118]
     refine aQO A λr s5 hr H T=>?_
     obtain⟨e,t,o,he,rfl⟩:=hr
     have q5:=T.kq S
     have ac:bM brN alz [(0,iv 14),(2,sv [102]),(5, .a [iv e.op,iv e.n,st e.name, .l (e.l.map u7.c) t o])]=V (.a [iv 14,iv 0,st ⟨#[102]⟩,st ⟨#[]⟩, .l (([]:List u7).map u7.c) U U,iv e.op,iv e.n,st e.name, .l (e.l.map u7.c) t o, .l (([]:List m8).map m8.c) U U, .l (([]:List m8).map m8.c) U U]):=rfl
     simp only[qz 120,qy 122,ac,aY]
     exact N H ((O.trans<|.ofm C).trans<|.ofb T) q5 rfl aRm (by simp[eB,iR]) (by grind [aOI,shE.len])
    ·simp only[nlP k,eS,k,aRf,bhZ,aQ6,↓jA,aRV,Bool.and_self,↓iB]
     exact P
   ·simp only[nlP k,eS,k,aRf,bhZ,aQ6,↓jN,bcW,Bool.and_false,↓iB]
    exact P
  ·simp only[u0,↓jN,bcW,↓iB]
   exact P
 ·cases tx
  ·simp only[nlP k,eS,k,aRf,aQ6,aPh,↓jA,aRV]
   refine aO4 G λy B y1 y2 A C=>?_
   have S:=C.kq q3
   have ac:bM brN alz [(0,iv 15),(2,sv [97]),(3,sv [102])]=V (.a [iv 15,iv 0,st ⟨#[97]⟩,st ⟨#[102]⟩, .l (([]:List u7).map u7.c) U U,iv (u7.mk 0 0 ⟨#[]⟩ []).op,iv (u7.mk 0 0 ⟨#[]⟩ []).n,st (u7.mk 0 0 ⟨#[]⟩ []).name, .l ((u7.mk 0 0 ⟨#[]⟩ []).l.map u7.c) U U, .l (([]:List m8).map m8.c) U U, .l (([]:List m8).map m8.c) U U]):=rfl
   simp only[ac,eQ]
   exact⟨λ_=>N A (O.trans<|.ofb C) S rfl aRm (by simp[eB,iR])<|aOI (by omega) (.inl rfl) (by decide)<|by decide,λ_=>bc A (O.trans<|.ofb C) S⟩
  ·simp only[u0,aOq,↓jN,bcW,↓iB]
   exact P
theorem ba1{D:Nat}(l:∀i,i<D->aQH m b i)(M:Mak Y m b hs h)(k:L hs+D<=500)(w:∀cs x g Y1,Lv Y Y1 cs (m8.c x)->(∀q∈eB (.a cs),q.1=30\/q.1=126)->shS (D+1) x->Mak Y1 m b hs g->RH m b Y h Y1 g->K (.a cs) Y1):cB 244 [.p m 0 0,iv D] Y d K:=by refine jH rfl (bdy l M k) ?_;rintro r Y1 ⟨cs,x,g,rfl,n,s,u,v,j⟩;exact⟨j.f.len,by grind⟩
theorem sA.bx{e z a bA}(g:sA Y e z a bA):∀q∈aA a,∃x,box Y q=V x:=by rcases g with⟨_,rfl⟩|⟨b,m,rfl,c⟩;simp[aA];grind [aA]
theorem bdw:∀D,aQH m b D:=by
 intro D
 induction D using Nat.strongRecOn with
 |ind D ih=>
 intro Y hs h n M hl H h3
 have hm:=M.sm
 have aq:=M.sb
 refine bgq M.le ?_
 simp only[aUP]
 refine jD (α:=AV×List m8×AV) (λx i=>[x.1,iv i]) 1 n.toNat (λk x Y'=>sA Y' 274 11 x.1 (x.2.1.map m8.c)/\L x.2.1<=k/\(∀y∈x.2.1,shS (D+1) y)/\(∀q∈aA x.1,bK Y q/\q.1=30)/\Mak Y' m b hs x.2.2/\RH m b Y h Y' x.2.2)
  (s0:=(.l [] U U,[],h)) ⟨.inl ⟨rfl,rfl⟩,by simp,by simp,by simp[aA],M,RH.refl⟩ ?_
 rintro k ⟨a1,l1,h1⟩ Y1 hk ⟨g1,g2,S,T,B,v⟩
 simp only at g1 g2 S T B v
 obtain⟨th,lf,s,tx,ap,lp,r⟩:=B.mx
 have F:aNR (SsR Y m b hs h D n) Y1 [a1]:=⟨l1,h1,g1,by omega,S,T,B,v⟩
 have E:k<n.toNat->∀d I1 m1 vs,vs=[a1,iv k]->(I1=yI (λ(x:AV×List m8×AV) i=>[x.1,iv i]) n.toNat λk x Y'=>sA Y' 274 11 x.1 (x.2.1.map m8.c)/\L x.2.1<=k/\(∀y∈x.2.1,shS (D+1) y)/\(∀q∈aA x.1,bK Y q/\q.1=30)/\Mak Y' m b hs x.2.2/\RH m b Y h Y' x.2.2)->m1=gM 1 n.toNat->cB 244 [.p m 0 0,iv D] Y1 d (aUQ vs I1 m1 Y1):=by
  rintro j d I1 m1 vs rfl rfl rfl
  refine ba1 ih B hl λcs x X O Lw k1 k2 M2 C=>?_
  have ah:L cs=11:=by have:=brD L Lw.eq;grind [biw]
  have Z:aX brU 1 O [(0, .a cs)]=V (.l ([x].map m8.c) U U,kills O<|eB<|.a cs):=aQm Lw.eq biw (by decide) aS7 (by decide)
  simp only[aUQ,Z,bQ,au]
  have A:=aOp (eB<|.a cs) O
  have ka:∀q∈aA a1,q∉eB (.a cs):=λq z N=>by
   obtain⟨x,hx⟩:=g1.bx q z
   exact(Lw.nw q N).ne hx rfl
  have G3:=(g1.fx C.f<|by grind [Mak.out]).fx A ka
  have R:=M2.fx A (by grind) (by grind) (λq z N=>by grind [Mak.sh])
  refine apQ G3 R.le (by grind [biw]) (by grind [biw]) (by simp) (by simp;omega) λa' s6 W P N6=>?_
  rw[<-dg] at W
  have M6:=R.fx P (by grind) (by grind) (λq z N=>by grind [Mak.sh])
  have FA:=(v.f.trans C.f).trans A
  have R6:RH m b Y h s6 X:=⟨((v.trans C).f.trans<|A.trans P).mono λq z=>by
   rcases dF.1 z with g|g
   ·exact .inl g
   rcases dF.1 g with g|g
   ·exact .inr ((Lw.nw q g).old v.f).no
   grind [bK.no],(v.trans C).i⟩
  simp only[aZ9,au,eQ,↓uL]
  refine dR (mk:=λ(x:AV×List m8×AV) i=>[x.1,iv i]) (p:=1) (s:=(a1,l1,h1)) (s':=(a',l1++[x],X)) (λ_ _=>rfl) j (by omega) ⟨W.p,by simp;omega,?_,(by grind [bK.old]),M6,R6⟩
  grind
 rcases Decidable.em ((k:Int)<n) with j|j
 ·have w:=bqH j
  have E:=E (by omega)
  rcases oD k with H|H
  ·have u:Q ((k:Int)=0)=U:=by simp[H]
   simp only[aRp,au,w,u,eQ,↓jA,↓jN,aRV,↓iC,↓uL]
   exact E _ _ _ _ rfl rfl rfl
  ·have u:Q ((k:Int)=0)=I:=by simp;omega
   rcases G:Q (0<lf) with _|_
   ·simp only[aRp,au,w,u,G,nlP r,eS,r,aRf,bhZ,aQ6,↓jA,aRV,bcW,↓iB,↓uL]
    exact F
   ·simp only[aRp,au,w,u,G,nlP r,eS,r,aRf,bhZ,aQ6,↓jA,aRV,bcW,↓iC,↓uL]
    exact E _ _ _ _ rfl rfl rfl
 ·have w:=bnk j
  simp only[aRp,au,w,eQ,↓jN,bcW,↓iB,↓uL]
  exact F
end
section
attribute[local irreducible] aX
def bg4{c b}:=yB1 264 6 3 aNH func191 at1 b [c, .a b]
def bg6{c b d}:=yB1 272 4 4 aNH func277 atB b [c, .a b,d]
def a9t:=kW 11 []
def bg1{c b}:=yB1 274 11 3 aNH func273 a9t b [c, .a b]
def a9u:=kW 19 []
def bg2{c b}:=yB1 274 11 3 aNH func274 a9u b [c, .a b]
def bg0{c b d e f}:=yB1 274 11 6 aNH func275 auF b [c, .a b,d,e,f]
def a9x:=kW 21 [(6,([31],[0,3,4,25]))]
def bg5{c b}:=yB1 274 11 3 aNH func243 a9x b [c, .a b]
def a9y:=kW 5 [(1,([4],[0,1]))]
def a7T{a a1}:=yB aNH func190 a9y [a,a1]
end
structure Gn(κ:Int)(Y:ae)(b:Id)(w:pz)(loc:List ByteArray)(a:AV)(n:Nat):Prop where
 bx0:∃s nx:Int,(0<=nx/\nx<=n+κ)/\box Y b=V ⟨260,10,U,U,[[sl cA.c w.cells,sl dS.c w.ak,sl aPI.c w.bC,sl cs w.bU,sl cs w.ay,sl dL.c w.dU,sl cs loc,a,iv s,iv nx]]⟩
 ga:∃out:List awG,sA Y 264 6 a (out.map awG.c)/\L out=n
 le:L Y=4096
 sb:b.1=45
 sa:∀q∈aA a,q.1=16
 wb:WBd w
 lb:L loc<1000
 hq:∃c∈w.cells,c.name=qN
theorem Gn.bx{κ Y b w loc a n}(G:Gn κ Y b w loc a n):∃s nx:Int,box Y b=V ⟨260,10,U,U,[[sl cA.c w.cells,sl dS.c w.ak,sl aPI.c w.bC,sl cs w.bU,sl cs w.ay,sl dL.c w.dU,sl cs loc,a,iv s,iv nx]]⟩:=by grind [Gn.bx0]
def aRZ{w:pz}{l}:aN (V 6) (sl cA.c w.cells::sl dS.c w.ak::sl aPI.c w.bC::sl cs w.bU::sl cs w.ay::sl dL.c w.dU::l)=V (.a w.c):=rfl
structure R4(b:Id)(Y:ae)(a:AV)(Y1:ae)(a1:AV):Prop where
 f:Fx Y Y1 (b::aA a)
 i:∀q∈aA a1,q∈aA a\/bK Y q
section
variable{κ:Int}{Y Y0 Y1 Y2:ae}{b:Id}{w:pz}{loc:List ByteArray}{a a0 a1 a2:AV}{n N:Nat}{d:Nat}{K:be}{ol:List awG}
theorem R4.refl:R4 b Y a Y a:=⟨Fx.refl _ _,λ_ h=> .inl h⟩
theorem R4.trans(h:R4 b Y a Y1 a1)(c:R4 b Y1 a1 Y2 a2):R4 b Y a Y2 a2:=by refine⟨(h.f.trans c.f).mono λq e=>?_,λq e=>(c.i q e).elim (h.i q) λg=> .inr<|g.old h.f⟩;grind [R4.i,bK.no]
def R4.of0(F:Fx Y Y1 []):R4 b Y a Y1 a:=⟨F.mono (by simp),λ_ h=> .inl h⟩
theorem R4.ofb(F:Fx Y Y1 [b]):R4 b Y a Y1 a:=⟨(by grind [Fx.mono]),λ_ h=> .inl h⟩
theorem Gn.fx(G:Gn κ Y b w loc a n){ks}(F:Fx Y Y1 ks)(f:b∉ks)(c:∀q∈aA a,q∉ks):Gn κ Y1 b w loc a n:=by obtain⟨s,nx,i,h⟩:=G.bx0;obtain⟨out,g,e⟩:=G.ga;exact⟨(by grind [Fx.keep]),⟨out,g.fx F c,e⟩,F.len.trans G.le,G.sb,G.sa,G.wb,G.lb,G.hq⟩
theorem Gn.mono(G:Gn κ Y b w loc a n){κ'}(h:κ<=κ'):Gn κ' Y b w loc a n:=by obtain⟨s,nx,e,c⟩:=G.bx0;exact⟨(by grind),G.ga,G.le,G.sb,G.sa,G.wb,G.lb,G.hq⟩
theorem Gn.fx0(G:Gn κ Y b w loc a n)(F:Fx Y Y1 []):Gn κ Y1 b w loc a n:=G.fx F (by simp) (by simp)
theorem Gn.out(G:Gn κ Y b w loc a n):∀q,q.1≠45->q.1≠16->q∉b::aA a:=λq c e f=>by
 grind [Gn.sb,Gn.sa]
def GR(κ:Int)(N:Nat)(Y:ae)(b:Id)(w:pz)(loc:List ByteArray)(a:AV)(n:Nat)(r:AV)(Y1:ae):Prop:=∃e c,r= .t []/\Gn κ Y1 b w loc e c/\n<=c/\c<=n+N/\R4 b Y a Y1 e
theorem aPv{fn xs}(i:uQ.elem fn=I)(h:∃r Y1,GR κ N Y b w loc a n r Y1/\cZ aS GG fn xs Y r Y1)(m:∀e c Y1,Gn κ Y1 b w loc e c->n<=c->c<=n+N->R4 b Y a Y1 e->K (.t []) Y1):cB fn xs Y d K:=by refine jH i h ?_;rintro r Y1 ⟨e,c,rfl,j,k,l,g⟩;exact⟨g.f.len,by grind⟩
theorem bdp(G:Gn κ Y b w loc a n)(hn:n<100000)(x:awG):∃r Y1,(∃h,r= .t []/\Gn (κ-1) Y1 b w loc h (n+1)/\R4 b Y a Y1 h)/\cZ aS GG 191 [.p b 0 0, .a x.c] Y r Y1:=by obtain⟨R,S⟩:=b;obtain rfl:R=45:=G.sb;refine bg4 G.le rfl λs2 v3 O ab nf2 H=>?_;have A:=O.fx [];have G2:=G.fx0 A;obtain⟨s,nx,D⟩:=G2.bx;simp only[nlP D,eS,D,H,aRf,bhZ,aQ6];refine stC H rfl (by show 5<6;decide) λy B Z=>?_;have M:box y (3,v3)=V ⟨264,6,U,U,[awG.c {x with site:=s}]⟩:=Z;have j:=G2.fx B (by simp) (λq i e=>by grind [Gn.sa]);obtain⟨s',ac,F,k⟩:=j.bx0;have E:∀{x:awG},aX bu5 1 y [(0, .a<|awG.c x)]=V (.l ([x].map awG.c) U U,y):=λ{x}=>ua rfl rfl rfl (by decide) rfl (by decide);simp only[qz 4,qy 6,nlP k,eS,k,M,H7,E];obtain⟨out,g,W⟩:=j.ga;refine apQ g j.le (qW (f:=awG.c) (z:=6) λ_=>rfl) (by grind [awG.c]) (by simp) (by simp;omega) λh s4 v o P=>?_;rw[<-dg] at v;have m:=o.keep _ _ (λi=>by have:=j.sa _ i;simp at this) k;simp only[qz 8,nlP m,eS,m];refine stC m v.p.ce (by simp) λs5 u T=>?_;refine dT (by first|rfl|(simp[eL,okT,tok,lb,cq,Qh,zt,dC,pP,dK,awG.c];done)) ?_;have C:∀q∈aA h,q∉[((45,S):Id)]:=(by grind);have X:∀q∈aA h,bK Y q:=(by grind [bK.old]);refine⟨h,rfl,⟨⟨_,_,⟨F.1,by omega⟩,T⟩,⟨out++[_],v.p.fx u C,by simp[W]⟩,u.len.trans<|o.len.trans j.le,rfl,λq i=>(P q i).2,G.wb,G.lb,G.hq⟩,⟨(((A.trans B).trans o).trans u).mono λq i=>?_,by simp_all⟩⟩;grind
theorem aPw(G:Gn κ Y b w loc a n)(i:n<100000){x:awG}(k:∀e Y1 g,Gn (κ-1) Y1 b w loc e g->n+1<=g->g<=n+1->R4 b Y a Y1 e->K (.t []) Y1):cB 191 [.p b 0 0, .a x.c] Y d K:=by refine jH rfl (bdp G i x) ?_;rintro r Y1 ⟨e,rfl,j,h⟩;exact⟨h.f.len,by grind⟩
theorem a58(h:∃c∈w.cells,c.name=qN):aF (L w.cells) (uo (λi=>Q<|(gd w.cells i).name=qN)<|L w.cells):=by obtain⟨c,f,k⟩:=h;obtain⟨j,g,rfl⟩:=ou f;have e:=aTb (p:=λi=>Q<|(gd w.cells i).name=qN) (n:=L w.cells);refine⟨?_,e.2⟩;unfold uo;split;omega;simp_all [bT]
def bV:Nat->Nat|0=>0|m+1=>1+2*bV m
def ban{o x y}:bM bs4 anY [(0,iv o),(1,iv x),(4,iv y)]=V (.a<|awG.c ⟨o,x,0,0,y,0⟩):=rfl
def bao{o x y}:bM bs4 anY [(0,iv o),(1,iv x),(2,iv y)]=V (.a<|awG.c ⟨o,x,y,0,0,0⟩):=rfl
def bap{o x y z u}:bM bs4 anY [(0,iv o),(1,iv x),(2,iv y),(3,iv z),(4,iv u)]=V (.a<|awG.c ⟨o,x,y,z,u,0⟩):=rfl
def baq{o x}:bM bs4 anY [(0,iv o),(1,iv x)]=V (.a<|awG.c ⟨o,x,0,0,0,0⟩):=rfl
def bar{o}:bM bs4 anY [(0,iv o)]=V (.a<|awG.c ⟨o,0,0,0,0,0⟩):=rfl
def bdI:=ai @ban<|ai @bao<|ai @bap<|ai @baq<|@bar
theorem GR.mono{N M r}(h:GR κ N Y b w loc a n r Y1)(l:N<=M):GR κ M Y b w loc a n r Y1:=by obtain⟨c,j,e,f,g,k,i⟩:=h;exact⟨c,j,e,f,g,by omega,i⟩
theorem bdC:∀(m) {Y a n e dd},Gn κ Y b w loc a n->n+bV m<100000->shE m e->∃r Y1,GR (κ-1) (bV m) Y b w loc a n r Y1/\cZ aS GG 277 [.p b 0 0, .a e.c,iv dd] Y r Y1:=by
 intro m
 induction m with
 |zero=>intro Y a n e dd G hn D;exact D.elim
 |succ m ih=>
  intro Y a n e dd G hn D
  obtain⟨b1,g⟩:=b
  obtain rfl:b1=45:=G.sb
  have ar:bV (m+1)=1+2*bV m:=rfl
  refine bg6 G.le aN9 λs2 v4 K2 aw nf2 y=>?_
  have H:=K2.fx []
  have G2:=G.fx0 H
  have z:R4 (45,g) Y a s2 a:=R4.of0 H
  obtain⟨s,nx,T⟩:=G2.bx
  have S:=G.wb
  have hL:=G.lb
  have q4:∀q:Id,q.1=4->q∉((45,g):Id)::aA a:=(by grind [Gn.out])
  have j:∀{u:ae} {v:AV} {h:Nat} {x:awG} {d:Nat},Gn κ u (45,g) w loc v h->n<=h->h<=n+2*bV m->R4 (45,g) Y a u v->cB 191 [.p (45,g) 0 0, .a x.c] u d λay ad=>aNR (GR (κ-1) (bV<|m+1) Y (45,g) w loc a n) ad []:=λi k h2 o=>
   aPw i (by omega) λC Y1 B G' g1 R R'=>⟨C,B,rfl,G',by omega,by omega,o.trans R'⟩
  have val:∀{u:ae} {v:AV} {h:Nat} {P:u7} {O:Int} {d:Nat} {K:be},Gn κ u (45,g) w loc v h->h<=n+bV m->shE m P->(∀C B Y1,Gn κ Y1 (45,g) w loc C B->h<=B->B<=h+bV m->R4 (45,g) u v Y1 C->K (.t []) Y1)->cB 277 [.p (45,g) 0 0, .a P.c,iv O] u d K:=λi k W hK=>aPv rfl (ih i (by omega) W) (by grind [Gn.mono])
  have an:=D.2
  rcases D.1 with⟨k|k,au⟩|⟨k,Z,av⟩|⟨k,X⟩
  ·simp only[qy 4,eS,y,H7,k,boV,↓iC,bdI]
   exact j G2 (by omega) (by omega) z
  ·have A:dG s2 (.a w.c)= .a w.c:=rfl
   simp only[qy 6,qy 8,nlP T,eS,T,y,H7,aRZ,k,boV,bqJ,Int.reduceEq,↓iC,↓iB,jM,kU,jt,A,tW,alg,aD6,AL,bdI,aNG]
   exact⟨by omega,λ_=>j G2 (by omega) (by omega) z,λ_=>⟨by have:=S.1;omega,j G2 (by omega) (by omega) z⟩⟩
  ·simp only[eS,y,H7,k,boV,bqJ,Int.reduceEq,↓iC,↓iB,ixv,rr]
   refine⟨⟨by omega,by omega⟩,val G2 (by omega) (by grind [dB]) λv h s3 i g1 R o=>?_⟩
   have E:=o.f.keep _ _ (q4 _ rfl) y
   obtain⟨s',ax,F⟩:=i.bx
   have A:dG s3 (.a w.c)= .a w.c:=rfl
   simp only[qz 10,qy 12,nlP F,eT,F,E,H7,aRZ,Z,jM,kU,jt,A,tW,aD6,AL,ix,bdI,aNG]
   exact⟨by have:=S.1;omega,a58 G.hq,j i (by omega) (by omega)<|z.trans o⟩
  ·have o1:e.op≠1:=by omega
   have o2:e.op≠2:=by omega
   have o3:e.op≠3:=by omega
   have ol:Q ((L e.l:Int)=1)=I:=by simp[X]
   simp only[eS,y,H7,o1,o2,o3,ol,bqJ,↓iB,ixv,rr]
   refine⟨⟨by omega,by omega⟩,val G2 (by omega) (by grind [dB]) λv h s3 i g1 R o=>?_⟩
   have E:=o.f.keep _ _ (q4 _ rfl) y
   simp only[qz 18,eS,E,H7,ixv,rr]
   refine⟨⟨by omega,by omega⟩,val i (by omega) (by grind [dB]) λa5 n5 s5 G5 g3 g4 M=>?_⟩
   have q5:=M.f.keep _ _ (by grind [Gn.out]) E
   simp only[qz 20,qy 22,eS,q5,H7,bdI]
   exact j G5 (by omega) (by omega)<|(z.trans o).trans M
theorem aRF(G:Gn κ Y b w loc a n)(j:n<90000){e}(i:shE 2 e){dd}(h:∀g f Y1,Gn (κ-1) Y1 b w loc g f->n<=f->f<=n+3->R4 b Y a Y1 g->K (.t []) Y1):cB 277 [.p b 0 0, .a e.c,iv dd] Y d K:=aPv rfl (bdC 2 G (by grind [bV]) i) h
theorem bda(G:Gn κ Y b w loc a n)(hn:n<80000){x:m8}(H:shE 2 x.expr)(hI:∀y∈x.index,shE 2 y)(O:x.index≠[]->x.name=qN)(ah:L x.index<=1):∃r Y1,GR (κ-1) 7 Y b w loc a n r Y1/\cZ aS GG 273 [.p b 0 0, .a x.c] Y r Y1:=by
 obtain⟨b1,i⟩:=b
 obtain rfl:b1=45:=G.sb
 refine bg1 G.le biw λs2 v3 W ak nf2 z=>?_
 have A:=W.fx []
 have G2:=G.fx0 A
 have u:R4 (45,i) Y a s2 a:=R4.of0 A
 obtain⟨s,nx,F⟩:=G2.bx
 have E:=G.wb
 have hL:=G.lb
 have j:∀{v:ae} {m:AV} {l:Nat} {x:awG} {d:Nat},Gn κ v (45,i) w loc m l->n<=l->l<=n+6->R4 (45,i) Y a v m->cB 191 [.p (45,i) 0 0, .a x.c] v d λal S=>aNR (GR (κ-1) 7 Y (45,i) w loc a n) S []:=λg h1 h2 e=>
  aPw g (by omega) λZ Y1 n' T g1 D X=>⟨Z,n',rfl,T,by omega,by omega,e.trans X⟩
 simp only[nlP F,eS,F,z,H7,ixv,rr]
 refine⟨λh=>?_,λh=>?_⟩
 ·have ab:0<L x.index:=by simpa using h
  have M:x.index≠[]:=(by grind)
  refine⟨⟨by omega,by omega⟩,aRF G2 (by omega) (by grind [dB]) λm l R g g1 D e=>?_⟩
  have o:=e.f.keep _ _ (by grind [Gn.out]) z
  simp only[qz 4,eS,o,H7]
  refine aRF g (by omega) H λa5 n5 s5 B g3 g4 C=>?_
  have q5:=C.f.keep _ _ (by grind [Gn.out]) o
  obtain⟨s',P,t⟩:=B.bx
  have k:dG s5 (.a w.c)= .a w.c:=rfl
  simp only[qz 6,qy 8,nlP t,eT,t,q5,H7,aRZ,O M,jM,kU,jt,k,tW,aD6,AL,ix,bdI,aNG]
  exact⟨by have:=E.1;omega,a58 G.hq,j (B.mono<|by omega) (by omega) (by omega)<|(u.trans e).trans C⟩
 ·refine aRF G2 (by omega) H λm l R g g1 D e=>?_
  have o:=e.f.keep _ _ (by grind [Gn.out]) z
  obtain⟨s',P,q⟩:=g.bx
  have k:dG R (.a w.c)= .a w.c:=rfl
  simp only[qz 10,qy 12,qy 14,nlP q,eS,q,o,H7,aRZ,jM,kU,jt,k,tW,alg,aD6,AL,bdI,aNG]
  exact⟨by omega,λ_=>j (g.mono<|by omega) (by omega) (by omega)<|u.trans e,λ_=>⟨by have:=E.1;omega,j (g.mono<|by omega) (by omega) (by omega)<|u.trans e⟩⟩
theorem bcN(g:sA Y 264 6 a<|ol.map awG.c){i:Nat}(u:i<L ol){j:Nat}(z:j=1\/j=2){v:Int}{K}(t:∀(Y') (e:List awG),L e=L ol->sA Y' 264 6 a (e.map awG.c)->Fx Y Y' (aA a)->K Y'):rV (cz 6 Y a<|iv i) λk=>rV (iQ j Y k) λl=>sV (aK 1 Y l<|iv v) K:=by rcases g with⟨h,rfl⟩|⟨q,m,rfl,f⟩;simp_all;have r:cz 6 Y (.m q<|L<|ol.map awG.c) (iv i)=V (.p q i 0):=(by simp[cz,f,u]);have s:iQ j Y (.p q i 0)=V (.p q i j):=(by simp[iQ,f]);simp only[r,s,aY];have A:(ol.map awG.c++m)[i]?=V (awG.c<|gd ol i):=(by grind [bT]);refine aQz (x:=iv v) f A (by show j<6;omega) rfl rfl rfl λY' F o=>?_;obtain⟨y,B⟩:∃y:awG,(awG.c<|gd ol i).set j (iv v)=y.c:=(by rcases z with rfl|rfl;exact⟨{gd ol i with a:=v},rfl⟩;exact⟨{gd ol i with b:=v},rfl⟩);have hs:(ol.map awG.c++m).set i ((awG.c<|gd ol i).set j<|iv v)=(ol.set i y).map awG.c++m:=(by simp_all);refine t Y' (ol.set i y) (by simp) (.inr ⟨q,m,by simp,?_⟩) (by grind [aA]);rw[o,<-hs];rfl
theorem Gn.patch(G:Gn κ Y b w loc a n){i}(p:i<n){j}(k:j=1\/j=2){v K}(f:∀Y',Gn κ Y' b w loc a n->R4 b Y a Y' a->K Y'):rV (cz 6 Y a<|iv i) λc=>rV (iQ j Y c) λe=>sV (aK 1 Y e<|iv v) K:=by obtain⟨s,nx,r,o⟩:=G.bx0;obtain⟨out,g,q⟩:=G.ga;refine bcN g (by omega) k λY' out' l m F=>f Y' ⟨(by grind [Fx.keep,Gn.sa,Gn.sb]),(by grind),F.len.trans G.le,G.sb,G.sa,G.wb,G.lb,G.hq⟩ ⟨(by grind [Fx.mono]),λ_ h=> .inl h⟩
theorem Gn.set(G:Gn κ Y b w loc a n){v K}(e:∀Y',Gn κ Y' b w loc a n->Fx Y Y' [b]->K Y'):sV (aK 1 Y (.p b 0 8)<|iv v) K:=by obtain⟨s,nx,h,f⟩:=G.bx0;obtain⟨out,g,i⟩:=G.ga;exact stC f rfl (by simp) λY' F c=>e Y' ⟨⟨v,nx,h,c⟩,(by grind [sA.fx,Gn.sa,Gn.sb]),F.len.trans G.le,G.sb,G.sa,G.wb,G.lb,G.hq⟩ F
theorem Gn.nxt(G:Gn κ Y b w loc a n){v}(h:0<=v)(i:v<=n+κ){K}(c:∀Y',Gn κ Y' b w loc a n->Fx Y Y' [b]->K Y'):sV (aK 1 Y (.p b 0 9)<|iv v) K:=by obtain⟨s,nx,k,e⟩:=G.bx0;obtain⟨out,g,j⟩:=G.ga;exact stC e rfl (by simp) λY' F f=>c Y' ⟨(by simp_all),(by grind [sA.fx,Gn.sa,Gn.sb]),F.len.trans G.le,G.sb,G.sa,G.wb,G.lb,G.hq⟩ F
def bG:Nat->Nat|0=>0|m+1=>10+8*bG m
def aRo(b:Id)(w:pz)(loc:List ByteArray)(m:Nat):Prop:=∀{κ:Int} {Y:ae} {a:AV} {n:Nat} {l:List m8},Gn κ Y b w loc a n->κ<=1000000->shL m 8 l->n+L l*bG m<60000->∃r Y1,GR κ (L l*bG m) Y b w loc a n r Y1/\cZ aS GG 190 [.p b 0 0,sl m8.c l] Y r Y1
theorem aV7{m}(i:aRo b w loc m)(G:Gn κ Y b w loc a n)(h:κ<=1000000){l}(e:shL m 4 l)(o:n+4*bG m<60000)(k:∀g f Y1,Gn κ Y1 b w loc g f->n<=f->f<=n+4*bG m->R4 b Y a Y1 g->K (.t []) Y1):cB 190 [.p b 0 0,sl m8.c l] Y d K:=by have j:L l*bG m<=4*bG m:=qo _ e.1;exact aPv rfl (i G h ⟨by have:=e.1;omega,e.2⟩<|by omega) (by grind)
theorem bc9{m}(E:aRo b w loc m)(G:Gn κ Y b w loc a n){x}(D:shS (m+1) x)(hn:n+bG (m+1)<60000)(T:κ<=1000001)(o1 H y):∃r Y1,GR (κ-1) (bG<|m+1) Y b w loc a n r Y1/\cZ aS GG 275 [.p b 0 0, .a x.c,iv o1,iv H,iv y] Y r Y1:=by obtain⟨m',S,g1,g2⟩:=D.body;obtain rfl:m=m':=(by omega);have R:bG (m+1)=10+8*bG m:=rfl;obtain⟨B,C⟩:=b;obtain rfl:B=45:=G.sb;refine bg0 G.le biw λP v3 u W nf2 M=>?_;have g:=u.fx [];have G2:=G.fx0 g;have v:R4 (45,C) Y a P a:=R4.of0 g;obtain⟨s,nx,k⟩:=G2.bx;simp only[nlP k,eS,k,aRf,bhZ,aQ6,bdI];refine aPw G2 (by omega) λZ s3 n3 o h1 h2 i=>?_;have O:=i.f.keep _ _ (by grind [Gn.out]) M;simp only[qz 4,eS,O,H7];refine aV7 E o (by omega) g1 (by omega) λa4 n4 s4 h h3 h4 j=>?_;obtain⟨s',X,e⟩:=h.bx;simp only[qz 6,nlP e,eS,e];refine h.set λs5 q l=>?_;simp only[qz 8,qy 10,bdI,aY];refine aPw q (by omega) λA s6 F t h5 h6 z=>⟨A,F,rfl,t.mono (by omega),by omega,by omega,(((v.trans i).trans j).trans<|R4.ofb l).trans z⟩
theorem a6I{m}(ih:aRo b w loc m)(G:Gn κ Y b w loc a n){x}(hx:shS (m+1) x)(he:shE 2 x.expr)(hn:n+bG (m+1)<60000)(aU:κ<=1000001):∃r Y1,GR (κ-1) (bG<|m+1) Y b w loc a n r Y1/\cZ aS GG 274 [.p b 0 0, .a x.c] Y r Y1:=by obtain⟨m',aQ,g1,g2⟩:=hx.body;obtain rfl:m=m':=(by omega);have aP:bG (m+1)=10+8*bG m:=rfl;obtain⟨b1,O⟩:=b;obtain rfl:b1=45:=G.sb;refine bg2 G.le biw λs2 v3 K2 aV nf2 q2=>?_;have B:=K2.fx [];have G2:=G.fx0 B;have R2:R4 (45,O) Y a s2 a:=R4.of0 B;obtain⟨s,nx,W⟩:=G2.bx;obtain⟨o2,P,aR⟩:=G2.ga;simp only[nlP W,eS,W,q2,H7,P.ln];refine aRF G2 (by omega) he λa3 n3 s3 u h1 h2 R3=>?_;have q3:=R3.f.keep _ _ (by grind [Gn.out]) q2;obtain⟨s',aW,l⟩:=u.bx;obtain⟨o3,R,X⟩:=u.ga;simp only[qz 4,nlP l,eS,l,aRf,bhZ,aQ6,R.ln,bdI];refine aPw u (by omega) λa4 s4 n4 G4 h3 h4 E=>?_;have q4:=E.f.keep _ _ (by grind [Gn.out]) q3;simp only[qz 6,eS,q4,H7];refine aV7 ih G4 (by omega) g1 (by omega) λH n5 s5 D h5 h6 R5=>?_;have q5:=R5.f.keep _ _ (by grind [Gn.out]) q4;obtain⟨aZ,aC,o⟩:=D.bx;simp only[qz 8,nlP o,eS,o];refine D.set λs6 h F6=>?_;have q6:=F6.kq q5;have F:R4 (45,O) Y a s6 H:=(by grind [R4.trans,R4.ofb]);obtain⟨a8,aX,q⟩:=h.bx;obtain⟨o6,S,Z⟩:=h.ga;have z:L (o3.map awG.c)=n3:=(by simp[X]);simp only[qz 10,qy 16,nlP q,eS,q,q6,H7,S.ln,bdI,z];refine⟨λ_=>?_,λ_=>⟨λ_=>?_,λ_=>?_⟩⟩;refine aPw h (by omega) λM s7 n7 g h7 h8 y=>?_;obtain⟨ak,ae,e⟩:=g.bx;obtain⟨o7,k,aa⟩:=g.ga;simp only[qz 12,qy 14,nlP e,eS,e,aRf,bhZ,aQ6,k.ln];refine g.patch (by omega) (.inr rfl) λs8 i j=>?_;exact⟨M,n7,rfl,i.mono (by omega),by omega,by omega,(F.trans y).trans j⟩;refine h.patch (by omega) (.inr rfl) λs8 i j=>?_;exact⟨H,n5,rfl,i.mono (by omega),by omega,by omega,F.trans j⟩;refine aPw h (by omega) λM s7 n7 g h7 h8 y=>?_;have q7:=y.f.keep _ _ (by grind [Gn.out]) q6;obtain⟨ak,ae,e⟩:=g.bx;obtain⟨o7,k,aa⟩:=g.ga;simp only[qz 18,nlP e,eS,e,aRf,bhZ,aQ6,k.ln];refine g.patch (by omega) (.inr rfl) λs8 i j=>?_;have q8:=j.f.keep _ _ (by grind [Gn.out]) q7;simp only[qz 20,eS,q8,H7];refine aV7 ih i (by omega) g2 (by omega) λa9 n9 s9 v h9 aO R9=>?_;obtain⟨ba,aY,t⟩:=v.bx;obtain⟨o9,T,aT⟩:=v.ga;have A:L (o6.map awG.c)=n5:=(by simp[Z]);simp only[qz 22,qy 24,nlP t,eS,t,aRf,bhZ,aQ6,T.ln,A];refine v.patch (by omega) (.inl rfl) λa6 C aN=>?_;exact⟨a9,n9,rfl,C.mono (by omega),by omega,by omega,by grind [R4.trans]⟩
theorem bde(G:Gn κ Y b w loc a n)(h):∃r Y1,((∃v,r= .s v/\∃u:Int,AV.s v=iv u)/\Fx Y Y1 [])/\cZ aS GG 276 [.p b 0 0,st h] Y r Y1:=by refine bg3 G.le ?_;obtain⟨s,nx,e⟩:=G.bx;have i:=G.wb.2.2.1;refine bc4 (L w.bC) (λk=>True) trivial λk l j=>?_;have g:∀u:Int,aNR (λr Y1=>(∃v,r= .s v/\∃u:Int,AV.s v=iv u)/\Fx Y Y1 []) Y [iv u]:=λu=>⟨⟨_,rfl,u,rfl⟩,Fx.refl _ _⟩;simp+contextual only[qz 19,au,nlP e,eT,e,aRf,bhZ,aQ6,aBz (f:=aPI.c) (z:=2)<|λ_=>rfl,bh,g];grind [dJ,gS]
theorem baW(G:Gn κ Y b w loc a n){c}(e:∀u,K (iv u) Y):cB 276 [.p b 0 0,st c] Y d K:=aV6 rfl (bde G c) (by simp_all)
theorem bdx{m}(X:aRo b w loc m)(G:Gn κ Y b w loc a n){x}(H:shS (m+1) x)(W:n+bG (m+1)<60000)(aJ:κ<=1000000):∃r Y1,GR κ (bG<|m+1) Y b w loc a n r Y1/\cZ aS GG 243 [.p b 0 0, .a x.c] Y r Y1:=by
 have B:=H.at
 have ho:=H.ops
 have aF:bG (m+1)=10+8*bG m:=rfl
 obtain⟨b1,i⟩:=b
 obtain rfl:b1=45:=G.sb
 refine bg5 G.le biw λs2 v3 K2 aK nf2 q2=>?_
 have F2:=K2.fx []
 have G2:=G.fx0 F2
 obtain⟨s,nx,hb⟩:=G2.bx
 simp only[nlP hb,eS,hb,aRf,bhZ,aQ6]
 refine G2.set λs3 M F3=>?_
 have q3:=F3.kq q2
 obtain⟨s',am,aG,P⟩:=M.bx0
 simp only[qz 4,nlP P,eS,P,aRf,bhZ,aQ6,eM (x:=am+1) (by omega)<|by omega]
 refine(M.mono (κ':=κ+1)<|by omega).nxt (by omega) (by omega) λE g F4=>?_
 have q4:=F4.kq q3
 have j:R4 (45,i) Y a E a:=((R4.of0 F2).trans<|R4.ofb F3).trans<|R4.ofb F4
 obtain⟨aM,az,C⟩:=g.bx
 have A:=g.wb
 have hL:=g.lb
 have O:∀{T:ae} {a3:AV} {Z:Nat} {x:awG} {d:Nat},Gn (κ+1) T (45,i) w loc a3 Z->n<=Z->Z<=n+3->R4 (45,i) Y a T a3->cB 191 [.p (45,i) 0 0, .a x.c] T d λS v=>aNR (GR κ (bG<|m+1) Y (45,i) w loc a n) v []:=λM l o R3=>
  aPw M (by omega) λk Y1 q G' g1 g2 R'=>⟨k,q,rfl,G'.mono (by omega),by omega,by omega,R3.trans R'⟩
 have t:∀{o1 o2 y:Int} {d:Nat},cB 275 [.p (45,i) 0 0, .a x.c,iv o1,iv o2,iv y] E d λS v=>aNR (GR κ (bG<|m+1) Y (45,i) w loc a n) v []:=λ{o1 o2 y d}=>
  aPv rfl (bc9 X g H W (by omega) o1 o2 y) λk q Y1 l o D z=>⟨k,q,rfl,l.mono (by omega),o,D,j.trans z⟩
 have F:∀{nm:ByteArray} {d:Nat} {K:be},(∀u:Int,K (iv u) E)->cB 276 [.p (45,i) 0 0,st nm] E d K:=λhK=>baW g hK
 have e:∀{x:awG} {d:Nat},cB 191 [.p (45,i) 0 0, .a x.c] E d λS v=>aNR (GR κ (bG<|m+1) Y (45,i) w loc a n) v []:=λ{x d}=>O g (by omega) (by omega) j
 have aE:dG E (.a w.c)= .a w.c:=rfl
 simp only[qz 6,qy 8,nlP C,eS,C,q4,H7]
 have hc:x.op=1\/x.op=2\/x.op=3\/x.op=4\/x.op=5\/x.op=6\/x.op=7\/x.op=8\/x.op=9\/x.op=10\/x.op=11\/x.op=12\/x.op=13\/x.op=14\/x.op=15:=by omega
 rcases hc with h|h|h|h|h|h|h|h|h|h|h|h|h|h|h
 all_goals
  simp only[h,au,qz 41,qz 39,qy 10,qy 12,qy 14,qy 16,qy 18,qy 20,qy 34,qy 36,qy 42,nlP C,eS,C,q4,H7,boV,bqJ,Int.reduceEq,↓iC,↓iB,jM,kU,jt,tW,alg,aD6,rr,bdI,aNG,bc5,Bool.true_eq_false,eE,aQl,aO5]
 ·exact aPv rfl (bda g (by omega) (B.1<|.inl h) B.2.2.1 B.2.2.2.1 B.2.1) λk q Y1 l o D z=>⟨k,q,rfl,l.mono (by omega),o,by omega,j.trans z⟩
 ·exact aPv rfl (a6I X g H (B.1<|by omega) W<|by omega) λk q Y1 l o D z=>⟨k,q,rfl,l.mono (by omega),o,D,j.trans z⟩
 ·exact aPv rfl (a6I X g H (B.1<|by omega) W<|by omega) λk q Y1 l o D z=>⟨k,q,rfl,l.mono (by omega),o,D,j.trans z⟩
 ·exact⟨by have:=A.2.1;omega,λ_=>t⟩
 ·exact⟨by have:=A.2.1;omega,λ_=>t⟩
 ·exact⟨by have:=A.2.1;omega,λ_=>t⟩
 ·exact t
 ·exact t
 ·exact F λu=>by simp only[qz 22,qy 24,bdI,aY];exact e
 ·exact F λu=>by simp only[qz 26,qy 28,bdI,aY];exact e
 ·exact F λu=>by simp only[qz 30,qy 32,bdI,aY];exact e
 ·exact⟨by have:=A.2.2.2.2.1;omega,e⟩
 ·exact⟨by have:=A.2.2.2.2.1;omega,e⟩
 ·refine aRF g (by omega) (B.1<|by omega) λa5 n5 s5 G5 l o R5=>?_
  have q5:=R5.f.keep _ _ (by grind [Gn.out]) q4
  obtain⟨aN,aL,R⟩:=G5.bx
  have aw:dG s5 (.a w.c)= .a w.c:=rfl
  simp only[qz 38,qy 40,nlP R,eS,R,q5,H7,jM,kU,jt,tW,alg,aD6,AL,bdI,aNG]
  exact⟨by have:=A.2.2.2.1;omega,O (G5.mono<|by omega) (by omega) (by omega)<|j.trans R5⟩
 ·exact⟨by omega,by have:=A.2.2.2.1;omega,e⟩
theorem bdz(m):m<=4->aRo b w loc m:=by induction m with|zero=>intro _ κ Y a n l G o e u;have j:l=[]:=(by cases l with|nil=>rfl|cons x l=>exact(e.2 x<|by simp).elim);subst j;refine a7T G.le ?_;refine yV 0 (λ_ _ Y'=>Y'=Y) rfl ?_;rintro k _ Y1 g rfl;obtain rfl:k=0:=(by omega);simp only[qz 7,au,eQ,aO6];exact⟨λh=>by simp at h,λ_=>⟨a,n,rfl,G,by omega,by omega,R4.refl⟩⟩|succ m v=>intro F κ Y a n l G o e u;have E:=G.le;have z:bG (m+1)<=46810:=(by have:m=0\/m=1\/m=2\/m=3:=(by omega);rcases this with rfl|rfl|rfl|rfl<;>decide);refine a7T G.le ?_;refine jD (α:=AV×Nat) (λ_ i=>[iv i]) 0 (L l) (λi x Y'=>Gn κ Y' b w loc x.1 x.2/\n<=x.2/\x.2<=n+i*bG (m+1)/\R4 b Y a Y' x.1) (s0:=(a,n)) (by grind [R4.refl]) ?_;rintro k ⟨a1,p⟩ Y1 g ⟨f,r,D,q⟩;have A:k*bG (m+1)<=L l*bG (m+1):=qo _ g;simp only[qz 7,au,eQ,ixv,bh,rr,H7];refine⟨λh=>⟨vp h,?_⟩,λ_=>⟨a1,p,rfl,f,r,by omega,q⟩⟩;have c:=aL h;have hs:(k+1)*bG (m+1)=k*bG (m+1)+bG (m+1):=Nat.succ_mul _ _;have t:(k+1)*bG (m+1)<=L l*bG (m+1):=qo _ c;refine aPv rfl (bdx (v<|by omega) f (e.2 _<|dB c) (by omega)<|by omega) λa2 y Y2 G2 g1 C B=>?_;simp only[qz 2,au,eQ];exact dR (mk:=λ(_:AV×Nat) i=>[iv i]) (s:=(a1,p)) (s':=(a2,y)) (λ_ _=>rfl) c (by have:=e.1;omega) (by grind [R4.trans])
theorem ba2(G:Gn κ Y b w loc a 0){l}(f:shL 4 8 l)(g:κ<=1000000)(k:∀e h Y1,Gn κ Y1 b w loc e h->h<=50000->R4 b Y a Y1 e->K (.t []) Y1):cB 190 [.p b 0 0,sl m8.c l] Y d K:=by have j:L l*bG 4<=8*bG 4:=qo _ f.1;have i:bG 4=5850:=rfl;exact aPv rfl (bdz 4 (by omega) G g f<|by omega) (by grind)
end
def aQN{fn:FuncId}{xs Y}{d:Nat}{K}{R:be}{ks}(k:uQ.elem fn=I)(i:fps.lookup fn=V ks)(l)(a:∀x∈xs,okX ks l x)(b:okB ks l<|bio ks l Y)(h:∃r Y1,R r Y1/\cZ aS GG fn xs (bio ks l Y) r Y1)(g:∀r Y1,R r Y1->L Y1=L Y/\∃l':List Id,okB ks l' Y1/\okX ks l' r/\K r (avs ks l' Y Y1)):cV fn xs Y d K:=by obtain⟨r,Y1,c,f⟩:=h;obtain⟨j,l',m,n,o⟩:=g r Y1 c;have e:aPf GGV fn=V ks:=(by have p:GGV.fp fn=V ks:=i;have q:GGV.rd fn=I:=k;grind [aPf]);unfold cV tR;rw[e];exact⟨l,l',r,Y1,f,j,a,b,m,n,o⟩
section
variable{ks:eP}{l:List Id}{Y Y1:ae}
def aQw{e z a bA}(g:sA Y1 e z a bA)(h:∀q∈aA a,okI ks l q):okC ks l a:=by rcases g with⟨_,rfl⟩|⟨q,m,rfl,_⟩;exact .inr rfl;exact h q (by simp[aA])
theorem a6y{e z a bA}(g:sA Y e z a bA)(h:∀q∈aA a,okI ks l q):sA (bio ks l Y) e z a bA:=by rcases g with g|⟨q,r,rfl,g⟩;exact .inl g;have b:=h q (by simp[aA]);exact .inr ⟨q,r,rfl,by rw[aOV b.1,sz b.2];exact g⟩
theorem aRR(c:L Y1=L Y){e}{z:Nat}{a bA}(g:sA Y1 e z a bA)(h:∀q∈aA a,okI ks l q):sA (avs ks l Y Y1) e z a bA:=by rcases g with g|⟨q,r,rfl,g⟩;exact .inl g;have b:=h q (by simp[aA]);exact .inr ⟨q,r,rfl,by rw[aPT c b.1,sz b.2];exact g⟩
theorem aNO{e z a bA}(g:sA Y e z a bA):∀p∈aA a,∀x,box Y p=V x->x.var=U->False:=by rcases g with⟨_,rfl⟩|⟨b,r,rfl,g⟩;simp[aA];grind [aA,cE]
end
structure Kx(ks:eP)(Y Y':ae):Prop where
 len:L Y'=L Y
 keep:∀b x,b.1∉ks->box Y b=V x->box Y' b=V x
theorem Kx.mix{ks l Y Y1}:Kx ks Y (avs ks l Y Y1):=⟨aPl,by grind [aPt]⟩
def Kx.kq{ks:eP}{Y Y':ae}(k:Kx ks Y Y'){b:Id}{x:bY}(c:box Y b=V x)(a:b.1∉ks:=by simp):box Y' b=V x:=k.keep b x a c
section
variable{ks:eP}{Y Y' Y1:ae}{m b:Id}{hs:List ByteArray}{h:AV}{d:Nat}{K:be}{l:List Id}
theorem Kx.gr(k:Kx ks Y Y'){e z a bA}(g:sA Y e z a bA)(c:∀q∈aA a,q.1∉ks):sA Y' e z a bA:=by rcases g with g|⟨b,m,rfl,g⟩;exact .inl g;exact .inr ⟨b,m,rfl,k.keep _ _ (c b<|by simp[aA]) g⟩
theorem Fx.kx{Lw}(F:Fx Y Y' Lw)(c:∀q∈Lw,q.1∈ks):Kx ks Y Y':=⟨F.len,by grind [Fx.keep]⟩
theorem Mak.mix(M:Mak Y1 m b hs h)(c:L Y1=L Y)(g:okI ks l m)(f:okI ks l b)(i:∀q∈aA h,okI ks l q):Mak (avs ks l Y Y1) m b hs h:=by obtain⟨o,k,s,tx,e,n,j⟩:=M.mx;obtain⟨Lw,a,T⟩:=M.tp;refine⟨⟨o,k,s,tx,e,n,?_⟩,⟨Lw,a,⟨?_,T.le,T.ok,T.ll⟩⟩,aRR c M.gh i,by grind [aPl,Mak.le],M.sm,M.sb,M.sh⟩;rw[aPT c g.1,sz g.2];exact j;rw[aPT c f.1,sz f.2];exact T.bx
def Mak.cut(M:Mak Y m b hs h)(f:okI ks l m)(e:okI ks l b)(g:∀q∈aA h,okI ks l q):Mak (bio ks l Y) m b hs h:=by obtain⟨n,j,s,tx,c,k,i⟩:=M.mx;obtain⟨Lw,a,T⟩:=M.tp;refine⟨⟨n,j,s,tx,c,k,?_⟩,⟨Lw,a,⟨?_,T.le,T.ok,T.ll⟩⟩,a6y M.gh g,by rw[aOr];exact M.le,M.sm,M.sb,M.sh⟩;rw[aOV f.1,sz f.2];exact i;rw[aOV e.1,sz e.2];exact T.bx
theorem Mak.bA(M:Mak Y1 m b hs h)(g:okI ks l b)(i:∀q∈aA h,okI ks l q):∀p,p=m\/p=b\/p∈aA h->∀x,box Y1 p=V x->x.var=U->∀q∈x.bA,∀y∈q,okC ks l y:=by obtain⟨u,r,s,tx,o,t,n⟩:=M.mx;obtain⟨Lw,a,T⟩:=M.tp;rintro p (rfl|rfl|j) x c k q e y f;rw[n] at c;cases c;simp only[cE] at e;subst e;simp only[eW,ql,bmK] at f;rcases f with rfl|rfl|rfl|rfl|rfl|rfl|rfl|rfl;exact g;trivial;trivial;trivial;trivial;trivial;trivial;exact aQw M.gh i;rw[T.bx] at c;cases c;simp only[cE] at e;subst e;simp only[eW,ql,bmK] at f;rcases f with rfl|rfl;exact .inl rfl;trivial;exact(aNO M.gh p j x c k).elim
theorem aXR(M:Mak Y m b hs h){n}(E:∀(x) Y1,0<=x->(1<=n->x<n)->Mak Y1 m b hs h->Kx [14,15,16] Y Y1->K (iv x) Y1):cV 115 [.p b 0 0,iv n] Y d K:=by have o:=M.sm;have k:=M.sb;have z:okI [14,15,16] (m::b::aA h) m:=⟨by simp[o],by simp⟩;have e:okI [14,15,16] (m::b::aA h) b:=⟨by simp[k],by simp⟩;have g:∀q∈aA h,okI [14,15,16] (m::b::aA h) q:=λq j=>⟨by simp[M.sh q j],by simp[j]⟩;have c:=M.cut z e g;obtain⟨Lw,a,T⟩:=c.tp;refine aQN rfl rfl (m::b::aA h) (λx t=>?_) (λp f=>c.bA e g p<|by simpa using f) (aWF c.le T n) ?_;simp only[eW,ql,bmK] at t;rcases t with rfl|rfl;exact e;trivial;rintro r Y1 ⟨x,u,rfl,B,C,w,D,_,F⟩;have i:Mak Y1 m b hs h:=(by obtain⟨O,H,s,tx,A,N,G⟩:=c.mx;exact⟨(by grind [Fx.keep]),⟨Lw,u,w⟩,c.gh.fx F M.nb,F.len.trans c.le,M.sm,M.sb,M.sh⟩);have y:=i.le.trans M.le.symm;exact⟨y,m::b::aA h,λp f=>i.bA e g p (by simpa using f),trivial,by grind [Mak.mix,Kx.mix]⟩
theorem baZ{D:Nat}(M:Mak Y m b hs h)(T:L hs+D<=500){t n:Int}(S:t=D)(N:0<=n)(O:n<=3)(P:∀(a) (l:List m8) (h') Y1,sA Y1 274 11 a (l.map m8.c)->(L l:Int)<=n->(∀x∈l,shS (D+1) x)->(∀q∈aA a,q.1=30)->Mak Y1 m b hs h'->Kx [14,15,16,30] Y Y1->K a Y1):cV 194 [.p m 0 0,iv t,iv n] Y d K:=by subst S;have j:=M.sm;have i:=M.sb;have B:okI [14,15,16,30] (m::b::aA h) m:=⟨by simp[j],by simp⟩;have u:okI [14,15,16,30] (m::b::aA h) b:=⟨by simp[i],by simp⟩;have z:∀q∈aA h,okI [14,15,16,30] (m::b::aA h) q:=λq e=>⟨by simp[M.sh q e],by simp[e]⟩;have s:=M.cut B u z;refine aQN rfl rfl (m::b::aA h) (λx o=>?_) (λp f=>s.bA u z p<|by simpa using f) (bdw D s T N O) ?_;simp only[eW,ql,bmK] at o;rcases o with rfl|rfl|rfl;exact B;trivial;trivial;rintro r Y1 ⟨l,h',g1,F,G,H,k,R⟩;have g:=k.le.trans M.le.symm;have C:okI [14,15,16,30] (m::b::(aA h'++aA r)) m:=⟨by simp[j],by simp⟩;have w:okI [14,15,16,30] (m::b::(aA h'++aA r)) b:=⟨by simp[i],by simp⟩;have A:∀q∈aA h',okI [14,15,16,30] (m::b::(aA h'++aA r)) q:=λq e=>⟨by simp[k.sh q e],by simp[e]⟩;have E:∀q∈aA r,okI [14,15,16,30] (m::b::(aA h'++aA r)) q:=λq e=>⟨by simp[(H q e).2],by simp[e]⟩;refine⟨g,m::b::(aA h'++aA r),?_,?_,P r l h' _ (aRR g g1 E) F G (by grind) (k.mix g C w A) Kx.mix⟩;intro p f x o W q e y X;simp only[eW,dF] at f;rcases f with f|f|f|f;grind [Mak.bA];grind [Mak.bA];grind [Mak.bA];grind [aNO];have:=aQw (ks:=[14,15,16,30]) (l:=m::b::(aA h'++aA r)) g1 E;rcases g1 with⟨_,rfl⟩|⟨q,Z,rfl,_⟩<;>exact this
end
def apX{Y e}{z d by':Nat}{zs a x bA new K}(g:sA Y e z a bA)(t:sA Y e z x new)(B:L zs=z)(u:0<z)(w:d<L Y)(A:∀r∈bA,L r=z)(y:∀r∈new,L r=z)(i:(L bA+L new)*(by'+1)<=1099511627776)(s:∀c Y',sA Y' e z c (bA++new)->Fx Y Y' (aA a)->(∀b∈aA c,b∈aA a\/b.1=d)->K c Y'):eV (apA e zs by' Y d a x) K:=by have n:gL Y x=V new:=(by rcases t with⟨rfl,rfl⟩|⟨q,m,rfl,f⟩;rfl;simp[gL,f]);have o:apA e zs by' Y d a x=apA e zs by' Y d a (.l new U U):=(by have j:gL Y (.l new U U)=V new:=rfl;unfold apA;rw[n,j]);rw[o];by_cases k:new=[];subst k;have:apA e zs by' Y d a (.l [] U U)=V (a,Y):=(by unfold apA;simp only[gL];rw[sz<|by simp];rcases g with⟨_,rfl⟩|⟨q,m,rfl,f⟩;rfl;simp[f]);rw[this];exact s a Y (by simpa using g) (Fx.refl _ _) λb i=> .inl i;grind [qs,bc.p]
structure MPs(Y:ae)(m b:Id)(v1 v4:Nat)(h:AV)(ts:List aQd)(a:AV):Prop where
 M:Mak Y m b [] h
 p:box Y (4,v4)=V ⟨196,2,U,U,[[sl w6.c aNF,a]]⟩
 ga:sA Y 258 4 a (ts.map aQd.c)
 pa:∀q∈aA a,q.1=93
 r:box Y (2,v1)=V ⟨196,2,U,U,[aoD]⟩
 ht:∀t∈ts,shT t
structure TB(Y:ae)(v:Nat)(nm:ByteArray)(a:AV)(l:List m8):Prop where
 p:box Y (8,v)=V ⟨258,4,U,U,[[st nm,iv 0, .l ([⟨#[97]⟩,⟨#[98]⟩].map cs) U U,a]]⟩
 ga:sA Y 274 11 a (l.map m8.c)
 pa:∀q∈aA a,q.1=56\/q.1=68\/q.1=87
 hs:∀s∈l,shS 4 s
section
variable{ks:eP}{Y Y':ae}{m b:Id}{v1 v4 v:Nat}{h h' a:AV}{ts:List aQd}{nm:ByteArray}{l:List m8}{Lw:List Id}
theorem MPs.kx(S:MPs Y m b v1 v4 h ts a)(k:Kx ks Y Y')(M:Mak Y' m b [] h')(c:4∉ks)(e:2∉ks)(f:93∉ks):MPs Y' m b v1 v4 h' ts a:=⟨M,k.keep _ _ c S.p,k.gr S.ga λq g=>by grind [MPs.pa],S.pa,k.keep _ _ e S.r,S.ht⟩
theorem MPs.fx(S:MPs Y m b v1 v4 h ts a)(F:Fx Y Y' Lw)(e:∀q∈Lw,q.1=8\/q.1=56\/q.1=68\/q.1=87):MPs Y' m b v1 v4 h ts a:=by have i:=S.M.sm;have f:=S.M.sb;refine⟨S.M.fx F (by grind) (by grind) (λq c g=>by have:=e _ g;have:=S.M.sh q c;omega),(by grind [Fx.keep,MPs.p]),S.ga.fx F (λq c g=>by grind [MPs.pa]),S.pa,(by grind [Fx.keep,MPs.r]),S.ht⟩
theorem TB.kx(S:TB Y v nm a l)(k:Kx ks Y Y')(c:8∉ks)(e:56∉ks)(f:68∉ks)(g:87∉ks):TB Y' v nm a l:=⟨k.keep _ _ c S.p,k.gr S.ga (λq i=>by grind [TB.pa]),S.pa,S.hs⟩
theorem TB.fx0(S:TB Y v nm a l)(F:Fx Y Y' Lw)(c:∀q∈Lw,q.1≠8/\q.1≠56/\q.1≠68/\q.1≠87):TB Y' v nm a l:=⟨(by grind [Fx.keep,TB.p]),S.ga.fx F (λq e g=>by grind [TB.pa]),S.pa,S.hs⟩
theorem TB.set{i}(n:box Y (8,v)=V ⟨258,4,U,U,[[st nm,iv 0, .l ([⟨#[97]⟩,⟨#[98]⟩].map cs) U U,i]]⟩){e l'}(g:sA Y 274 11 e<|l'.map m8.c)(o:∀q∈aA e,q.1=56\/q.1=68\/q.1=87)(f:∀s∈l',shS 4 s){K}(k:∀Y1,TB Y1 v nm e l'->Fx Y Y1 [(8,v)]->K Y1):sV (aK 1 Y (.p (8,v) 0 3) e) K:=stC n g.ce (by simp) λY1 F j=>k Y1 ⟨j,(by grind [sA.fx]),o,f⟩ F
end
def baI{Y}:aX zd9 4 Y [(0,sv [109,97,105,110]),(1,sv [116,49]),(2,sv [116,50]),(3,sv [116,51])]=V (.l ([⟨#[109,97,105,110]⟩,⟨#[116,49]⟩,⟨#[116,50]⟩,⟨#[116,51]⟩].map cs) U U,Y):=by kernel_rfl
def bas{nm}:bM buc bqM [(0,st nm),(2, .l ([⟨#[97]⟩,⟨#[98]⟩].map cs) U U)]=V (.a [st nm,iv 0, .l ([⟨#[97]⟩,⟨#[98]⟩].map cs) U U, .l [] U U]):=rfl
def a5R{o nm}:bM brN alz [(0,iv o),(2,st nm)]=V (.a [iv o,iv 0,st nm,sv [], .l [] U U,iv 0,iv 0,sv [], .l [] U U, .l [] U U, .l [] U U]):=rfl
def a51{Y o nm}:aX brU 1 Y [(0, .a [iv o,iv 0,st nm,sv [], .l [] U U,iv 0,iv 0,sv [], .l [] U U, .l [] U U, .l [] U U])]=V (.l ([m8.mk o 0 nm ⟨#[]⟩ [] (u7.mk 0 0 ⟨#[]⟩ []) [] []].map m8.c) U U,Y):=aQm (tgt:=(m8.mk o 0 nm ⟨#[]⟩ [] (u7.mk 0 0 ⟨#[]⟩ []) [] []).c) (by rw[bkk];rfl) biw (by decide) (aS7 (x:=m8.mk o 0 nm ⟨#[]⟩ [] (u7.mk 0 0 ⟨#[]⟩ []) [] [])) (by decide)
def aWJ(l)(hp:(∀x∈l,0<=x/\x<256)/\L l<4611686018427387904):Ct 123 [sl cu l] (λr=>∃p:aPZ,r= .a p.c/\shP p/\p.bnq=aNF):=by refine aDq (bgf λs0 hl h0=>?_);simp only[aUA];refine I7 hl λv1 s1 F1 N1 q1=>?_;have bt:=F1.len.trans hl;have ab:bM bt9 brL [(0,sl cu l)]=V (.a [sl cu l,iv 0]):=rfl;simp only[qz 2,qy 8,ab,aY];refine bxL rfl (by decide) (by omega) λH s2 F2 N2 q2=>?_;have bu:=F2.len.trans bt;have bo:bM bva [(0,1),(1,1),(2,1),(3,1),(4,1),(5,1),(6,1),(7,1)] [(0, .p (14,H) 0 0),(2,iv 20)]=V (.a [.p (14,H) 0 0,iv 0,iv 20,bv I,bv I,bv I,bv I, .l [] U U]):=rfl;simp only[bo,aY];refine bxL rfl (by decide) (by omega) λv3 s3 F3 N3 q3=>?_;have aK:=F3.len.trans bu;have T3:Tp s3 (14,H) l 0:=⟨F3.kq q2,by omega,hp.1,hp.2⟩;have M3:Mak s3 (16,v3) (14,H) [] (.l [] U U):=⟨(by simp_all),⟨l,0,T3⟩, .inl ⟨rfl,rfl⟩,aK,rfl,rfl,by simp[aA]⟩;have bp:bM aoD brL [(0,sl w6.c aNF)]=V (.a [sl w6.c aNF, .l [] U U]):=rfl;simp only[jM,jt,aQV,bp,u0];refine⟨by simp[lo,nA,uN,yv,wD],?_⟩;refine anu aK λv4 s4 F4 N4 q4=>?_;have S4:MPs s4 (16,v3) (14,H) v1 v4 (.l [] U U) [] (.l [] U U):=⟨M3.fx0 F4,q4, .inl ⟨rfl,rfl⟩,by simp[aA],F4.kq<|F3.kq<|F2.kq q1,by simp⟩;obtain⟨th,lf,s,tx,aa,lp,aJ⟩:=S4.M.mx;simp only[qz 10,nlP aJ,eS,aJ,aRf,aQ6];refine aXR S4.M λy s5 y0 y1 M5 K5=>?_;have y1:=y1 (by decide);have S5:=S4.kx K5 M5 (by decide) (by decide) (by decide);simp only[qz 12,qy 14,eQ,baI,eM (x:=2+y) (by omega)<|by omega];obtain⟨n,hn⟩:∃n:Nat,2+y=n:=(by grind);rw[hn];have ck:n<=4:=(by omega);refine yV n (λk _ Y=>∃h ts a,MPs Y (16,v3) (14,H) v1 v4 h ts a/\L ts=k) ⟨_,_,_,S5,rfl⟩ ?_;rintro k _ Y hk ⟨h,ts,a,S,bA⟩;have aL:=S.M.le;obtain⟨th,lf,s,tx,aa,lp,hb⟩:=S.M.mx;simp only[qz 43,qy 60,au,nlP hb,eS,hb,aQ6];refine⟨λac=>?_,λac=>?_⟩;have a3:k<n:=(by grind);refine aPJ S.M (by simp) λs6 M6 F6=>?_;have S6:=S.kx (ks:=[16]) (F6.kx<|by simp) M6 (by decide) (by decide) (by decide);simp only[qz 16,au,amZ,u0,rk,H7,aV4];refine⟨⟨by omega,by simp;omega⟩,?_⟩;generalize gd ([⟨#[109,97,105,110]⟩,⟨#[116,49]⟩,⟨#[116,50]⟩,⟨#[116,51]⟩]:List ByteArray) (k:Int).toNat=nm;simp only[qz 18,qy 20,bas,aY];refine anu S6.M.le λv8 s7 F7 N7 q7=>?_;have S7:=S6.fx F7 (by simp);have B7:TB s7 v8 nm (.l [] U U) []:=⟨q7, .inl ⟨rfl,rfl⟩,by simp[aA],by simp⟩;simp only[qz 22];refine bpl (λo=>∀(Y1:ae) (h1 a8:AV) (w:List m8),MPs Y1 (16,v3) (14,H) v1 v4 h1 ts a->TB Y1 v8 nm a8 w->L w<=3->o [] Y1) ?_ λo ay=>?_;intro Y1 h1 a8 w A B aw;obtain⟨th,lf,s,tx,aa,lp,ab⟩:=A.M.mx;simp only[qz 81,nlP ab,eS,ab,B.p,aRf,bhZ,aQ6];refine aXR A.M λy s8 y0 y1 M8 K8=>?_;have y1:=y1 (by decide);have A8:=A.kx K8 M8 (by decide) (by decide) (by decide);have B8:=B.kx K8 (by decide) (by decide) (by decide) (by decide);simp only[qz 30,eQ,eM (x:=1+y) (by omega)<|by omega];refine baZ (D:=2) A8.M (by simp) rfl (by omega) (by omega) λa9 l9 h9 s9 g9 cj cl p9 M9 K9=>?_;have A9:=A8.kx K9 M9 (by decide) (by decide) (by decide);have B9:=B8.kx K9 (by decide) (by decide) (by decide) (by decide);simp only[qz 32];refine apX B9.ga g9 rfl (by decide) (by rw[A9.M.le];decide) (qW (f:=m8.c) (z:=11) λ_=>biw) (by grind [biw]) (by simp;omega) λch co ar aF cn=>?_;rw[<-dg] at ar;have F:=B9.pa;have a6:=A9.fx aF (λq u=>by have:=F q u;omega);have az:=aF.keep _ _ (λu=>by have:=F _ u;simp at this) B9.p;simp only[qz 34,eS,az];refine TB.set az ar (by grind) (λs ad=>?_) λbD am bb=>?_;grind [TB.hs,shS.mono];have Z:=a6.fx bb (by simp);refine dT (by simp[eL,lb,lbV,zt,dC,dK]) ?_;have a1:L (w++l9)<=6:=(by simp;omega);generalize w++l9=bL at am a1;clear ar az;refine bpl (λo=>∀(T:ae) (h2 W:AV) (bd:List m8),MPs T (16,v3) (14,H) v1 v4 h2 ts a->TB T v8 nm W bd->L bd<=8->o [] T) ?_ λo X=>?_;intro T h2 W bd A B aw;have ax:aX bt3 1 T [(0, .a [st nm,iv 0, .l ([⟨#[97]⟩,⟨#[98]⟩].map cs) U U,W])]=V (.l ([(⟨nm,0,[⟨#[97]⟩,⟨#[98]⟩],bd⟩:aQd)].map aQd.c) U U,kills T<|eB<|.a [st nm,iv 0, .l ([⟨#[97]⟩,⟨#[98]⟩].map cs) U U,W]):=aQm (tgt:=(⟨nm,0,[⟨#[97]⟩,⟨#[98]⟩],bd⟩:aQd).c) (by simp only[ji,mU,aQ5,aXQ,aOb B.ga];rfl) rfl (by decide) rfl (by decide);have a0:∀q∈eB (.a [st nm,iv 0, .l ([⟨#[97]⟩,⟨#[98]⟩].map cs) U U,W]),q.1=56\/q.1=68\/q.1=87:=λq u=>(by simp only[eB,Cz,RN,iR,dW,cL] at u;exact B.pa q<|by cases W<;>first|exact u|simp[iR] at u);have FK:=aOp (eB<|.a [st nm,iv 0, .l ([⟨#[97]⟩,⟨#[98]⟩].map cs) U U,W]) T;simp only[qz 129,qy 46,eS,A.p,aEa B.p rfl,aRf,bhZ,aQ6,ax];have C:=A.fx FK (λq u=>by have:=a0 q u;omega);refine apQ C.ga C.M.le (qW (f:=aQd.c) (z:=4) λ_=>rfl) (by grind [aQd.c]) (by simp) (by simp;omega) λa4 s4 g4 F4 N4=>?_;rw[<-dg] at g4;have bz:=C.pa;have p4:=F4.keep _ _ (by grind) C.p;simp only[qz 48,eS,p4];refine stC p4 g4.p.ce (by simp) λs5 F5 b5=>?_;have hm:=C.M.sm;have hb:=C.M.sb;have M5:=(C.M.fx F4 (by grind) (by grind) (λq u g=>by have:=bz _ g;have:=C.M.sh q u;omega)).fx F5 (by simp) (by simp) (λq u g=>by simp at g;subst g;have:=C.M.sh _ u;simp at this);simp only[qz 50,au,eQ];refine dR (mk:=λ(_:Unit) i=>[iv i]) (s:=()) (s':=()) (λ_ _=>rfl) a3 (by omega) ⟨h2,ts++[⟨nm,0,[⟨#[97]⟩,⟨#[98]⟩],bd⟩],a4,⟨M5,b5,g4.p.fx F5 (by grind),λq u=>(N4 q u).2,?_,?_⟩,by simp[bA]⟩;exact F5.kq (F4.keep _ _ (by grind) C.r);intro t G;rcases dF.1 G with g|g;exact A.ht t g;simp only[cE] at g;subst g;exact⟨by simp,aw,B.hs⟩;obtain⟨th,lf,s,tx,aa,lp,av⟩:=Z.M.mx;rcases P:Q ((k:Int)=0) with _|_;simp only[qz 131,qy 40,au,P,eS,aOq,↓jN,bcW,↓iB];exact X bD _ _ _ Z am (by omega);simp only[qz 131,qy 40,au,P,nlP av,av,eS,aRf,aQ6,aPh,↓jA,aRV];refine aXR Z.M λy bF y0 y1 bg aG=>?_;have ak:=Z.kx aG bg (by decide) (by decide) (by decide);have E:=am.kx aG (by decide) (by decide) (by decide) (by decide);simp only[E.p,amZ,rk,H7,a5R,a51,eQ];refine⟨λ_=>⟨⟨by decide,by decide⟩,?_⟩,λ_=>X bF _ _ _ ak E<|by omega⟩;refine apQ E.ga ak.M.le (by grind [biw]) (by grind [biw]) (by simp) (by simp;omega) λbm bG O N bi=>?_;rw[<-dg] at O;have F:=E.pa;have al:=ak.fx N (λq u=>by have:=F q u;omega);have R:=N.keep _ _ (by grind) E.p;simp only[qz 42,R,eS];refine TB.set R O.p (by grind) (λs ad=>?_) λaP an ao=>?_;rcases dF.1 ad with g|g;exact E.hs s g;simp only[cE] at g;subst g;exact aOI (by omega) (.inl rfl) (by decide) (by decide);refine dT (by simp[eL,lb,lbV,zt,dC,dK]) ?_;exact X aP _ _ _ (al.fx ao<|by simp) an (by simp;omega);obtain⟨th,lf,s,tx,aa,lp,ci⟩:=S7.M.mx;rcases P:Q ((k:Int)=0) with _|_;simp only[qz 83,au,P,eQ,↓iB];exact ay s7 _ _ _ S7 B7 (by simp);simp only[qz 83,au,P,eQ,↓iC];refine AI (α:=Unit) (λ_ i=>[iv i]) 0 n 1 (by omega) (λj _ Y=>∃a8 w,MPs Y (16,v3) (14,H) v1 v4 h ts a/\TB Y v8 nm a8 w/\L w+1=j) (s0:=()) (by grind) ?_;rintro j _ Y1 hj ⟨a8,w,A,B,aw⟩;simp only[qz 97,qy 24,au,B.p,amZ,H7,a5R,a51,bh,eT];refine⟨λac=>⟨⟨by omega,by have:j<n:=(by simpa using ac);simp;omega⟩,?_⟩,λac=>ay Y1 _ _ _ A B<|by omega⟩;have bw:j<n:=(by grind);refine apQ B.ga A.M.le (by grind [biw]) (by grind [biw]) (by simp) (by simp;omega) λbm bG O N bi=>?_;rw[<-dg] at O;have F:=B.pa;have al:=A.fx N (λq u=>by have:=F q u;omega);have R:=N.keep _ _ (by grind) B.p;simp only[qz 26,R,eS];refine TB.set R O.p (by grind) (λs ad=>?_) λaP an ao=>?_;rcases dF.1 ad with g|g;exact B.hs s g;simp only[cE] at g;subst g;exact aOI (by omega) (.inl rfl) (by decide) (by decide);refine dT (by simp[eL,lb,lbV,zt,dC,dK]) ?_;simp only[au,eQ];exact dR (mk:=λ(_:Unit) i=>[iv i]) (s:=()) (s':=()) (λ_ _=>rfl) bw (by omega) ⟨_,_,al.fx ao (by simp),an,by simp;omega⟩;have ha:dG Y (.a [sl w6.c aNF,a])= .a (⟨aNF,ts⟩:aPZ).c:=(by simp only[dG,eR,nrm,ji,mU];have e1:gK (gi Y a)=sl aQd.c ts:=aOb S.ga;rw[e1];rfl);have aO:∀x y:AV,aN (V 2) [x,y]=V (.a [x,y]):=λ_ _=>rfl;have aL:L ts<=4:=(by omega);have aM:shP ⟨aNF,ts⟩:=⟨⟨by show L aNF<1000;decide,by grind,λt G=>by have:=(S.ht t G).1;omega⟩,aL,S.ht⟩;simp only[S.p,aPy,qh,df,aO,jM,kU,jt,ha,u0,aQV];refine⟨aM,by simp[lo,uN,yv,wD],?_⟩;simp only[oJ,pG,eQ];refine⟨λhc=>?_,λhc=>?_⟩;refine⟨by simp[lo,nA,uN,yv,wD],?_⟩;simp only[aV4,bQ,qz 52,jM,kU,jt,tW,Fa,aQV];refine⟨by simp[lo,nA,eB,iR],by rw[aXP rfl];trivial,?_⟩;have cm:shS 4 (m8.mk 1 0 ⟨#[120]⟩ ⟨#[]⟩ [] (u7.mk 1 1 ⟨#[]⟩ []) [] []):=aOI (λ_=>⟨.inl ⟨.inl rfl,rfl⟩,by simp[u7.l]⟩) (.inl rfl) (by decide) (by decide);have bq:∀x:m8,bM buc bqM [(0,sv [109,97,105,110]),(2, .l ([⟨#[97]⟩,⟨#[98]⟩].map cs) U U),(3, .l ([x].map m8.c) U U)]=V (.a [sv [109,97,105,110],iv 0, .l ([⟨#[97]⟩,⟨#[98]⟩].map cs) U U, .l ([x].map m8.c) U U]):=λ_=>rfl;have ax:∀(s:ae) (x:m8),aX bt3 1 s [(0, .a [sv [109,97,105,110],iv 0, .l ([⟨#[97]⟩,⟨#[98]⟩].map cs) U U, .l ([x].map m8.c) U U])]=V (.l ([(⟨⟨#[109,97,105,110]⟩,0,[⟨#[97]⟩,⟨#[98]⟩],[x]⟩:aQd)].map aQd.c) U U,s):=λs x=>aQm (tgt:=(⟨⟨#[109,97,105,110]⟩,0,[⟨#[97]⟩,⟨#[98]⟩],[x]⟩:aQd).c) rfl rfl (by decide) rfl (by decide);have br:∀t:aQd,bM aoD brL [(0,sl w6.c aNF),(1, .l ([t].map aQd.c) U U)]=V (.a [sl w6.c aNF, .l ([t].map aQd.c) U U]):=λ_=>rfl;simp only[a50,bQ,qz 54,bq,ax,aY,qz 56,qy 58,br];refine stW S.r rfl rfl λs5 F5 b5=>?_;rw[aEa b5 rfl];refine aOv (v':= .a (⟨aNF,[⟨⟨#[109,97,105,110]⟩,0,[⟨#[97]⟩,⟨#[98]⟩],[m8.mk 1 0 ⟨#[120]⟩ ⟨#[]⟩ [] (u7.mk 1 1 ⟨#[]⟩ []) [] []]⟩]⟩:aPZ).c) (Q:=λr=>∃p:aPZ,r= .a p.c/\shP p/\p.bnq=aNF) rfl rfl ⟨_,rfl,⟨⟨by decide,by decide,by simp⟩,by decide,?_⟩,rfl⟩;intro t G;simp only[cE] at G;subst G;exact⟨by decide,by decide,by simp_all⟩;refine stW S.r rfl rfl λs5 F5 b5=>?_;have g5:=S.ga.fx F5 (λq u e=>by grind [MPs.pa]);simp only[b5,aPy,qh,df,aO,aY];refine aOv (v':= .a (⟨aNF,ts⟩:aPZ).c) (Q:=λr=>∃p:aPZ,r= .a p.c/\shP p/\p.bnq=aNF) ?_ (by simp[iX,aPZ.c,eN,sl]) ⟨_,rfl,aM,rfl⟩;simp only[fzT,ji,mU,aBr g5];rfl
def aTV:FT:=om aWJ
def bbr:=aUy aTV aWJ (j:=by simp+contextual only[ij,aQZ])
theorem a64(i):L (a6F i)<=3:=by grind [a6F]
structure RP(Y:ae)(v1 v7:Nat)(p:aPZ)(w:pz)(ts:List bcV)(a:AV):Prop where
 p:box Y (1,1)=V ⟨196,2,U,U,[p.c]⟩
 c:box Y (7,v7)=V ⟨129,7,U,U,[[sl cA.c w.cells,sl dS.c w.ak,sl aPI.c w.bC,sl cs w.bU,sl cs w.ay,sl dL.c w.dU,a]]⟩
 ga:sA Y 247 2 a (ts.map bcV.c)
 pa:∀q∈aA a,q.1=110
 r:box Y (2,v1)=V ⟨129,7,U,U,[tH]⟩
 ht:∀t∈ts,L t.big<1000000
 le:L Y=4096
theorem RP.fx{Y Y' v1 e p w ts a Lw}(S:RP Y v1 e p w ts a)(F:Fx Y Y' Lw)(f:∀q∈Lw,q.1≠1/\q.1≠2/\q.1≠7/\q.1≠110):RP Y' v1 e p w ts a:=⟨(by grind [Fx.keep,RP.p]),(by grind [Fx.keep,RP.c]),S.ga.fx F<|λq i g=>(f q g).2.2.2<|S.pa q i,S.pa,(by grind [Fx.keep,RP.r]),S.ht,F.len.trans S.le⟩
def aXe(p)(H:shP p/\p.bnq=aNF):Ct 122 [.a p.c] (λr=>∃(c:aOw) (e l:Int),r= .t [.a c.c,iv e,iv l]/\aOc c):=by obtain⟨H,hd⟩:=H;refine aDq (bgU rfl λs2 hl b1 h0=>?_);refine I7 hl λv1 s3 F3 N3 q3=>?_;have ad:=F3.len.trans hl;have b3:=F3.kq b1;have aJ:bM tH [(0,6),(6,1)] []=V (.a tH):=rfl;simp only[qz 4,qy 6,qy 8,qy 10,eQ,b3,H7,jM,kU,jt,Fa,aQV,rr,aJ];refine⟨H,trivial,λ_=>?_,λhc=>⟨⟨H,hd⟩,?_⟩⟩;refine stW q3 rfl rfl λX T b5=>?_;have:aN (V 7) tH=V (.a tH):=rfl;simp only[b5,aPy,qh,df,this,aY];exact aOH (vs':=[.a (⟨⟨[],[],[],[],[],[]⟩,[]⟩:aOw).c,iv (chk p).1,iv (chk p).2]) (Q:=λr=>∃(c:aOw) (e l:Int),r= .t [.a c.c,iv e,iv l]/\aOc c) rfl rfl ⟨_,_,_,rfl,by simp[aOc]⟩;rintro r ⟨w,rfl,hw,P⟩;have P:=P (by grind);have aG:bM tH [(0,6),(6,1)] [(0, .a w.c)]=V (.a [sl cA.c w.cells,sl dS.c w.ak,sl aPI.c w.bC,sl cs w.bU,sl cs w.ay,sl dL.c w.dU, .l [] U U]):=rfl;simp only[aG,aY];refine⟨by simp[lo,nA,eB,iR,aPZ.c,sl],?_⟩;refine anu ad λv7 s4 F4 N4 q4=>?_;have S4:RP s4 v1 v7 p w [] (.l [] U U):=⟨F4.kq b3,q4, .inl ⟨rfl,rfl⟩,by simp[aA],F4.kq q3,by simp,F4.len.trans ad⟩;have aT:=H.2.2;have bG:=H.2.1;refine jD (α:=Int) (λnx i=>[iv nx,iv i]) 1 (L p.ay) (λk nx Y=>0<=nx/\nx<=k*60000/\∃ts a,RP Y v1 v7 p w ts a/\L ts=k) (s0:=0) (by grind) ?_;rintro k nx Y hk ⟨bH,bI,ts,a,S,aU⟩;simp only[qz 55,au,eT,S.p,S.c,H7,aRZ,ixv,bh];refine⟨λA=>⟨vp A,?_⟩,λA=>?_⟩;rotate_left;refine stW S.r rfl rfl λX T b5=>?_;have g5:=S.ga.fx T (λq P e=>by grind [RP.pa]);simp only[qz 32,aEa b5 rfl,aY];refine aOH (vs':=[.a (⟨w,ts⟩:aOw).c,iv 0,iv 0]) (Q:=λr=>∃(c:aOw) (e l:Int),r= .t [.a c.c,iv e,iv l]/\aOc c) ?_ (by simp[iX,aOw.c,pz.c,eN,sl]) ⟨_,_,_,rfl,?_,S.ht⟩;have e1:fz X a=sl bcV.c ts:=aBr g5;simp only[ji,mU,fzT,List.take_succ_cons,CE,e1];rfl;grind;have C:=aL A;have W:=aT _<|dB C;have aD:bM bu9 [(0,6),(6,1),(7,1),(8,1),(9,1)] [(0, .a w.c),(1,sl cs (gd p.ay k).locs),(4,iv nx)]=V (.a [sl cA.c w.cells,sl dS.c w.ak,sl aPI.c w.bC,sl cs w.bU,sl cs w.ay,sl dL.c w.dU,sl cs (gd p.ay k).locs, .l [] U U,iv 0,iv nx]):=rfl;simp only[aD,aY];refine bxL rfl (by decide) (by rw[S.le];decide) λv X T N5 q5=>?_;have S5:=S.fx T (by simp);have bz:k<4:=(by omega);have G5:Gn nx X (45,v) w (gd p.ay k).locs (.l [] U U) 0:=⟨(by simp_all),⟨[], .inl ⟨rfl,rfl⟩,rfl⟩,S5.le,rfl,by simp[aA],hw,by have:=W.1;omega,P⟩;simp only[S5.p,rk,H7,ixv,eQ,bh];refine⟨dJ C,?_⟩;refine ba2 G5 W.2 (by omega) λa6 n6 s6 G6 bA R6=>?_;have aZ:∀q∈((45,v):Id)::aA (AV.l [] U U),q.1≠1/\q.1≠2/\q.1≠7/\q.1≠110:=(by simp[aA]);have S6:=S5.fx R6.f aZ;obtain⟨bV,aW,aV,ac⟩:=G6.bx0;simp only[qz 14,nlP ac,eS,ac,aRf,bhZ,aQ6];refine G6.set λs7 G7 F7=>?_;have S7:=S6.fx F7 (by simp);simp only[qz 16,bdI,aY];refine aPw G7 (by omega) λa8 s8 n8 G8 bB bq R8=>?_;have a0:∀q∈((45,v):Id)::aA a6,q.1≠1/\q.1≠2/\q.1≠7/\q.1≠110:=λq P=>(by grind [Gn.sa]);have S8:=S7.fx R8.f a0;obtain⟨bW,bL,bK,O⟩:=G8.bx0;obtain⟨out,go,bD⟩:=G8.ga;obtain⟨a2,ae,rfl,ao⟩:∃q m,a8= .m q (L out)/\box s8 q=V ⟨264,6,U,I,out.map awG.c++m⟩:=(by rcases go with⟨g,_⟩|⟨q,m,g1,g2⟩;have:out=[]:=(by simpa using g);grind;simp_all);obtain⟨q1,u⟩:=a2;obtain rfl:q1=16:=G8.sa (q1,u) (by simp[aA]);have aF:∀a:AV,(∃q n,a= .m q n)->bM bnF brL [(0,iv<|L (gd p.ay k).locs),(1,a)]=V (.a [iv<|L (gd p.ay k).locs,a]):=(by rintro a ⟨q,n,rfl⟩;rfl);simp only[qz 18,qy 20,nlP O,eS,O,aRf,bhZ,aQ6,aF _ ⟨_,_,rfl⟩];refine anu S8.le λG s9 F9 N9 q9=>?_;have S9:=S8.fx F9 (by simp);refine dT (by simp[eL,lb,zt,dC,dK,sl]) ?_;have aC:=F9.kq O;have aR:=F9.kq ao;refine yV (L out) (λ_ _ Y'=>Fx s9 Y' [(11,G)]/\∃rg:Int,box Y' (11,G)=V ⟨247,2,U,U,[[iv rg, .m (16,u)<|L out]]⟩) ⟨Fx.refl _ _,_,q9⟩ ?_;rintro j _ Y1 hj ⟨E,rg,af⟩;have N:=E.kq aC;have D:=E.kq aR;have aQ:fS Y1 (.m (16,u)<|L out)=V (iv<|L out):=(by simp[fS,D]);have aa:=S9.fx E (by simp);have a4:∀x y:AV,aN (V 2) [x,y]=V (.a [x,y]):=λ_ _=>rfl;simp only[qz 127,qy 26,au,nlP N,eS,N,aa.c,af,a4,aRf,bhZ,aQ6,aQ];refine⟨λA=>?_,λA=>?_⟩;have hj:=aL A;have aK:cz 6 Y1 (.m (16,u)<|L out) (iv j)=V (.p (16,u) j 0):=(by grind [cz]);have aP:Iy (V 6) Y1 (.p (16,u) j 0)=V (.a (gd out j).c):=(by have hr:(out.map awG.c++ae)[j]?=V (awG.c<|gd out j):=(by grind [bT]);simp only[Iy,iE,D,aPy,hr];rfl);simp only[aK,aP,aY,jM,kU,jt,Fa,aQV];rintro r ⟨t',o',rfl⟩;refine⟨by simp[lo,nA,eB,iR,awG.c],?_⟩;refine yV (L<|a6F<|gd out j) (λ_ _ Y'=>Fx s9 Y' [(11,G)]/\∃rg:Int,box Y' (11,G)=V ⟨247,2,U,U,[[iv rg, .m (16,u)<|L out]]⟩) ⟨E,rg,af⟩ ?_;rintro i _ Y2 hi ⟨Z,bO,R⟩;simp only[qz 163,au,eT,R,aRf,aQ6,gT,tf,bh,aRW];refine⟨λB=>⟨dJ<|aL B,?_⟩,λB=>?_⟩;refine stC R rfl (by simp) λY3 z aw=>?_;simp only[qz 24,au,eQ];exact dR (mk:=λ(_:Unit) i=>[iv i]) (s:=()) (s':=()) (λ_ _=>rfl) (aL B) (by grind [a64]) ⟨(Z.trans z).mono (by simp),_,aw⟩;exact dR (mk:=λ(_:Unit) i=>[iv i]) (s:=()) (s':=()) (λ_ _=>rfl) hj (by omega) ⟨Z,_,R⟩;have aB:sA Y1 264 6 (.m (16,u)<|L out) (out.map awG.c):= .inr ⟨_,ae,by simp,D⟩;have aE:aX bu4 1 Y1 [(0, .a [iv rg, .m (16,u)<|L out])]=V (.l ([(⟨rg,out⟩:bcV)].map bcV.c) U U,kills Y1<|eB<|.a [iv rg, .m (16,u)<|L out]):=aQm (tgt:=(⟨rg,out⟩:bcV).c) (by simp only[ji,mU,aQ5,aOb aB];rfl) rfl (by decide) rfl (by decide);have FK:=aOp (eB<|.a [iv rg, .m (16,u)<|L out]) Y1;have o:=aa.fx FK (by simp[eB,iR]);simp only[aE,bQ];have bF:=o.pa;refine apQ o.ga o.le (by grind [bcV.c]) (by grind [bcV.c]) (by simp) (by simp;omega) λav bR M z bx=>?_;rw[<-dg] at M;have ab:=z.keep _ _ (by grind) o.c;simp only[qz 28,eS,ab];refine stC ab M.p.ce (by simp) λbS F az=>?_;simp only[qz 30,au,eQ];refine dR (mk:=λ(nx:Int) i=>[iv nx,iv i]) (s:=nx) (s':=aW) (λ_ _=>rfl) C (by omega) ⟨aV.1,by omega,ts++[⟨rg,out⟩],av,⟨?_,az,M.p.fx F (by grind),(by grind),?_,?_,F.len.trans<|z.len.trans o.le⟩,by simp[aU]⟩;exact F.kq (z.keep _ _ (by grind) o.p);exact F.kq (z.keep _ _ (by grind) o.r);grind [RP.ht]
def aUc:FT:=om aXe
def bbW:=aUy aUc aXe (j:=by simp+contextual only[ij,ijv])
def a7C:dO:=(123,aTV)::(122,aUc)::aYc
def a7l:eJ a7C:=vl (rj aWJ)<|vl (rj aXe)<|aX5
def aWk:=ai @bbr<|ai @bbW<|@aQV
section
attribute[local irreducible] aX
def bge{a}:=y0 a7l func59 aur [a]
end
def aWI(l)(o:(∀x∈l,0<=x/\x<256)/\L l<4611686018427387904):Ct 59 [sl cu l] (λr=>∃c:aOw,r= .a c.c/\aOc c):=by refine aDq (bge λs0 d z=>?_);refine I7 d λD A f w q=>?_;simp only[qz 2,qy 4,jM,kU,jt,alg,aWk];refine⟨o,?_⟩;rintro r ⟨p,rfl,k,m⟩;refine⟨by simp[lo,nA,eB,iR,sl],?_⟩;simp only[Fa,aWk];refine⟨⟨k,m⟩,?_⟩;rintro r ⟨c,e,l',rfl,n⟩;refine⟨by simp[lo,nA,eB,iR,aPZ.c,sl],?_⟩;have e0:eO 0 (.t [.a c.c,iv e,iv l'])=V (.a c.c):=rfl;have i:eO 1 (.t [.a c.c,iv e,iv l'])=V (iv e):=rfl;have j:eO 2 (.t [.a c.c,iv e,iv l'])=V (iv l'):=rfl;simp only[e0,i,j,aY];have u:=f.len.trans d;have b:L c.c=7:=rfl;refine aRA rfl b (by decide) (by omega) λE B g y s=>?_;simp only[qz 6,qy 8,aEa s b,aY];refine stW (g.kq q) rfl b λC v h=>?_;rw[aEa h b];exact aOv (v':= .a c.c) (Q:=λr=>∃c:aOw,r= .a c.c/\aOc c) rfl (by simp[iX,aOw.c,pz.c,eN,sl]) ⟨c,rfl,n⟩
def aTU:FT:=om aWI
def bbq:=aUy aTU aWI (j:=by simp+contextual only[ij,aQZ])
def a7D:dO:=(59,aTU)::a7C
def aR2:eJ a7D:=vl (rj aWI)<|a7l
def bcw:=ai @bbq<|@aWk
section
attribute[local irreducible] aX
def atZ:=kW 24 [(4,([4],[1,2,3])),(10,([5],[1,2,3])),(16,([6],[1,2,3])),(21,([],[1,2,3,6,7]))]
def aLs{c0}:=yB1 31 6 1 aR2 func118 atZ c0 [.a c0]
def aLy{c0}:=yB1 31 6 1 aR2 func57 atW c0 [.a c0]
def au4:=kW 15 [(4,([22],[0,1,21])),(10,([3],[0,1,2,21,22]))]
def aMx:=y0 aR2 func54 au4 []
def bhc{c0}:=yB1 251 4 1 aR2 func266 atW c0 [.a c0]
end
def mG{B}{A:(aG)->Prop}(Q:aG)(b:∀a,(∀vs Y',Q vs Y'->a vs Y')->A a)(c:∀vs Y',Q vs Y'->B vs Y'):A B:=b B c
theorem a7a{α:Type}{f:Nat->List α}{k}:(aH<|k+1).flatMap f=(aH k).flatMap f++f k:=by rw[qn,List.flatMap_append];simp
def eU{α:Type}{f:Nat->List α}{c:Nat}(h:∀k,L (f k)<=c):∀n,L ((aH n).flatMap f)<=n*c
 |0=>by simp
 |n+1=>by
  have a:=eU h n
  grind [a7a]
def Dv{Y b T e}{z ze j d by':Nat}{cs zs a bA new t o K}(w:box Y b=V ⟨T,z,U,U,[cs]⟩)(O:j<L cs)(u:bc Y e ze a bA)(i:b∉aA a)(G:L zs=ze)(k:0<ze)(B:d<L Y)(E:∀r∈bA,L r=ze)(D:∀r∈new,L r=ze)(h:(L bA+L new)*(by'+1)<=1099511627776)(A:b.1≠d)(v:∀c Y',box Y' b=V ⟨T,z,U,U,[cs.set j c]⟩->bc Y' e ze c (bA++new)->Fx Y Y' (b::aA a)->(∀q∈aA c,(q∈aA a\/bK Y q)/\(q∈aA a\/q.1=d))->K Y'):eV (apA e zs by' Y d a<|.l new t o) λx s=>rV (iQ j s<|.p b 0 0) λy=>sV (aK 1 s y x) K:=by refine gD u G k B E D h λc Y' g F N P=>?_;have f:=F.keep _ _ i w;have C:iQ j Y' (.p b 0 0)=V (.p b 0 j):=(by simp[iQ,f]);simp only[C,aY];refine cy (y:=1) (cs:=[c]) f (ms g) rfl (by omega) λn m M=>?_;have H:b∉aA c:=(by grind);refine v c n ?_ (by grind [bc.fx]) ((F.trans m).mono λq R=>?_) (by simp_all);grind [GP];grind
def qZ(n:Nat):List aoC:=(aH n).map λi=>⟨if i=0 then 1 else 0,0,I⟩
def aog{α:Type}{n x}{β:Type}{f:α->β}:(er (n+1) x).map f=(er n x).map f++[f x]:=by rw[List.replicate_succ',dg];rfl
section
variable{Y:ae}
theorem aDP{x0 x2 x5 ls fs ts t1 o1 t3 o3 t4 o4}(hl:L Y=4096)(h1:L ls<=100)(h3:L fs<=100)(h4:L ts<=100):∃r m,(∃a1 a2 a3,r= .a [a1,iv<|-1,a2,a3]/\bc m 184 2 a1 ((er (L ls) (⟨-1,[]⟩:cg)).map cg.c)/\bc m 4 1 a2 ((er (L fs) I).map cb)/\bc m 138 3 a3 ((qZ<|L ts).map aoC.c)/\Fx Y m []/\(∀q∈aA a1,bK Y q/\q.1=20)/\(∀q∈aA a2,bK Y q/\q.1=32)/\(∀q∈aA a3,bK Y q/\q.1=49))/\cZ aS GG 118 [.a [x0, .l ls t1 o1,x2, .l fs t3 o3, .l ts t4 o4,x5]] Y r m:=by refine aLs hl rfl λs2 v1 K2 bt nf b1=>?_;have B:=K2.fx [];have G:=B.len.trans hl;refine I7 G λv2 s3 W N3 b2=>?_;have aM:=W.len.trans G;have aD:bM aNC bqM [(1,iv<|-1)]=V (.a [.l [] U U,iv<|-1, .l [] U U, .l [] U U]):=rfl;simp only[qz 4,qy 6,qy 8,aD,aY];refine I7 aM λp s4 F4 N4 b6=>?_;refine cy (y:=4) (cs:=[.l [] U U,iv<|-1, .l [] U U, .l [] U U]) b6 rfl rfl (by decide) λw F5 b6=>?_;have aw:box w (3,p)=V ⟨36,4,U,U,[[.l [] U U,iv<|-1, .l [] U U, .l [] U U]]⟩:=b6;have t:Fx s2 w []:=((W.trans F4).trans F5).mono (by grind [bK.no,bK.old]);have aO:=t.len.trans G;have c1:=t.kq b1;have c2:=F5.kq<|F4.kq b2;have N6:=(N4.old W).old B;have aT:∀{Y':ae} {ks:List Id},Fx w Y' ks->((1,v1):Id)∉ks->box Y' (1,v1)=V ⟨31,6,U,U,[[x0, .l ls t1 o1,x2, .l fs t3 o3, .l ts t4 o4,x5]]⟩:=λF h=>F.keep _ _ h c1;have O:∀{x:dM} {y:AV},aN J (y::x)=V y:=λ{x y}=>(by cases y<;>rfl);have v:∀{l:List cg},∀r∈l.map cg.c,L r=2:=qW (by intro _;rfl);have u:∀{l:List Bool},∀r∈l.map cb,L r=1:=(by grind);have alx:∀{l:List aoC},∀r∈l.map aoC.c,L r=3:=qW (by intro _;rfl);refine yV (L ls) (λk _ Y'=>∃a1,box Y' (3,p)=V ⟨36,4,U,U,[[a1,iv<|-1, .l [] U U, .l [] U U]]⟩/\bc Y' 184 2 a1 ((er k (⟨-1,[]⟩:cg)).map cg.c)/\Fx w Y' [(3,p)]/\∀q∈aA a1,bK w q/\q.1=20) ⟨_,aw,bc.nil,Fx.refl _ _,by simp[aA]⟩ ?_;rintro k _ m N ⟨a1,m1,g1,A,P1⟩;have d1:=aT A (by simp);have aK:=A.len.trans aO;have aE:bM btg brL [(0,iv<|-1)]=V (.a [iv<|-1, .l [] U U]):=rfl;have aF:∀{Y:ae},aX bu1 1 Y [(0, .a [iv<|-1, .l [] U U])]=V (.l ([(⟨-1,[]⟩:cg)].map cg.c) U U,Y):=λ{Y}=>(by simp[aX,aly,eY,nrm,gK,eR,gi,eB,iR,kills,kC,eN,er];rfl);simp only[qz 25,qy 10,au,eS,d1,O,nM,ip,fS,m1,aE,aF];refine⟨λh=>?_,λh=>?_⟩;have o:=aL h;refine Dv m1 (by simp) g1 (by grind) rfl (by decide) (by omega) v v (by grind) (by simp) λE Z H K g P2=>?_;simp only[qz 14,au,eQ];refine yU o ⟨E,H,by rw[aog];exact K,(A.trans g).mono λq e=>?_,λq e=>⟨?_,?_⟩⟩;grind [bK.no];grind [bK.old];grind;have n:k=L ls:=(by grind);subst n;clear N h;refine yV (L fs) (λk _ Y'=>∃a2,box Y' (3,p)=V ⟨36,4,U,U,[[a1,iv<|-1,a2, .l [] U U]]⟩/\bc Y' 4 1 a2 ((er k I).map cb)/\Fx m Y' [(3,p)]/\∀q∈aA a2,bK m q/\q.1=32) ⟨_,m1,bc.nil,Fx.refl _ _,by simp[aA]⟩ ?_;rintro k _ Z N ⟨a2,H,K,g,P2⟩;have d2:=g.kq d1;have ah:=g.len.trans aK;have af:∀{Y:ae},aX BD 1 Y [(0,bv I)]=V (.l ([I].map cb) U U,Y):=λ{Y}=>iz;simp only[qz 61,qy 16,au,eS,d2,O,nM,ip,fS,H,af];refine⟨λh=>?_,λh=>?_⟩;have o:=aL h;refine Dv H (by simp) K (by grind) rfl (by decide) (by omega) u u (by grind) (by simp) λE Y3 P M f X=>?_;simp only[qz 20,au,eQ];refine yU o ⟨E,P,by rw[aog];exact M,(g.trans f).mono λq e=>?_,λq e=>⟨?_,?_⟩⟩;grind [bK.no];grind [bK.old];grind;have n:k=L fs:=(by grind);subst n;clear N h;refine yV (L ts) (λk _ Y'=>∃a3,box Y' (3,p)=V ⟨36,4,U,U,[[a1,iv<|-1,a2,a3]]⟩/\bc Y' 138 3 a3 ((qZ k).map aoC.c)/\Fx Z Y' [(3,p)]/\∀q∈aA a3,bK Z q/\q.1=49) ⟨_,H,bc.nil,Fx.refl _ _,by simp[aA]⟩ ?_;rintro k _ Y3 N ⟨a3,P,M,f,X⟩;have d3:=f.kq d2;have ak:=f.len.trans ah;have aG:bM btz aM7 [(0,iv 0)]=V (.a<|aoC.c ⟨0,0,I⟩):=rfl;have ag:∀{Y:ae} {x:aoC},aX btY 1 Y [(0, .a<|aoC.c x)]=V (.l ([x].map aoC.c) U U,Y):=λ{Y x}=>ua rfl rfl rfl (by decide) rfl (by decide);have aR:∀{x:aoC},aN (V 3) (aoC.c x)=V (.a<|aoC.c x):=λ{x}=>rfl;have T:∀{x y x2 x3:AV},aN (V 4) [x,y,x2,x3]=V (.a [x,y,x2,x3]):=rfl;have bs:qZ (k+1)=qZ k++[⟨if k=0 then 1 else 0,0,I⟩]:=(by simp[qZ,qn]);have br:L (qZ k)=k:=(by simp[qZ]);simp only[qz 97,qy 22,qy 34,au,eS,d3,O,nM,ip,fS,aG];refine⟨λh=>?_,λh=>?_⟩;have o:=aL h;refine I7 ak λv7 Y4 ao N7 b7=>?_;refine cy (y:=3) (cs:=aoC.c ⟨0,0,I⟩) b7 rfl rfl (by decide) λD j b7=>?_;have S:box D (7,v7)=V ⟨138,3,U,U,[aoC.c ⟨0,0,I⟩]⟩:=b7;have R:Fx Y3 D []:=(ao.trans j).mono (by grind [bK.no]);simp only[qz 24,di];refine mG (λvs Y'=>vs=[]/\box Y' (7,v7)=V ⟨138,3,U,U,[aoC.c ⟨if k=0 then 1 else 0,0,I⟩]⟩/\Fx Y3 Y' []) (λb hJ=>?_) ?_;simp only[qz 131,qy 26,au,eS,S];refine⟨λhi=>?_,λhi=>hJ [] D ⟨rfl,?_,R⟩⟩;refine cy (y:=1) (cs:=[iv 1]) S rfl rfl (by decide) λY6 F6 b8=>hJ [] Y6 ⟨rfl,?_,(R.trans F6).mono<|by simp only[dW,cE];grind [bK.no]⟩;have h0:k=0:=(by grind);rw[sz h0];exact b8;have h0:¬k=0:=(by grind);grind;rintro vs Y6 ⟨rfl,b8,C⟩;have m6:=C.kq P;have g6:=M.fx C (by simp);simp only[qz 129,qy 28,eS,m6,b8,O,aR,nM,ip,ag];refine Dv m6 (by simp) g6 (by grind) rfl (by decide) (by grind [Fx.len]) alx alx (by grind [aO6]) (by simp) λE Y7 m7 g7 F7 P7=>?_;simp only[qz 32,au,eQ];refine yU o ⟨E,m7,by grind,((f.trans C).trans F7).mono λq e=>?_,λq e=>⟨?_,?_⟩⟩;simp only[dF,eW,ql,bmK] at e⊢;grind [bK.no];grind [bK.old];grind;have n:k=L ts:=(by grind);subst n;have ax:=f.kq<|g.kq<|A.kq c2;simp only[P,eQ,T];refine cy (y:=4) (cs:=[a1,iv<|-1,a2,a3]) ax rfl rfl (by decide) λD j b5=>?_;have av:box D (2,v2)=V ⟨36,4,U,U,[[a1,iv<|-1,a2,a3]]⟩:=b5;simp only[av,eQ,T,aNR,aoz];have i:∀{a:AV} {d:Nat},(∀q∈aA a,q.1=d)->d≠2->d≠3->∀q∈aA a,q∉[((2,v2):Id)]/\q∉[((3,p):Id)]:=λh h1 h2 q e=>⟨(by grind),by grind⟩;have n1:=i (λq e=>(P1 q e).2) (by decide) (by decide);have n2:=i (λq e=>(P2 q e).2) (by decide) (by decide);have n3:=i (λq e=>(X q e).2) (by decide) (by decide);have am:∀{q:Id},bK w q->bK Y q:=λh=>(h.old t).old B;refine⟨a1,a2,a3,rfl,((g1.fx g λq e=>(n1 q e).2).fx f λq e=>(n1 q e).2).fx j λq e=>(n1 q e).1,(K.fx f λq e=>(n2 q e).2).fx j λq e=>(n2 q e).1,M.fx j λq e=>(n3 q e).1,(((((B.trans t).trans A).trans g).trans f).trans j).mono λq e=>?_,(by grind),(by grind [bK.old]),λq e=>⟨am (by grind [bK.old]),(X q e).2⟩⟩;simp only[dW,dF,cE,or_self] at e;rcases e with rfl|rfl;exact .inr N6.no;exact .inr (N3.old B).no
end
def wI(n:Nat):List dL:=(aH n).flatMap λ(t:Nat)=>(aH 6).map λ(k:Nat)=>⟨(t:Int),(k:Int),10*(t:Int)+k+1⟩
def aNE:pz:=⟨[⟨⟨#[120]⟩,0,0,I,0⟩,⟨⟨#[121]⟩,0,0,I,1⟩,⟨⟨#[118]⟩,0,0,U,0⟩,⟨⟨#[113]⟩,0,2,I,0⟩,⟨⟨#[113]⟩,1,2,I,0⟩],[⟨⟨#[109]⟩,I⟩,⟨⟨#[110]⟩,I⟩,⟨⟨#[114]⟩,U⟩],[⟨⟨#[99]⟩,0⟩],[⟨#[102]⟩],[⟨#[109,97,105,110]⟩,⟨#[116,49]⟩,⟨#[116,50]⟩,⟨#[116,51]⟩],wI 4⟩
def gu(t o:Bool):dM:=[.l (aNE.cells.map cA.c) U U, .l (aNE.ak.map dS.c) U U, .l (aNE.bC.map aPI.c) U U, .l (aNE.bU.map cs) U U, .l (aNE.ay.map cs) U U, .l (aNE.dU.map dL.c) t o]
def bdB:Ct 54 [] λr=>∃t o,r= .a (gu t o):=by
 refine aMx λs0 hl h0=>?_
 refine I7 hl λv0 s1 F1 N1 b1=>?_
 have v:=F1.len.trans hl
 have hc:∀{Y:ae},aX btZ 5 Y [(0, .a<|cA.c ⟨⟨#[120]⟩,0,0,I,0⟩),(1, .a<|cA.c ⟨⟨#[121]⟩,0,0,I,1⟩),(2, .a<|cA.c ⟨⟨#[118]⟩,0,0,U,0⟩),(3, .a<|cA.c ⟨⟨#[113]⟩,0,2,I,0⟩),(4, .a<|cA.c ⟨⟨#[113]⟩,1,2,I,0⟩)]=V (.l (aNE.cells.map cA.c) U U,Y):=λ{Y}=>rfl
 have N:bM bsT aOs [(0,sv [120])]=V (.a<|cA.c ⟨⟨#[120]⟩,0,0,I,0⟩):=rfl
 have O:bM bsT aOs [(0,sv [121]),(4,iv 1)]=V (.a<|cA.c ⟨⟨#[121]⟩,0,0,I,1⟩):=rfl
 have P:bM bsT aOs [(0,sv [118]),(3,bv U)]=V (.a<|cA.c ⟨⟨#[118]⟩,0,0,U,0⟩):=rfl
 have R:bM bsT aOs [(0,sv [113]),(2,iv 2)]=V (.a<|cA.c ⟨⟨#[113]⟩,0,2,I,0⟩):=rfl
 have S:bM bsT aOs [(0,sv [113]),(1,iv 1),(2,iv 2)]=V (.a<|cA.c ⟨⟨#[113]⟩,1,2,I,0⟩):=rfl
 simp only[qz 2,N,O,P,R,S,aY,hc,bQ]
 have aa:bM btf brL [(0,sv [109])]=V (.a<|dS.c ⟨⟨#[109]⟩,I⟩):=rfl
 have ab:bM btf brL [(0,sv [110])]=V (.a<|dS.c ⟨⟨#[110]⟩,I⟩):=rfl
 have ac:bM btf brL [(0,sv [114]),(1,bv U)]=V (.a<|dS.c ⟨⟨#[114]⟩,U⟩):=rfl
 have X:∀{Y:ae},aX bt0 3 Y [(0, .a<|dS.c ⟨⟨#[109]⟩,I⟩),(1, .a<|dS.c ⟨⟨#[110]⟩,I⟩),(2, .a<|dS.c ⟨⟨#[114]⟩,U⟩)]=V (.l (aNE.ak.map dS.c) U U,Y):=λ{Y}=>rfl
 simp only[qz 4,aa,ab,ac,aY,X,bQ]
 have al:bM bua brL [(0,sv [99])]=V (.a<|aPI.c ⟨⟨#[99]⟩,0⟩):=rfl
 have m:∀{Y:ae},aX bt1 1 Y [(0, .a<|aPI.c ⟨⟨#[99]⟩,0⟩)]=V (.l (aNE.bC.map aPI.c) U U,Y):=λ{Y}=>rfl
 have hf:∀{Y:ae},aX zd9 1 Y [(0,sv [102])]=V (.l (aNE.bU.map cs) U U,Y):=λ{Y}=>rfl
 have ht:∀{Y:ae},aX zd9 4 Y [(0,sv [109,97,105,110]),(1,sv [116,49]),(2,sv [116,50]),(3,sv [116,51])]=V (.l (aNE.ay.map cs) U U,Y):=λ{Y}=>rfl
 simp only[qz 6,al,aY,m,bQ,qz 8,hf,qz 10,ht]
 have hw:bM aRc anY [(0, .l (aNE.cells.map cA.c) U U),(1, .l (aNE.ak.map dS.c) U U),(2, .l (aNE.bC.map aPI.c) U U),(3, .l (aNE.bU.map cs) U U),(4, .l (aNE.ay.map cs) U U)]=V (.a [.l (aNE.cells.map cA.c) U U, .l (aNE.ak.map dS.c) U U, .l (aNE.bC.map aPI.c) U U, .l (aNE.bU.map cs) U U, .l (aNE.ay.map cs) U U, .l [] U U]):=rfl
 simp only[qz 12,qy 14,hw,aY]
 have bf:L aNE.ay=4:=rfl
 have bd:∀a,a=aNE.dU->wI 4=a:=λa h=>h.symm
 generalize hA:AV.l (aNE.cells.map cA.c) U U=A
 generalize hB:AV.l (aNE.ak.map dS.c) U U=B
 generalize hC:AV.l (aNE.bC.map aPI.c) U U=C
 generalize hD:AV.l (aNE.bU.map cs) U U=D
 refine I7 v λi s2 F2 N2 b2=>?_
 refine cy (y:=6) (cs:=[A,B,C,D, .l (aNE.ay.map cs) U U, .l [] U U]) b2 rfl rfl (by decide) λd F3 b3=>?_
 have u:box d (1,i)=V ⟨31,6,U,U,[[A,B,C,D, .l (aNE.ay.map cs) U U, .l [] U U]]⟩:=b3
 have n:Fx s1 d []:=(F2.trans F3).mono (by grind [bK.no])
 have c1:=n.kq b1
 have af:=n.len.trans v
 have k1:∀{x:dM} {y:AV},aN J (y::x)=V y:=λ{x y}=>by cases y<;>rfl
 have w:∀{x y x2 x3 x4 x5:AV},aN (V 6) [x,y,x2,x3,x4,x5]=V (.a [x,y,x2,x3,x4,x5]):=rfl
 have ag:∀{Y:ae},fS Y (.l (aNE.ay.map cs) U U)=V (iv (4:Nat)):=λ{Y}=>rfl
 simp only[qz 16,eS,u,k1,nM,ip,ag]
 have alx:∀{l:List dL},∀r∈l.map dL.c,L r=3:=qW (by intro _;rfl)
 have be:∀k,wI (k+1)=wI k++(aH 6).map λ(j:Nat)=>⟨(k:Int),(j:Int),10*(k:Int)+j+1⟩:=λk=>a7a
 have am:∀k,L (wI k)<=k*6:=λk=>eU (f:=λ(t:Nat)=>(aH 6).map λ(k:Nat)=>(⟨(t:Int),(k:Int),10*(t:Int)+k+1⟩:dL)) (c:=6) (λt=>by simp) k
 refine yV 4 (λk _ Y'=>∃a,box Y' (1,i)=V ⟨31,6,U,U,[[A,B,C,D, .l (aNE.ay.map cs) U U,a]]⟩/\bc Y' 181 3 a ((wI k).map dL.c)/\Fx d Y' [(1,i)]/\∀q∈aA a,bK d q/\q.1=40) ⟨_,u,bc.nil,Fx.refl _ _,by simp[aA]⟩ ?_
 rintro k _ Y1 X ⟨a1,m1,g1,e,P1⟩
 have aU:=e.len.trans af
 have aW:=am k
 simp only[qz 25,qy 24,au,eQ]
 refine⟨λh=>?_,λh=>?_⟩
 ·have ah:=aL h
  refine yV 6 (λj _ Y'=>∃a,box Y' (1,i)=V ⟨31,6,U,U,[[A,B,C,D, .l (aNE.ay.map cs) U U,a]]⟩/\bc Y' 181 3 a ((wI k++(aH j).map λ(j:Nat)=>(⟨(k:Int),(j:Int),10*(k:Int)+j+1⟩:dL)).map dL.c)/\Fx d Y' [(1,i)]/\∀q∈aA a,bK d q/\q.1=40) ⟨a1,m1,by grind,e,P1⟩ ?_
  rintro j _ Y2 hj ⟨a2,E,g2,p,P2⟩
  have W:∀{Y:ae} {x:dL},aX bt2 1 Y [(0, .a<|dL.c x)]=V (.l ([x].map dL.c) U U,Y):=λ{Y x}=>ua rfl rfl rfl (by decide) rfl (by decide)
  have T:∀{x y z:Int},bM bub aM7 [(0,iv x),(1,iv y),(2,iv z)]=V (.a<|dL.c ⟨x,y,z⟩):=λ{x y z}=>rfl
  simp only[qz 61,qy 18,au,eS,E,k1,nM,ip,T,W]
  refine⟨λM=>?_,λM=>?_⟩
  ·have g:j<6:=(by grind)
   rw[show dq.wrap (dq.wrap (dq.wrap (10*(k:Int))+j)+1)=10*(k:Int)+j+1 by
    rw[eM (x:=10*(k:Int)) (by omega) (by omega),eM (x:=10*(k:Int)+j) (by omega) (by omega),eM (by omega)<|by omega]]
   refine Dv E (by simp) g2 (by grind) rfl (by decide) (by grind [Fx.len]) alx alx (by simp only[bJ,a6G,List.length_range,bZ,aO6];omega) (by simp) λa' Y3 m3 K F P3=>?_
   simp only[qz 22,au,eQ]
   refine yU g ⟨a',m3,by simp only[qn,dg,<-List.append_assoc] at K⊢;exact K,(p.trans F).mono λq m=>?_,λq m=>⟨?_,?_⟩⟩
   ·simp only[dF,eW,ql,bmK] at m⊢
    grind [bK.no]
   ·grind [bK.old]
   grind
  ·have bb:=bqL M
   have g:j=6:=by omega
   subst g
   refine yU ah ⟨a2,E,by grind,p,P2⟩
 ·have Z:k=4:=(by grind)
  subst Z
  have H:=e.kq c1
  simp only[m1,w,eQ]
  refine cy (y:=6) (cs:=[A,B,C,D, .l (aNE.ay.map cs) U U,a1]) H rfl rfl (by decide) λb F5 b5=>?_
  have G:box b (0,v0)=V ⟨31,6,U,U,[[A,B,C,D, .l (aNE.ay.map cs) U U,a1]]⟩:=b5
  simp only[G,w,eQ]
  obtain⟨t,o,q1⟩:=(g1.fx F5<|by grind).frD
  have hr:jS b [.a [A,B,C,D, .l (aNE.ay.map cs) U U,a1]]= .a (gu t o):=by
   show AV.a [dQ b A,dQ b B,dQ b C,dQ b D,dQ b<|.l (aNE.ay.map cs) U U,dQ b a1]=_
   rw[q1,<-hA,<-hB,<-hC,<-hD];rfl
  unfold aE
  rw[hr]
  exact⟨rfl,t,o,rfl⟩
def PM:Ct 54 [] (·= .a aNE.c):=by refine aDq ?_;obtain⟨r,b,d⟩:=bdB;refine⟨r,?_,d⟩;obtain⟨t,o,rfl⟩:=b;rfl
def Gf:FT:=BJ PM
def azy:=al2 Gf PM
def aTk{c cs}:wn (c::cs)=aA c++wn cs:=by cases c<;>rfl
def aYg{c Y}{d:Nat}{cs a e}{z:Nat}{bA}(g:bc c e z a bA)(n:bA.all (λr=>r.all DU)=U)(i:d<L Y):∃h f,gU c d Y (a::cs)=(gU c d f cs).map (λp=>(h::p.1,p.2))/\bc f e z h bA/\Fx Y f []/\∀q∈aA h,bK Y q/\q.1=d:=by rcases g with⟨rfl,rfl⟩|⟨b,rfl,k⟩;exact⟨.l [] U U,Y,rfl, .inl ⟨rfl,rfl⟩,Fx.refl _ _,by simp[aA]⟩;refine⟨.m (I8 Y d)<|L bA,put Y d ⟨e,z,U,I,bA⟩,?_, .inr ⟨_,rfl,iy i⟩,kH i,λq j=>?_⟩;grind [vY,gU];simp only[aA,cE] at j;subst j;exact⟨qQ Y d,rfl⟩
def a57{Y}{d:Nat}{K}{w:pz}(b:d<L Y)(X:L w.ak<=100)(Z:L w.bU<=100)(h4:L w.ay<=100)(G:∀a1 a2 a3 Y',bc Y' 184 2 a1 ((er (L w.ak) (⟨-1,[]⟩:cg)).map cg.c)->bc Y' 4 1 a2 ((er (L w.bU) I).map cb)->bc Y' 138 3 a3 ((qZ<|L w.ay).map aoC.c)->Fx Y Y' []->(∀q∈aA a1++(aA a2++aA a3),bK Y q/\q.1=d)->K (.a [a1,iv<|-1,a2,a3]) Y'):cN 118 [.a w.c] Y d K:=by obtain⟨r,l,⟨a1,a2,a3,rfl,g1,u,v,F,S,T,W⟩,E⟩:=aDP (Y:=eK) (x0:=sl cA.c w.cells) (x2:=sl aPI.c w.bC) (x5:=sl dL.c w.dU) (ls:=w.ak.map dS.c) (fs:=w.bU.map cs) (ts:=w.ay.map cs) (t1:=I) (o1:=I) (t3:=I) (o3:=I) (t4:=I) (o4:=I) (List.length_replicate ..) (by grind) (by grind) (by grind);simp only[bJ] at g1 u v;obtain⟨n,m,B,M,i,P⟩:=aYg (Y:=Y) (d:=d) (cs:=[iv (-1),a2,a3]) g1 (by simp[cg.c,DU,sl]) b;obtain⟨o,R,C,N,j,n2⟩:=aYg (Y:=m) (d:=d) (cs:=[a3]) u (by simp[DU,cb]) (by rw[i.len];exact b);obtain⟨t,A,D,O,k,n3⟩:=aYg (Y:=R) (d:=d) (cs:=[]) v (by simp[dV,DU,aoC.c]) (by rw[j.len,i.len];exact b);have f:[AV.a w.c].map (dG Y)=[.a w.c]:=rfl;refine .inr (.inr ⟨by rw[f];simp[iX,pz.c,eN,sl],by simp[aPF,b],[a1,iv<|-1,a2,a3],l,[n,iv<|-1,o,t],A,by rw[f];exact E,?_,?_,?_⟩);have m1:∀{a:AV},(aA a).Nodup:=λ{a}=>(by cases a<;>simp[aA]);have e0:wn [a1,iv<|-1,a2,a3]=aA a1++(aA a2++aA a3):=(by rw[aTk,aTk,aTk,aTk];show aA a1++([]++(aA a2++(aA a3++[])))=_;simp);rw[e0,xl,xl];refine⟨m1,⟨m1,m1,λx f y g e=>?_⟩,λx f y g e=>?_⟩;grind;subst e;rcases dF.1 g with g|g;grind;grind;rw[B];have:gU l d m [iv (-1),a2,a3]=(gU l d m [a2,a3]).map λp=>(iv (-1)::p.1,p.2):=rfl;rw[this,C,D];rfl;refine G n o t A ((M.fx j<|by simp).fx k<|by simp) (N.fx k<|by simp) O ((i.trans j).trans k) λq H=>?_;rcases dF.1 H with h|h;exact P q h;rcases dF.1 h with h|h;grind [bK.old];grind [bK.old]
def aH6(w:pz):I5:=⟨⟨er (L w.ak) ⟨-1,[]⟩,-1,er (L w.bU) I,qZ<|L w.ay⟩,w.cells.map (·.init),er (L w.bU) 0,er (L w.ay) 0⟩
def aWw{Y e z a bA d}(g:bc Y e z a bA)(h:∀q∈aA a,q.1=d):dK a=[]\/dK a=[d]:=by rcases g with⟨_,rfl⟩|⟨b,rfl,_⟩;exact .inl rfl;grind [aA,dK]
theorem k1m{b n}:dK (.m b n)=[b.1]:=rfl
def k1p{b i j}:dK (.p b i j)=[b.1]:=rfl
def k1s{v}:dK (.s v)=[]:=rfl
theorem k1l{r t o}:dK (.l r t o)=[]:=rfl
structure SnL(Y0 Y:ae)(s:I5)(a1 a2 a3 a4 a5 a6:AV):Prop where
 g1:sA Y 184 2 a1 (s.bW.ak.map cg.c)
 g2:sA Y 4 1 a2 (s.bW.done.map cb)
 g3:sA Y 138 3 a3 (s.bW.ay.map aoC.c)
 g4:sA Y 2 1 a4 (s.cells.map ci)
 g5:sA Y 2 1 a5 (s.bU.map ci)
 g6:sA Y 3 1 a6 (s.count.map ci)
 p1:∀q∈aA a1,bK Y0 q/\q.1=6
 p2:∀q∈aA a2,bK Y0 q/\q.1=6
 p3:∀q∈aA a3,bK Y0 q/\q.1=6
 p4:∀q∈aA a4,bK Y0 q/\q.1=32
 p5:∀q∈aA a5,bK Y0 q/\q.1=10
 p6:∀q∈aA a6,bK Y0 q/\q.1=14
section
variable{Y0 Y:ae}{s:I5}{a1 a2 a3 a4 a5 a6:AV}
theorem SnL.ids(h:SnL Y0 Y s a1 a2 a3 a4 a5 a6){x}:∀q∈eB (.a [a1,iv x,a2,a3,a4,a5,a6]),bK Y0 q/\(q.1=6\/q.1=10\/q.1=14\/q.1=32):=by intro q b;have c:∀{a:AV},iR a=aA a:=λ{a}=>(by cases a<;>rfl);simp only[eB,Cz,RN,c,cL,dF] at b;rcases b with g|g|g|g|g|g|g;grind [SnL.p1];simp[aA] at g;grind [SnL.p2];grind [SnL.p3];grind [SnL.p4];grind [SnL.p5];grind [SnL.p6]
theorem SnL.lz(h:SnL Y0 Y s a1 a2 a3 a4 a5 a6):[a1,iv s.bW.tx,a2,a3,a4,a5,a6].map (lz Y)=s.c:=by simp only[ji,mU,aOb h.g1,aOb h.g2,aOb h.g3,aOb h.g4,aOb h.g5,aOb h.g6,aQ5];rfl
end
def aXI{Y w}(hl:L Y=4096)(h0:L w.cells<=1000)(h1:L w.ak<=100)(h3:L w.bU<=100)(h4:L w.ay<=100):∃r G,(∃a1 a2 a3 a4 a5 a6,r= .a [a1,iv<|-1,a2,a3,a4,a5,a6]/\SnL Y G (aH6 w) a1 a2 a3 a4 a5 a6/\Fx Y G [])/\cZ aS GG 57 [.a w.c] Y r G:=by refine aLy hl rfl λs2 v1 K2 br nf b1=>?_;have D:=K2.fx [];have R:=D.len.trans hl;refine I7 R λv2 s3 E N3 b2=>?_;have c1:=E.kq b1;have aC:=E.len.trans R;have r6:aN (V 6) w.c=V (.a w.c):=rfl;have aM:aN J (w.c.drop 3)=V (sl cs w.bU):=rfl;have aO:aN J (w.c.drop 4)=V (sl cs w.ay):=rfl;have Z:aN J w.c=V (sl cA.c w.cells):=rfl;simp only[qz 4,eQ,c1,r6];refine a57 (by omega) h1 h3 h4 λa1 a2 a3 s5 g1 g2 g3 n P=>?_;have P1:∀q∈aA a1,q.1=6:=λq b=>(P q<|by simp[b]).2;have P2:∀q∈aA a2,q.1=6:=λq b=>(P q<|by simp[b]).2;have P3:∀q∈aA a3,q.1=6:=λq b=>(P q<|by simp[b]).2;have B:=n.kq c1;have an:=n.kq b2;have aD:=n.len.trans aC;simp only[qz 6,eS,B,aM];refine AP (by decide) (by decide) (by omega) (by omega) λy s6 p5 N6 F d5=>?_;have aE:=F.len.trans aD;have al:=F.kq B;simp only[qz 8,eS,al,aO];refine AP (by decide) (by decide) (by omega) (by omega) λA s7 p6 N7 T d6=>?_;have S:=T.len.trans aE;have O:=F.trans T;have av:bM BF aon [(0, .a [a1,iv<|-1,a2,a3]),(2, .m y<|L w.bU),(3, .m A<|L w.ay)]=V (.a [a1,iv<|-1,a2,a3, .l [] U U, .m y<|L w.bU, .m A<|L w.ay]):=rfl;simp only[qz 10,qy 12,av,aY];refine anu S λN C o N8 d9=>?_;have f:=O.trans o;have aF:=o.len.trans S;have am:=f.kq B;have ao:=f.kq an;have q1:=g1.fx f (by simp);have q2:=g2.fx f (by simp);have q3:=g3.fx f (by simp);have q5:=o.kq<|T.kq d5;have q6:=o.kq d6;obtain⟨bp,i⟩:=y;obtain⟨bq,j⟩:=A;simp only at p5 p6;subst p5;subst p6;simp only[qz 14];refine dT ?_ ?_;rcases aWw g1 P1 with K|K<;>rcases aWw g2 P2 with M|M<;>rcases aWw g3 P3 with e3|e3<;>simp[eL,lb,zt,dC,k1m,k1p,k1s,k1l,pz.c,sl,K,M,e3];refine yV (L w.cells) (λk _ Y'=>∃a,box Y' (3,N)=V ⟨40,7,U,U,[[a1,iv<|-1,a2,a3,a, .m (10,i)<|L w.bU, .m (14,j)<|L w.ay]]⟩/\bc Y' 2 1 a (((w.cells.take k).map (·.init)).map ci)/\Fx C Y' [(3,N)]/\∀q∈aA a,bK C q/\q.1=32) (by grind [bc,Fx.refl,aA]) ?_;rintro k _ G hk ⟨a4,m1,W,v,P4⟩;have K:=v.kq am;have aB:=v.len.trans aF;have aw:∀{Y:ae} {x:Int},aX yW 1 Y [(0,iv x)]=V (.l ([x].map ci) U U,Y):=λ{Y x}=>iz;simp only[qz 25,qy 16,qy 22,au,eT,K,Z,m1,aRf,bhZ,aQ6,ix,bh,aw];refine⟨λh=>?_,λh=>?_⟩;have t:=aL h;refine⟨dJ t,?_⟩;refine apQ W.p aB fF fF (by simp) (by simp;omega) λa' H g5 g N5=>?_;have m5:=g.keep _ _ (λb=>by have:=(P4 _ b).2;simp at this) m1;simp only[qz 18,eS,m5];refine stC m5 g5.p.ce (by simp) λY6 aa A=>?_;have P5:∀q∈aA a',bK C q/\q.1=32:=(by grind [bK.old]);simp only[qz 20];refine dT (by simp[eL,lb,zt,dC,dK]) ?_;simp only[au,eQ];refine yU t ⟨a',A,?_,((v.trans g).trans aa).mono λq b=>?_,P5⟩;rw[iJ t,<-bT t,dg,dg];grind [bc.fx];grind [bK.no];have ax:k=L w.cells:=(by grind);subst ax;rw[gV] at W;have M:=v.kq ao;have Bi:aN (V 7) [a1,iv<|-1,a2,a3,a4, .m (10,i)<|L w.bU, .m (14,j)<|L w.ay]=V (.a [a1,iv<|-1,a2,a3,a4, .m (10,i)<|L w.bU, .m (14,j)<|L w.ay]):=rfl;simp only[Bi,aY];refine stW M rfl rfl λH g y=>?_;simp only[y,aPy,qh,df,Bi,aY];have u:Fx C H [(3,N),(2,v2)]:=v.trans g;have X:∀{a:AV} {d:Nat},(∀q∈aA a,q.1=d)->d≠2->d≠3->∀q∈aA a,q∉[((3,N):Id),((2,v2):Id)]:=(by grind);have z1:=q1.fx u (X P1 (by decide)<|by decide);have z2:=q2.fx u (X P2 (by decide)<|by decide);have z3:=q3.fx u (X P3 (by decide)<|by decide);have z4:=W.fx g (λq b e=>by have:=(P4 q b).2;simp at e;subst e;simp at this);have z5:bc H 2 1 (.m (10,i)<|L w.bU) ((er (L w.bU) (0:Int)).map ci):= .inr ⟨(10,i),by simp,by rw[u.kq q5,List.map_replicate];rfl⟩;have z6:bc H 3 1 (.m (14,j)<|L w.ay) ((er (L w.ay) (0:Int)).map ci):= .inr ⟨(14,j),by simp,by rw[u.kq q6,List.map_replicate];rfl⟩;have o3:∀{q:Id},bK s3 q->bK Y q:=λh=>(h.old E).old D;have o9:∀{q:Id},bK C q->bK Y q:=(by grind [bK.old]);have n5:=o3<|N6.old n;have bs:=o3<|(N7.old F).old n;refine⟨a1,a2,a3,a4,_,_,rfl,⟨z1.p,z2.p,z3.p,z4.p,z5.p,z6.p,(by grind),(by grind),(by grind),(by grind),λq h=>?_,λq h=>?_⟩,((((D.trans E).trans n).trans f).trans u).mono λq b=>?_⟩;grind [aA];grind [aA];simp only[dW,eW,ql,bmK,cL] at b;rcases b with rfl|rfl;exact .inr (o3<|(N8.old O).old n).no;exact .inr (N3.old D).no
def SlR(Y:ae)(z:Nat)(x:AV)(bA:List<|dM):Prop:=(∃t o,x= .l bA t o)\/∃b m e,x= .m b (L bA)/\box Y b=V ⟨e,z,U,I,bA++m⟩
section
variable{Y Y':ae}{z:Nat}{x:AV}{bA:List (dM)}
theorem SlR.fx{Lw}(h:SlR Y z x bA)(F:Fx Y Y' Lw)(a:∀q∈aA x,q∉Lw):SlR Y' z x bA:=by rcases h with h|⟨b,m,e,rfl,c⟩;exact .inl h;exact .inr ⟨b,m,e,rfl,F.keep _ _ (a b<|by simp[aA]) c⟩
theorem SlR.bx(h:SlR Y z x bA):∀q∈aA x,∃y,box Y q=V y:=by rcases h with⟨t,o,rfl⟩|⟨b,m,e,rfl,a⟩;simp[aA];grind [aA]
def SlR.of{e}(h:sA Y e z x bA):SlR Y z x bA:=by rcases h with⟨rfl,rfl⟩|⟨b,m,rfl,a⟩;exact .inl ⟨_,_,rfl⟩;exact .inr ⟨b,m,e,rfl,a⟩
def SlR.ro(h:SlR Y z x bA):gL Y x=V bA:=by rcases h with⟨t,o,rfl⟩|⟨b,m,e,rfl,a⟩;rfl;simp[gL,a]
theorem SlR.ln(h:SlR Y z x bA):fS Y x=V (iv<|L bA):=by rcases h with⟨t,o,rfl⟩|⟨b,m,e,rfl,a⟩;rfl;simp[fS,a]
theorem SlR.ce(h:SlR Y z x bA):eY x=V [x]:=by rcases h with⟨t,o,rfl⟩|⟨b,m,e,rfl,a⟩<;>rfl
theorem SlR.ix1(h:SlR Y 1 x bA){i:Nat}{c}(k:bA[i]?=V [c]){K:AV->cC}(g:∀p,p= .q [c]\/(∃b,p= .p b i 0/\b∈aA x)->K p c):rV (cz 1 Y x<|iv i) λp=>rV (Iy J Y p) (K p):=by obtain⟨d,j⟩:=List.getElem?_eq_some_iff.1 k;rcases h with⟨t,o,rfl⟩|⟨b,m,e,rfl,a⟩;have:cz 1 Y (.l bA t o) (iv i)=V (.q [c]):=(by simp[cz,d,j]);rw[this];exact g _<|.inl rfl;have n:cz 1 Y (.m b<|L bA) (iv i)=V (.p b i 0):=(by simp[cz,a,d]);have f:(bA++m)[i]?=V [c]:=(by grind);have r:Iy J Y (.p b i 0)=V c:=(by simp only[Iy,iE,a,aPy,f];cases c<;>rfl);grind [aY,aA]
theorem apV{e}{d by':Nat}{zs a new K}(f:sA Y e z a bA)(n:gL Y x=V new)(y:L zs=z)(t:0<z)(u:d<L Y)(w:∀r∈bA,L r=z)(v:∀r∈new,L r=z)(g:(L bA+L new)*(by'+1)<=1099511627776)(k:∀c Y',sA Y' e z c (bA++new)->Fx Y Y' (aA a)->(∀b∈aA c,b∈aA a\/bK Y b/\b.1=d)->K c Y'):eV (apA e zs by' Y d a x) K:=by have j:apA e zs by' Y d a x=apA e zs by' Y d a (.l new U U):=(by have h:gL Y (.l new U U)=V new:=rfl;unfold apA;rw[n,h]);rw[j];by_cases i:new=[];subst i;have:apA e zs by' Y d a (.l [] U U)=V (a,Y):=(by unfold apA;simp only[gL];rw[sz<|by simp];rcases f with⟨_,rfl⟩|⟨q,m,rfl,o⟩;rfl;simp[o]);rw[this];exact k a Y (by simpa using f) (Fx.refl _ _) λb g=> .inl g;grind [qs,bc.p]
end
def baG{Y z0 a e z bA}(g:sA Y e z a bA):aX [z0] 1 Y [(0,a)]=V (.l [[.l bA I I]] U U,kills Y<|aA a):=by rcases g with⟨rfl,rfl⟩|⟨b,m,rfl,c⟩;simp[aX,aly,eY,nrm,gK,eR,gi,eB,iR,kills,kC,eN,aA];simp[aX,aly,eY,nrm,gK,eR,gi,eB,iR,kC,eN,aA,c]
def SlR.keys{Y z x bA}(h:SlR Y z x bA){P:Nat->Prop}(a:∀q∈aA x,P q.1):zt x=[]\/∃p,zt x=[p]/\P p:=by rcases h with⟨t,o,rfl⟩|⟨b,m,e,rfl,c⟩;exact .inl rfl;exact .inr ⟨b.1,rfl,a b<|by simp[aA]⟩
def a6M{Y}{o ev:Int}{S x2}{I9:d0}{NA:List (d0)}(hl:L Y=4096)(h1:SlR Y 1 S<|I9.map ci)(h2:SlR Y 1 x2<|NA.map cl)(hp:∀q∈aA S,q.1≠1/\q.1≠3)(b1:L I9<=1000)(b2:L NA<=1000)(b3:∀t∈NA,L t<=1000):
  ∃r j,(∃a1 a2,r= .a [iv o,a1,a2,iv ev]/\sA j 2 1 a1 (I9.map ci)/\sA j 38 1 a2 (NA.map cl)/\Fx Y j []/\(∀q∈aA a1,bK Y q/\q.1=12)/\∀q∈aA a2,bK Y q/\q.1=31)/\cZ aS GG 266 [.a [iv o,S,x2,iv ev]] Y r j:=by
 refine bhc hl rfl λs2 v1 K2 ba nf c1=>?_
 have A:=K2.fx []
 have H:=A.len.trans hl
 have H1:=h1.fx A (by simp)
 have H2:=h2.fx A (by simp)
 refine I7 H λv2 O v N3 q3=>?_
 have M:=v.kq c1
 have K:=v.len.trans H
 have F:∀{x:dM} {y:AV},aN J (y::x)=V y:=λ{x y}=>by cases y<;>rfl
 simp only[qz 4,eS,M,F,nM,ip,nS]
 have H3:=H2.fx v (by simp)
 have X:=H1.fx v (by simp)
 simp only[qz 6,eS,M,F,nM,ip]
 refine apV (bA:=[]) (e:=2) (z:=1) (.inl ⟨rfl,rfl⟩) X.ro rfl (by decide) (by omega) (by simp) fF (by simp;omega) λa1 s4 E F4 P4=>?_
 simp only[dW] at E
 have aZ:∀q∈aA a1,bK O q/\q.1=12:=(by grind [aA])
 have d:Fx O s4 []:=F4.mono (by simp[aA])
 have ak:bM aoB bqM [(0,iv o),(3,iv ev),(1,a1)]=V (.a [iv o,a1, .l [] U U,iv ev]):=by
  rcases E with⟨_,rfl⟩|⟨b,m,rfl,_⟩<;>rfl
 simp only[qz 8,qy 10,ak,aY]
 refine anu (d.len.trans K) λv3 R w N5 q5=>?_
 have aq:=w.len.trans<|d.len.trans K
 have c5:=w.kq<|d.kq M
 have d5:=w.kq<|d.kq q3
 have g5:=E.fx w (by simp)
 have H5:=(H3.fx d<|by simp).fx w (by simp)
 have o3:∀{q:Id},bK O q->bK Y q:=λh=>(h.old v).old A
 have o5:∀{q:Id},bK R q->bK Y q:=(by grind [bK.old])
 refine dT ?_ ?_
 ·have hk:zt a1=[]\/zt a1=[12]:=by
   rcases E with⟨_,rfl⟩|⟨b,m,rfl,_⟩
   ·exact .inl rfl
   grind [aA,zt,dC,dK]
  rcases hk with D|D<;>rcases h1.keys (P:=λp=>p≠1/\p≠3) hp with e2|⟨p,e2,p1,p3⟩<;>simp[eL,lb,Cz, *]<;>simp[zt,dC,dK]<;>omega
 refine yV (L NA) (λk _ Y'=>∃a2,box Y' (3,v3)=V ⟨251,4,U,U,[[iv o,a1,a2,iv ev]]⟩/\sA Y' 38 1 a2 ((NA.take k).map cl)/\Fx R Y' [(3,v3)]/\∀q∈aA a2,bK R q/\q.1=31) (by grind [sA,Fx.refl,aA]) ?_
 rintro k _ j hk ⟨a2,m1,g2,g,P6⟩
 have D:=g.kq c5
 have aa:=o3<|N5.old d
 have Z:=H5.fx g (λq n e=>by
  simp only[cE] at e
  subst e
  obtain⟨y,hy⟩:=h2.bx _ n
  exact aa.no y hy)
 simp only[qz 25,qy 24,au,eS,D,m1,F,nM,ip,Z.ln,bJ,nS]
 refine⟨λh=>?_,λh=>?_⟩
 ·have f:=aL h
  simp only[qz 14,au,eS,D,F,nM,ip]
  refine Z.ix1 (i:=k) (c:=sl ci<|gd NA k) (by rw[bkb,eC f,bT f];rfl) λp a8=>?_
  have ap:=g.len.trans aq
  have a0:=b3 _<|dB f
  refine apV (bA:=[]) (e:=3) (z:=1) (new:=(gd NA k).map ci) (.inl ⟨rfl,rfl⟩) rfl rfl (by decide) (by omega) (by simp) fF (by simp;omega) λC s7 N F7 P7=>?_
  simp only[dW] at N
  have u:Fx j s7 []:=F7.mono (by simp[aA])
  have ab:∀q∈aA C,bK j q/\q.1=29:=(by grind [aA])
  have B:=aOp (aA C) s7
  simp only[qz 16,qy 18,baG N,bQ]
  have g8:=(g2.fx u<|by simp).fx B (by grind)
  refine qs (new:=[[.l ((gd NA k).map ci) I I]]) g8 rfl (by decide) (by rw[B.len,u.len,ap];decide) (by intro r hr;obtain⟨y,_,rfl⟩:=dN.1 hr;rfl) (by simp) (by simp) (by simp;omega) λa9 s9 g9 W P9=>?_
  have m9:=W.keep _ _ (λn=>by have:=(P6 _ n).2;simp at this) (B.keep _ _ (λn=>by have:=(ab _ n).2;simp at this) (u.kq m1))
  simp only[qz 20,eS,m9]
  refine stC m9 g9.p.ce (by simp) λbb G ac=>?_
  simp only[qz 22]
  refine dT ?_ ?_
  ·have an:zt C=[]\/zt C=[29]:=by
    rcases N with⟨_,rfl⟩|⟨b,m,rfl,_⟩
    ·exact .inl rfl
    grind [aA,zt,dC,dK]
   rcases an with e7|e7<;>simp[eL,lb,e7,Cz]<;>simp[zt,dC,dK,sl]
  simp only[au,eQ]
  refine yU f ⟨a9,ac,?_,((((g.trans u).trans B).trans W).trans G).mono λq n=>?_,by grind [bK.old]⟩
  ·rw[iJ f,<-bT f,dg]
   exact g9.p.fx G (by grind)
  grind [bK.no,bK.old]
 ·have am:k=L NA:=(by grind)
  subst am
  rw[gV] at g2
  have d6:=g.kq d5
  have uS:aN (V 4) [iv o,a1,a2,iv ev]=V (.a [iv o,a1,a2,iv ev]):=rfl
  simp only[uS,aY]
  refine stW d6 rfl rfl λs8 T b8=>?_
  simp only[b8,aPy,qh,df,uS,aY]
  refine⟨a1,a2,rfl,(g5.fx g<|by grind).fx T (by grind),(by grind [sA.fx]),(((((A.trans v).trans d).trans w).trans g).trans T).mono λq n=>?_,(by grind),by grind⟩
  grind [bK.no,bK.old]
def aR3:dO:=(54,Gf)::a7D
def aPL:eJ aR3:=vl (apM PM)<|aR2
def aPg:=ai @azy<|@bcw
section
attribute[local irreducible] aX
def a9J:=kW 25 [(4,([7],[2,3,4,6])),(12,([8,9,10],[2,3,4]))]
def bhf{c0 b}:=yB2 264 6 2 251 4 3 aPL func267 a9J c0 b [.a c0, .a b]
end
def bfq{Y b}{i j z:Nat}{e s}{z2:Nat}{a r bA d K}(h:box Y b=V ⟨e,z,U,I,bA⟩)(w:bA[i]?=V r)(x:j<L r)(g:sA Y s z2 a d)(n:b∉aA a)(u:∀Y',Fx Y Y' (aA a++[b])->box Y' b=V ⟨e,z,U,I,bA.set i<|r.set j<|.l d I I⟩->K Y'):sV (aK 1 Y (.p b i j) a) K:=by have v:nrm (eR Y a)= .l d I I:=(by rcases g with⟨rfl,rfl⟩|⟨q,m,rfl,o⟩;rfl;simp[eR,gi,o,nrm,gK]);have k:eB a=aA a:=(by rcases g with⟨rfl,rfl⟩|⟨q,m,rfl,o⟩<;>rfl);have f:=aOp (aA a) Y;have c:=f.keep b _ n h;have t:aK 1 Y (.p b i j) a=V (wr (kills Y<|aA a) b ⟨e,z,U,I,bA.set i<|r.set j<|.l d I I⟩):=(by simp only[aK,aBG,h,eE,brP,k,v,pW,c,eY,w,bZ,aO6];rw[sz ⟨trivial,by omega,λ_=>rfl⟩];grind [GP]);rw[t];exact u _ (f.trans<|wc c)<|lO c
structure TSt(Y:ae)(P:d0->Prop)(n:Nat)(a1 a2:AV)(I9:d0)(NA:List<|d0):Prop where
 g1:sA Y 2 1 a1 (I9.map ci)
 g2:sA Y 38 1 a2 (NA.map cl)
 n1:L I9=n
 n2:L NA=n
 hP:∀t∈NA,P t
 p1:∀q∈aA a1,q.1=12
 p2:∀q∈aA a2,q.1=31
def aSq(Y:ae)(P:d0->Prop)(n:Nat)(a1 b:AV)(ev:Int)(r:AV)(c:ae):Prop:=Fx Y c (aA a1++aA b)/\(r= .t [.a aoB,bv I]\/∃(e:Int) (d:Bool) (I9:d0) (NA:List<|d0),r= .t [.a [iv e,a1,b,iv ev],bv d]/\TSt c P n a1 b I9 NA)
theorem TSt.fx{Y Y' P n a1 b I9 NA}(S:TSt Y P n a1 b I9 NA){Lw}(F:Fx Y Y' Lw)(c:∀q∈Lw,q.1≠12/\q.1≠31):TSt Y' P n a1 b I9 NA:=⟨S.g1.fx F λq a e=>(c q e).1<|S.p1 q a,S.g2.fx F λq a e=>(c q e).2<|S.p2 q a,S.n1,S.n2,S.hP,S.p1,S.p2⟩
def bdr{Y P}{n:Nat}{i:awG}{pc ev:Int}{a1 D I9 NA}(hl:L Y=4096)(S:TSt Y P n a1 D I9 NA)(bU:1<=i.op/\i.op<=5)(hn:n<=1000)(ba:P [])(bc:∀a b,P a->P b->P (mP a b))(bb:∀a,P a->L a<=1000):∃r A,aSq Y P n a1 D ev r A/\cZ aS GG 267 [.a i.c, .a [iv pc,a1,D,iv ev]] Y r A:=by refine bhf hl rfl rfl λs4 v2 v3 K4 bW nf2 bX c2 c3=>?_;have F4:=K4.fx [];have bl:=F4.len.trans hl;refine I7 bl λv5 s5 F5 N5 c5=>?_;have d2:=F5.kq c2;have F:=F5.kq c3;simp only[qz 6,eQ,d2,H7,jM,kU,jt,Fa,aPg];rintro r ⟨t',o',rfl⟩;refine⟨by simp[lo,nA,eB,iR,awG.c],?_⟩;refine yV (L<|a6F i) (λk _ Y'=>Y'=s5/\∀j,j<k->aF n (gd (a6F i) j)) ⟨rfl,by simp⟩ ?_;rintro k _ A hk ⟨rfl,hc⟩;have w:=(S.fx F4<|by simp).fx F5 (by simp);have X:∀{x:dM} {y:AV},aN J (y::x)=V y:=λ{x y}=>(by cases y<;>rfl);have N:Fx Y A []:=F4.trans F5;have hz:bM aoB bqM []=V (.a aoB):=rfl;have ax:∀{Y':ae},sA Y' 2 1 a1 (I9.map ci)->fS Y' a1=V (iv n):=λg=>(by rw[g.ln,bJ,S.n1]);have af:∀M:Bool,sV (aK 4 A (.p (4,v5) 0 0)<|.a aoB) λs=>rV (Iy (V 4) s<|.p (4,v5) 0 0) λt=>aNR (aSq Y P n a1 D ev) s [t,bv I]:=λM=>(by refine stW c5 rfl rfl λs6 F6 b6=>?_;rw[aEa b6 rfl];exact⟨(N.trans F6).mono (by grind [bK.no,bK.old]), .inl rfl⟩);have bi:∀x:Int,(Q (x<0)||Q (x>=(n:Int)))=I->aF n x:=λx H=>(by simp only[cP,aNK] at H;exact⟨by omega,by omega⟩);rcases Decidable.em (k<L (a6F i)) with B|B;have hd:Q ((k:Int)<(L (a6F i):Int))=U:=(by grind);rcases h1:Q (gd (a6F i) k<0) with _|_;rcases h2:Q (gd (a6F i) k>=(n:Int)) with _|_;simp only[qz 25,qy 8,au,gT,tf,H7,bh,hd,h1,h2,eT,F,X,ax w.g1,↓jA,bcW,↓iC,↓iB];refine⟨dJ B,dJ B,dR (mk:=λ(_:Unit) i=>[iv i]) (s:=()) (s':=()) (λ_ _=>rfl) B (by grind [a64]) ⟨rfl,a6p hc<|bi _ ?_⟩⟩;simp_all;simp only[qz 25,qy 8,au,gT,tf,H7,bh,hd,h1,h2,eT,F,X,ax w.g1,↓jA,bcW,↓iC,hz];exact⟨dJ B,dJ B,af I⟩;simp only[qz 25,qy 8,au,gT,tf,H7,bh,hd,h1,eT,F,X,↓jN,aRV,↓iC,hz];exact⟨dJ B,af I⟩;(focus have hd:Q ((k:Int)<(L (a6F i):Int))=I:=(by simp;omega);simp only[qz 25,qy 8,au,gT,hd,↓iB,eQ];have bj:k=L (a6F i):=(by omega);subst bj;have f:∀r∈a6F i,aF n r:=λr hr=>(by obtain⟨j,hj,rfl⟩:=ou hr;grind [bT]);have ho:i.op=1\/i.op=2\/i.op=3\/i.op=4\/i.op=5:=(by omega);refine biR (λd=>∀(v:Int) (M:Bool) (tx:AV) (t:d0),(∃t' o',tx= .l (t.map ci) t' o')->P t->aF n i.a->d [iv v,bv M,tx] A) ?_ λd C=>?_;rintro v M tx t ⟨t',o',rfl⟩ G aw;obtain⟨m,hm⟩:∃m:Nat,i.a=m:=⟨i.a.toNat,by have:=aw.1;omega⟩;have az:m<n:=(by have:=aw.2;omega);have bS:m<L I9:=(by rw[w.n1];exact az);have ay:m<L NA:=(by rw[w.n2];exact az);have bV:=bb _ G;simp only[qz 75,qy 14,au,eS,d2,F,H7,X,nS,hm];refine apV (bA:=[]) (e:=3) (z:=1) (new:=t.map ci) (.inl ⟨rfl,rfl⟩) rfl rfl (by decide) (by grind [Fx.len]) (by simp) fF (by simp;omega) λa7 s7 g7 F7 P7=>?_;simp only[dW] at g7;have O:Fx A s7 []:=F7.mono (by simp[aA]);have aQ:∀q∈aA a7,bK A q/\q.1=125:=(by grind [aA]);have W:=w.fx O (by simp);have aZ:=O.kq F;have a3:=O.kq c5;simp only[qz 16,au];refine ixG W.g1 (by grind [dJ]) λb1 m1 bd bf=>?_;rw[bh];have bo:=W.p1 b1 (by grind [aA]);refine aQz (x:=iv v) (r:=[iv<|gd I9 m]) bf (by simp_all [xe,bT]) (by simp) rfl rfl rfl λs8 F8 b8=>?_;have aL:(I9.map ci++m1).set m ([iv<|gd I9 m].set 0<|nrm<|eR s7<|iv v)=(I9.set m v).map ci++m1:=(by rw[List.set_append_left _ _ (by grind),vB];rfl);rw[aL] at b8;have e1:sA s8 2 1 a1 ((I9.set m v).map ci):= .inr ⟨b1,m1,by rw[bd];simp,b8⟩;have e2:=W.g2.fx F8 (by grind [TSt.p2]);have e7:=g7.fx F8 (by grind);have Z:∀{q:Id},q.1≠12->q∉[b1]:=(by grind);have a0:=F8.keep _ _ (Z<|by simp) aZ;have a4:=F8.keep _ _ (Z<|by simp) a3;simp only[qz 18];refine ixG e2 (by grind [dJ]) λb2 m2 be bg=>?_;rw[bh];have bY:=W.p2 b2 (by grind [aA]);refine bfq (r:=[sl ci<|gd NA m]) bg (by rw[xe (by grind),bkb,eC ay,bT ay];rfl) (by simp) e7 (by grind) λs9 F9 b9=>?_;have ap:(NA.map cl++m2).set m ([sl ci<|gd NA m].set 0<|.l (t.map ci) I I)=(NA.set m t).map cl++m2:=(by rw[List.set_append_left _ _ (by grind),vB];rfl);rw[ap] at b9;have n2:∀{q:Id},q.1≠125->q.1≠31->q∉aA a7++[b2]:=λh h' e=>(by rcases dF.1 e with e|e;grind;grind);have S9:TSt s9 P n a1 D (I9.set m v) (NA.set m t):=⟨e1.fx F9<|λq o=>n2 (by grind [TSt.p1])<|by grind [TSt.p1], .inr ⟨b2,m2,by rw[be];simp,b9⟩,by simp[w.n1],by simp[w.n2],(by grind [TSt.hP]),W.p1,W.p2⟩;have av:=F9.keep _ _ (n2 (by simp)<|by simp) a0;have a5:=F9.keep _ _ (by grind) a4;simp only[qz 20];refine dT ?_ ?_;simp only[au,nr];simp[eL,lb,zt,dC,dK,bo];simp only[eS,av,X,ip];refine stC av rfl (by simp) λbp aa aT=>?_;have E:∃al,box bp (3,v3)=V ⟨251,4,U,U,[[iv al,a1,D,iv ev]]⟩:=⟨_,aT⟩;obtain⟨al,E⟩:=E;simp only[qz 22,qy 24,aEa E rfl,aY,ck];refine stW (aa.kq a5) rfl rfl λb0 ar aU=>?_;rw[aEa aU rfl];refine⟨(((((N.trans O).trans F8).trans F9).trans aa).trans ar).mono λq o=>?_, .inr ⟨al,M,_,_,rfl,(S9.fx aa<|by simp).fx ar<|by simp⟩⟩;simp only[dW,cL,dF,cE] at o;rcases o with((o|o|o)|o)|o;grind [aA];exact .inr ((aQ q o).1.old N).no;grind [aA];grind;subst o;exact .inr (N5.old F4).no;have R:∀{x:Int} {K:AV->cC},aF n x->(∀p y,K p<|iv y)->rV (cz 1 A a1<|iv x) λp=>rV (Iy J A p) (K p):=λ{x K} H hK=>(by obtain⟨m,rfl⟩:∃m:Nat,x=m:=⟨x.toNat,by have:=H.1;omega⟩;have hm:m<L I9:=(by have:=H.2;have:=w.n1;omega);exact(SlR.of w.g1).ix1 (i:=m) (c:=iv<|gd I9 m) (by grind [bT]) λp _=>hK p _);have T:∀{x:Int} {K:AV->cC},aF n x->(∀p t,P t->K p (sl ci t))->rV (cz 1 A D<|iv x) λp=>rV (Iy J A p) (K p):=λ{x K} H hK=>(by obtain⟨m,rfl⟩:∃m:Nat,x=m:=⟨x.toNat,by have:=H.1;omega⟩;have hm:m<L NA:=(by have:=H.2;have:=w.n2;omega);exact(SlR.of w.g2).ix1 (i:=m) (c:=sl ci<|gd NA m) (by rw[bkb,eC hm,bT hm];rfl)<|by grind [TSt.hP,dB]);rcases ho with h|h|h|h|h;(all_goals simp only[qz 77,h,boV,bqJ,Int.reduceEq,eS,d2,F,H7,X,↓iC,↓iB,jM,kU,jt,tW,aPg,rr,aNG]);exact C _ _ _ [] ⟨_,_,rfl⟩ ba (by grind [a6F]);refine R (f _<|by simp[a6F,h]) λp y=>T (f _<|by simp[a6F,h]) λp t G=>C _ _ _ t ⟨_,_,rfl⟩ G (f _<|by simp[a6F,h]);intro x;refine R (f _<|by simp[a6F,h]) λp y=>?_;simp only[tW,aPg];rintro r ⟨u,M,rfl⟩;refine⟨by simp[lo,nA,eB,iR],?_⟩;simp only[oJ,pG,u0];exact T (f _<|by simp[a6F,h]) λp t G=>C _ _ _ t ⟨_,_,rfl⟩ G (f _<|by simp[a6F,h]);intro x;refine R (f _<|by simp[a6F,h]) λp y=>R (f _<|by simp[a6F,h]) λp y'=>?_;simp only[tW,aPg];rintro r ⟨u,M,rfl⟩;refine⟨by simp[lo,nA,eB,iR],?_⟩;simp only[oJ,pG,u0];refine T (f _<|by simp[a6F,h]) λp t G=>T (f _<|by simp[a6F,h]) λp t2 bm=>?_;simp only[alg,aPg];refine⟨by grind,?_⟩;rintro r ⟨t',o',rfl⟩;exact⟨by simp[lo,nA,eB,iR,sl],C _ _ _ (mP t t2) ⟨_,_,rfl⟩ (bc _ _ G bm)<|f _<|by simp[a6F,h]⟩;refine stC F rfl (by simp) λs6 F6 b6=>?_;have aV:box s6 (3,v3)=V ⟨251,4,U,U,[[iv i.a,a1,D,iv ev]]⟩:=b6;simp only[qz 10,qy 12,aEa aV rfl,aY];refine stW (F6.kq c5) rfl rfl λs7 F7 b7=>?_;rw[aEa b7 rfl];refine⟨((N.trans F6).trans F7).mono λq o=>?_, .inr ⟨i.a,U,I9,NA,rfl,(w.fx F6<|by simp).fx F7<|by simp⟩⟩;simp only[dW,dF,cE] at o;rcases o with rfl|rfl;simp_all;exact .inr (N5.old F4).no)
def a7E:dO:=aR3
def a7m:eJ a7E:=aPL
def aTd:=@aPg
section
attribute[local irreducible] aX
def a9H:=kW 26 [(7,([6],[2,3,4]))]
def bhd{c0 b}:=yB2 247 2 2 251 4 3 a7m func235 a9H c0 b [.a c0, .a b]
end
def aOo(Y:ae):AV->AV| .t vs=> .t (vs.map λx=>nrm<|eR Y x)|x=>nrm<|eR Y x
def aNW:AV->List Id| .t vs=>vs.flatMap eB|x=>eB x
def bcr{P κ w Y β v x}(s:J6 P κ w Y β)(h:ba κ w Y β v x):ba κ w (kills Y<|aNW x) β v (aOo Y x):=by cases x with|t vs=>(cases h with|t g h=>refine .t (by grind) λi v c f a=>?_;rw[bkb] at a;cases e:vs[i]? with|none=>simp_all|some y=>rw[e] at a;simp only[df,Option.some.injEq] at a;subst a;exact yo<|xK s (h i v y f e) λb d=>List.mem_flatMap.2 ⟨y,List.mem_of_getElem? e,d⟩)|_=>exact yo (xK s h λb d=>d)
def cZ.frz{P G fn xs Y a r}(h:cZ P G fn xs Y r a):cZ P G fn xs Y (aOo a r) (kills a<|aNW r):=by refine⟨h.1,λκ w β c s g f=>(h.2 κ w β c s g f).mono ?_⟩;rintro e k ⟨v,d,rfl,i,b,j⟩;exact⟨v,d,rfl,bcr b i,(D1 _ b).2.1,j.trans (D1 _ b).1⟩
def aQR{P G fn xs Y}{R Q:be}(h:∃r a,R r a/\cZ P G fn xs Y r a)(d:∀r a,R r a->Q (aOo a r) (kills a<|aNW r)):∃r a,Q r a/\cZ P G fn xs Y r a:=by obtain⟨r,a,b,c⟩:=h;exact⟨_,_,d r a b,c.frz⟩
def a6r{Y e z a bA}(g:sA Y e z a bA):gK (gi Y a)= .l bA I I:=aOb g
def aQX{Y e z a bA}(g:sA Y e z a bA):iR a=aA a:=by rcases g with⟨_,rfl⟩|⟨b,m,rfl,_⟩<;>rfl
section
variable{Y:ae}{P:d0->Prop}{n:Nat}{d:Nat}{K:be}
def ba0{i:awG}{q ev:Int}{a1 f I9 NA}(o:L Y=4096)(S:TSt Y P n a1 f I9 NA)(l:1<=i.op/\i.op<=5)(p:n<=1000)(g:P [])(k:∀a b,P a->P b->P (mP a b))(j:∀a,P a->L a<=1000)(m:∀r e,aSq Y P n a1 f ev r e->K r e):cB 267 [.a i.c, .a [iv q,a1,f,iv ev]] Y d K:=by refine jH rfl (bdr o S l p g k j) ?_;intro r e h;exact⟨h.1.len,m r e h⟩
theorem alD{g ev:Int}{f x2 I9 NA}(m:L Y=4096)(i:SlR Y 1 f<|I9.map ci)(j:SlR Y 1 x2<|NA.map cl)(o:∀q∈aA f,q.1≠1/\q.1≠3)(p:L I9=n)(s:L NA=n)(w:n<=1000)(l:∀t∈NA,P t)(v:∀a,P a->L a<=1000)(k:∀a1 c b,TSt b P n a1 c I9 NA->Fx Y b []->(∀q∈aA a1++aA c,bK Y q)->K (.a [iv g,a1,c,iv ev]) b):cB 266 [.a [iv g,f,x2,iv ev]] Y d K:=by refine jH rfl (a6M m i j o (by omega) (by omega)<|by simp_all) ?_;rintro r b ⟨a1,c,rfl,g1,h,F,p1,u⟩;refine⟨F.len,k a1 c b ⟨g1,h,p,s,l,λq e=>(p1 q e).2,λq e=>(u q e).2⟩ F λq e=>?_⟩;grind
end
def Tn(l:d0):Prop:=jC l/\∀x∈l,0<=x/\x<1000
theorem Tn.len{l}(h:Tn l):L l<=1000:=by have key:∀i,i<L l->(i:Int)<=gd l i:=(by intro i;induction i with|zero=>intro a;exact(h.2 _<|dB a).1|succ i c=>intro a;have:=c (by omega);have:=h.1 i a;omega);rcases oD (L l) with b|b;omega;have:=key (L l-1) (by omega);have:=(h.2 _<|dB (l:=l) (k:=L l-1)<|by omega).2;omega
theorem Tn.nil:Tn []:=⟨λi a=>by simp at a,by simp⟩
theorem Tn.one{x}(h:0<=x/\x<1000):Tn [x]:=⟨λi a=>by simp at a,by simpa using h⟩
theorem Tn.put{l x}(h:Tn l)(b:0<=x/\x<1000):Tn (fk l x):=⟨Nz h.1,λy a=>(an1 a).elim (by omega)<|h.2 y⟩
def Tn.fold:∀(a:d0) {l},Tn l->(∀x∈a,0<=x/\x<1000)->Tn (a.foldl fk l)|[],_,h,_=>h|x::a,_,h,b=>Tn.fold a (h.put<|b x<|by simp) (by simp_all)
def Tn.un(a b)(c:Tn a)(e:Tn b):Tn (mP a b):=by simp only[mP,jh,gV];exact Tn.fold b (Tn.fold a Tn.nil c.2) e.2
def ts0:aNZ:=⟨0,[],[],0⟩
def aQG(s s':aNZ):Prop:=(∀t∈s'.NA,Tn t)/\L s'.I9<=1000/\L s'.NA<=1000/\(s'.ac=s.ac\/s'.ac=0)
def bdq{Y}{c:bcV}{s x1 x2}(hl:L Y=4096)(a7:SlR Y 1 x1<|s.I9.map ci)(a8:SlR Y 1 x2<|s.NA.map cl)(hp:∀q∈aA x1,q.1≠1/\q.1≠3)(p1:c.I9<=1000)(p2:L c.big<1000000)(p3:L s.I9<1000000)(p4:L s.NA<1000000)(p5:∀t∈s.NA,Tn t):
  ∃r Y1,((∃(j:Bool) (s':aNZ),r= .t [.a s'.c,bv j]/\aQG s s')/\Fx Y Y1 [])/\cZ aS GG 235 [.a c.c, .a [iv s.pc,x1,x2,iv s.ac]] Y r Y1:=by
 generalize hQ:(λ(r:AV) (y:ae)=>(∃(j:Bool) (s':aNZ),aOo y r= .t [.a s'.c,bv j]/\aQG s s')/\Fx Y (kills y<|aNW r) [])=Qq
 refine aQR (R:=Qq) ?_ (by grind)
 refine bhd hl rfl rfl λs4 v2 v3 K4 bF nf2 bH b1 b2=>?_
 have M:=K4.fx []
 have aw:=M.len.trans hl
 have H1:=a7.fx M (by simp)
 have H2:=a8.fx M (by simp)
 refine I7 aw λv5 s5 z N5 c5=>?_
 have d1:=z.kq b1
 have d2:=z.kq b2
 have ax:=z.len.trans aw
 have E:∀{x:dM} {y:AV},aN J (y::x)=V y:=λ{x y}=>by cases y<;>rfl
 have G:∀{a b c d:AV},aN (V 4) [a,b,c,d]=V (.a [a,b,c,d]):=rfl
 have w:Fx Y s5 []:=M.trans z
 have aC:∀{x:ae} {cs:dM} {s':aNZ} {j:Bool},cs.map (lz x)=s'.c->aQG s s'->Fx Y x []->(∀q∈cs.flatMap iR,∀y,box Y q≠V y)->aNR Qq x [.a cs,bv j]:=λ{x cs s' j} e h F hn=>by
  show Qq (.t [.a cs,bv j]) x
  rw[<-hQ]
  have e1:aOo x (.t [.a cs,bv j])= .t [.a s'.c,bv j]:=by
   show AV.t [nrm<|eR x<|.a cs,bv j]=_
   have:nrm (eR x<|.a cs)= .a (cs.map<|lz x):=by simp only[eR,nrm,vA];rfl
   rw[this,e]
  refine⟨⟨j,s',e1,h⟩,(F.trans<|aOp _ _).mono λq o=> .inr<|hn q ?_⟩
  grind [aNW,eB,iR]
 have n5:=(N5.old M).no
 have g:∀{x:ae} (j:Bool),Fx Y x []->box x (4,v5)=V ⟨251,4,U,U,[aoB]⟩->sV (aK 4 x (.p (4,v5) 0 0)<|.a aoB) λy=>rV (Iy (V 4) y<|.p (4,v5) 0 0) λt=>aNR Qq y [t,bv I]:=λ{x} j F hb=>by
  refine stW hb rfl rfl λs6 D b6=>?_
  rw[aEa b6 rfl]
  exact aC (s':=ts0) rfl ⟨by simp[ts0],by simp[ts0],by simp[ts0], .inr rfl⟩ ((F.trans D).mono<|by simp_all) (by simp[iR])
 have X:fS s5 x1=V (iv<|L s.I9):=by rw[(H1.fx z<|by simp).ln,bJ]
 have aB:fS s5 x2=V (iv<|L s.NA):=by rw[(H2.fx z<|by simp).ln,bJ]
 rcases l:Q ((L s.I9:Int)≠c.I9) with _|_
 ·have q1:(L s.I9:Int)=c.I9:=by grind
  rcases C:Q ((L s.NA:Int)≠c.I9) with _|_
  ·have q2:(L s.NA:Int)=c.I9:=by grind
   simp only[qz 6,eS,d1,d2,H7,E,X,aB,l,C,↓jA,↓iB,G]
   refine alD (P:=Tn) (n:=L s.I9) ax (H1.fx z<|by simp) (H2.fx z<|by simp) hp rfl (by omega) (by omega) p5 (λa h=>h.len) λa1 T s6 S6 D N6=>?_
   simp only[qz 10,qy 12]
   have aX:=D.kq d1
   have a0:=D.kq d2
   have aV:=D.kq c5
   refine stW a0 rfl rfl λs7 N b7=>?_
   have aZ:=N.kq aX
   have aW:=N.kq aV
   have S7:=S6.fx N (by simp)
   have a5:=(N.len.trans D.len).trans ax
   refine yV (L c.big+1) (λk _ x=>∃u I9 NA,Fx Y x []/\L x=4096/\box x (2,v2)=V ⟨247,2,U,U,[c.c]⟩/\box x (3,v3)=V ⟨251,4,U,U,[[iv u,a1,T,iv s.ac]]⟩/\box x (4,v5)=V ⟨251,4,U,U,[aoB]⟩/\TSt x Tn (L s.I9) a1 T I9 NA) ⟨_,_,_,((w.trans D).trans N).mono (by grind),a5,aZ,b7,aW,S7⟩ ?_
   rintro k _ x hk ⟨u,I9,NA,H,az,m1,Z,m3,S⟩
   have kk:∀{y:AV},Q ((k:Int)<=(L c.big:Int))=U->k<L c.big+1:=(by grind)
   rcases hx:Q ((k:Int)<=(L c.big:Int)) with _|_
   ·simp only[qz 43,qy 14,qy 16,qy 34,au,eS,m1,Z,H7,E,hx,↓iB]
    exact g I H m3
   have bC:k<=L c.big:=by grind
   rcases l:Q (u<0) with _|_
   ·rcases C:Q (u>=(L c.big:Int)) with _|_
    ·have a3:aF (L c.big) u:=by
      simp only[aNK] at l C
      exact⟨by omega,by omega⟩
     simp only[qz 43,qy 16,qy 34,au,eT,m1,Z,H7,E,hx,l,C,ixv,↓jA,↓iC,↓iB]
     refine⟨a3,anu az λv7 s8 A N8 b8=>?_⟩
     have n1:=A.kq m1
     have n2:=A.kq Z
     have n3:=A.kq m3
     have S8:=S.fx A (by simp)
     have ay:=A.len.trans az
     generalize hI:gd c.big u.toNat=i at b8⊢
     have ri:aN (V 6) i.c=V (.a i.c):=rfl
     rcases hs:(Q (1<=i.op)&&Q (i.op<=5)) with _|_
     ·simp only[qz 18,qy 20,qy 22,eS,n2,b8,H7,G,ar,aTd,rr,hs,↓iC]
      refine stW n3 rfl rfl λs9 B b9=>?_
      simp only[b9,aPy,qh,df,G,aY]
      have m:=S8.fx B (by simp)
      exact aC (s':=⟨u,I9,NA,s.ac⟩) (by simp only[ji,mU,aQ5,aOb m.g1,aOb m.g2];rfl) ⟨m.hP,by have:=m.n1;simp only;omega,by have:=m.n2;simp only;omega, .inl rfl⟩ (((H.trans A).trans B).mono<|by grind) (λq o=>by
       have e9:([iv u,a1,T,iv s.ac]:dM).flatMap iR=aA a1++aA T:=by simp only[Cz,RN,aQX m.g1,aQX m.g2];simp[iR]
       rw[e9] at o
       exact((N6 q o).old w).no)
     have a6:1<=i.op/\i.op<=5:=by grind
     rcases o:Q ((k:Int)=(L c.big:Int)) with _|_
     ·simp only[qz 18,qy 20,eS,n1,n2,b8,H7,G,ri,ar,aTd,rr,hs,o,↓iB]
      refine ba0 ay S8 a6 (by omega) Tn.nil Tn.un (λa h=>h.len) λr s9 h9=>?_
      obtain⟨B,h9⟩:=h9
      have bG:∀{b:Id},b.1≠12->b.1≠31->b∉aA a1++aA T:=λl C o=>by
       rcases dF.1 o with h|h
       ·exact l (S.p1 _ h)
       ·exact C (S.p2 _ h)
      have o1:=B.keep _ _ (by grind) n1
      have o2:=B.keep _ _ (by grind) n2
      have o3:=B.keep _ _ (by grind) n3
      have W:=B.len.trans ay
      have O:Fx Y s9 []:=((H.trans A).trans B).mono λq o=> .inr ((N6 q<|by grind).old w).no
      rcases h9 with rfl|⟨ba,j,ao,ab,rfl,m⟩
      ·simp only[qz 24,qy 26,oJ,pG,aY]
       refine anu W λbd bb f aO av=>?_
       have q1:=f.kq o1
       have q2:=f.kq o2
       have q3:=f.kq o3
       simp only[qz 28,qy 30,eQ,↓iC]
       exact g I (O.trans f) q3
      ·simp only[qz 24,qy 26,oJ,pG,aY]
       refine anu W λbd bb f aO av=>?_
       have q1:=f.kq o1
       have q2:=f.kq o2
       have q3:=f.kq o3
       have aQ:=m.fx f (by simp)
       cases j with
       |false=>
        simp only[qz 28,qy 30,eQ,↓iC]
        exact g I (O.trans f) q3
       |true=>
        simp only[qz 28,eQ,av,G,↓iB]
        refine stW q2 rfl rfl λbI v aU=>?_
        simp only[qz 32,au,eQ]
        have bD:k≠L c.big:=by grind
        exact dR (mk:=λ(_:Unit) i=>[iv i]) (s:=()) (s':=()) (λ_ _=>rfl) (by omega) (by omega) ⟨ba,ao,ab,((O.trans f).trans v).mono (by grind),(v.len.trans f.len).trans W,v.kq q1,aU,v.kq q3,aQ.fx v<|by simp⟩
     ·simp only[qz 18,qy 20,qy 22,eS,n1,n2,b8,H7,G,ar,aTd,rr,hs,o,↓iB,↓iC]
      exact g I (H.trans A) n3
    ·simp only[qz 43,qy 14,qy 34,au,eS,m1,Z,H7,E,hx,l,C,↓jA,↓iC,wY]
     exact g I H m3
   ·simp only[qz 43,qy 14,qy 16,qy 34,au,eS,m1,Z,H7,E,hx,l,↓jN,aRV,↓iC]
    exact g I H m3
  ·simp only[qz 6,qy 8,eS,d1,d2,H7,E,X,aB,l,C,↓jA,↓iC,wY]
   exact g I w c5
 ·simp only[qz 6,qy 8,eS,d1,d2,H7,E,X,l,↓jN,aRV,↓iC,G]
  exact g I w c5
def baY{Y}{c:bcV}{s b x2}{d:Nat}{K}(h:L Y=4096)(f:SlR Y 1 b<|s.I9.map ci)(g:SlR Y 1 x2<|s.NA.map cl)(i:∀q∈aA b,q.1≠1/\q.1≠3)(p1:c.I9<=1000)(k:L c.big<1000000)(l:L s.I9<1000000)(m:L s.NA<1000000)(o:∀t∈s.NA,Tn t)(p:∀(j) (s') e,aQG s s'->Fx Y e []->K (.t [.a s'.c,bv j]) e):cB 235 [.a c.c, .a [iv s.pc,b,x2,iv s.ac]] Y d K:=by refine jH rfl (bdq h f g i p1 k l m o) ?_;grind [Fx.len]
def aYd:dO:=a7E
def a7n:eJ aYd:=a7m
def bcx:=@aTd
section
attribute[local irreducible] aX
def aSz a b R:=(.mk _:NF<|zF GGV aYd atW Tryz.f234 [.u] [a] b<|QDb Tryz.f234 R).p
def bhg{c0:dM}{s0:ae}{R:be}(hs:L s0=4096)(l0:L c0=7)(h:HB1 124 7 1 c0 s0 λc b=>aSz c b R):EB 234 [.a c0] s0 R:=aTc<|zB1 atW (aQ9 a7n) func234 hs l0 h
end
section
variable{ks:eP}{l l':List Id}{Y Y' Y1:ae}
theorem aTi{e z a bA}(g:sA Y e z a bA):∀q∈aA a,∃x,box Y q=V x:=by rcases g with⟨_,rfl⟩|⟨b,m,rfl,h⟩;simp[aA];grind [aA]
theorem aQu{e z k a bA}(g:sA Y e z a bA)(h:k∈dK a):∃q∈aA a,q.1=k:=by rcases g with⟨_,rfl⟩|⟨b,m,rfl,_⟩;grind [k1l];grind [k1m,aA]
end
def baT{y ev:Int}{A x2 I9 NA Y}{d:Nat}{K}(O:L Y=4096)(E:A=sl ci I9)(G:x2=sl cl NA)(B:L I9<=1000)(C:L NA<=1000)(D:∀t∈NA,L t<=1000)(l:List Id)(W:∀p∈l,∃e z a bA,sA Y e z a bA/\p∈aA a)(X:∀p∈l,p.1=12\/p.1=31)(M:∀a1 b Y',sA Y' 2 1 a1 (I9.map ci)->sA Y' 38 1 b (NA.map cl)->Kx [12,31] Y Y'->(∀{e z a bA},sA Y e z a bA->(∀q∈aA a,q∈l)->sA Y' e z a bA)->(∀q∈aA a1,q∉l/\q.1=12)->(∀q∈aA b,q∉l/\q.1=31)->K (.a [iv y,a1,b,iv ev]) Y'):cV 266 [.a [iv y,A,x2,iv ev]] Y d K:=by subst E G;have o:L (bio [12,31] l Y)=4096:=aOr.trans O;have T:∀{l':List Id} {q:Id},q.1=12\/q.1=31->q∈l'->okI [12,31] l' q:=λh H=>⟨by rcases h with h|h<;>simp[h],H⟩;have N:∀{e z a bA},sA Y e z a bA->(∀q∈aA a,q∈l)->sA (bio [12,31] l Y) e z a bA:=(by grind [a6y]);refine aQN rfl rfl l (λx j=>?_) ?_ (a6M o (.inl ⟨_,_,rfl⟩) (.inl ⟨_,_,rfl⟩) (by simp[aA,sl]) B C D) ?_;simp only[cE] at j;subst j;intro c g;simp only[eW,ql,bmK] at g;rcases g with rfl|rfl|rfl|rfl;trivial;exact .inl (by simp[eN]);exact .inl (by simp[eN]);trivial;intro p s x j R;grind [aOV,aNO];rintro r Y1 ⟨a1,b,rfl,g1,m,F,p1,S⟩;have i:=F.len.trans aOr;have v:∀q∈aA a1,okI [12,31] (l++(aA a1++aA b)) q:=(by grind);have w:∀q∈aA b,okI [12,31] (l++(aA a1++aA b)) q:=(by grind);have P:∀q∈l,∃x,box (bio [12,31] l Y) q=V x:=(by grind [aTi,aOV]);refine⟨i,l++(aA a1++aA b),λp s x j R=>?_,λc g=>?_,M a1 b _ (aRR i g1 v) (aRR i m w) Kx.mix (by grind [aRR,sA.fx]) (λq k=>⟨λu=>?_,(p1 q k).2⟩) λq k=>⟨λu=>?_,(S q k).2⟩⟩;grind [Fx.keep,aNO,aOV];simp only[eW,ql,bmK] at g;rcases g with rfl|rfl|rfl|rfl;trivial;exact aQw g1 v;exact aQw m w;trivial;grind [bK.no];grind [bK.no]
def aTn{b i j}:zt (.p b i j)=[b.1]:=rfl
def a6H{r t o}:zt (.l r t o)=[]:=rfl
def bc7{α f}{l:List α}:zt (sl f l)=[]:=rfl
def aWx{Y ds e z a bA}(g:Gr Y ds e z a bA):sA Y e z a bA/\∀q∈aA a,q.1∈ds:=by rcases g with⟨b,c⟩|⟨d,v,b,c,h⟩;exact⟨.inl ⟨b,c⟩,by grind [aA]⟩;refine⟨.inr ⟨_,[],b,by simpa using h⟩,?_⟩;grind [aA]
def bnf{Y x o p r z1 z2 z3 i j m a1 b c w y z}(g1:sA Y o z1 a1 w)(s:sA Y p z2 b y)(t:sA Y r z3 c z)(p1:∀q∈aA a1,q.1=i)(u:∀q∈aA b,q.1=j)(v:∀q∈aA c,q.1=m):∀k∈zt (.a [a1,iv x,b,c]),k=i\/k=j\/k=m:=λk g=>by
 have e:zt (.a [a1,iv x,b,c])=dK a1++(dK b++dK c):=by simp[zt,dC,dK]
 rw[e] at g
 simp only[dF] at g
 rcases g with h|h|h
 ·obtain⟨q,d,rfl⟩:=aQu g1 h;exact .inl<|p1 q d
 ·obtain⟨q,d,rfl⟩:=aQu s h;exact .inr<|.inl<|u q d
 ·obtain⟨q,d,rfl⟩:=aQu t h;exact .inr<|.inr<|v q d
def bjx{s:aW}{Y}{d:Nat}{K}(z:L Y=4096)(i:L s.ak<100000/\L s.done<100000/\L s.ay<100000/\∀l∈s.ak,L l.bk<1000000)(E:∀a1 b e Y',Kx [10,14,41] Y Y'->sA Y' 184 2 a1 (s.ak.map cg.c)->sA Y' 4 1 b (s.done.map cb)->sA Y' 138 3 e (s.ay.map aoC.c)->(∀q∈aA a1,q.1=41)->(∀q∈aA b,q.1=10)->(∀q∈aA e,q.1=14)->K (.a [a1,iv s.tx,b,e]) Y'):cV 177 [.a s.c] Y d K:=by have m:L (bio [10,14,41] [] Y)=4096:=aOr.trans z;refine aQN rfl rfl [] (λx j=>?_) (by intro p i;simp at i) (aCH s m i) ?_;simp only[cE] at j;subst j;intro c g;simp only[aW.c,eW,ql,bmK] at g;rcases g with rfl|rfl|rfl|rfl;exact .inl (by simp[eN]);trivial;exact .inl (by simp[eN]);exact .inl (by simp[eN]);rintro r Y1 ⟨⟨a1,b,e,rfl,g1,o,t⟩,F⟩;obtain⟨v,M⟩:=aWx g1;obtain⟨w,N⟩:=aWx o;obtain⟨y,O⟩:=aWx t;have k:=F.1.trans aOr;have H:∀{q:Id},q.1=10\/q.1=14\/q.1=41->q∈aA a1++(aA b++aA e)->okI [10,14,41] (aA a1++(aA b++aA e)) q:=λh u=>⟨by rcases h with h|h|h<;>simp[h],u⟩;have A:∀q∈aA a1,okI [10,14,41] (aA a1++(aA b++aA e)) q:=(by grind);have B:∀q∈aA b,okI [10,14,41] (aA a1++(aA b++aA e)) q:=(by grind);have C:∀q∈aA e,okI [10,14,41] (aA a1++(aA b++aA e)) q:=(by grind);refine⟨k,aA a1++(aA b++aA e),λp D x j G=>?_,λc g=>?_,by grind [Kx.mix,aRR]⟩;grind [aNO];simp only[eW,ql,bmK] at g;rcases g with rfl|rfl|rfl|rfl;exact aQw v A;trivial;exact aQw w B;exact aQw y C
def baS{s:aW}{Y}{d:Nat}{K}(m:L Y=4096)(o:L s.ak<100000/\L s.done<100000/\L s.ay<100000/\∀l∈s.ak,L l.bk<1000000)(i:∀a1 b e Y',Kx [10,14,41] Y Y'->(∀k∈zt (.a [a1,iv s.tx,b,e]),k=10\/k=14\/k=41)->K (.a [a1,iv s.tx,b,e]) Y'):cV 177 [.a s.c] Y d K:=bjx m o λa1 b e Y' iq g1 g h p1 p q=>i a1 b e Y' iq λk j=>by have:=bnf g1 g h p1 p q k j;omega
def alx(f:Nat->AV×AV)(ss:List aNZ)(n:Nat):List (dM):=(aH n).map λk=>[iv (gd ss k).pc,(f k).1,(f k).2,iv (gd ss k).ac]
def G2(vr:Bool)(Y:ae)(a:AV)(t:List<|d0):Prop:=bif vr then t=er (L t) []/\∃b,a= .m b (L t)/\box Y b=V ⟨38,1,U,U,er (L t) [.l [] U U]⟩ else sA Y 38 1 a (t.map cl)
theorem G2.fx{vr Y Y' a t Lw}(g:G2 vr Y a t)(F:Fx Y Y' Lw)(h:∀q∈aA a,q∉Lw):G2 vr Y' a t:=by cases vr with|false=>exact sA.fx g F h|true=>obtain⟨c,b,rfl,d⟩:=g;exact⟨c,b,rfl,F.keep _ _ (h b<|by simp[aA]) d⟩
def aWh{Y e z a bA}(g:sA Y e z a bA):rS Y a= .l bA I I:=by rcases g with⟨rfl,rfl⟩|⟨b,m,rfl,c⟩;rfl;simp[rS,aOn,c,gK]
theorem G2.fr{vr Y a t}(g:G2 vr Y a t):rS Y a=sl cl t:=by cases vr with|false=>exact aWh g|true=>obtain⟨i,b,rfl,e⟩:=g;have d:(((er (L t) [AV.l [] U U]).take<|L t).all λr=>r.all λc=>eN<|frM Y c)=U:=(by rw[dV];intro r h;rw[(List.mem_replicate.1<|List.mem_of_mem_take h).2];rfl);simp only[rS,aOn,e,d,a7g,gK];grind [sl,List.map_replicate,frM,gi,gK,cl]
structure TTs(pl:Nat×Nat×Nat)(vr:Bool)(Y:ae)(a:AV)(f:Nat->AV×AV)(ss:List aNZ)(n:Nat):Prop where
 bx:(n=0/\a= .l [] U U)\/∃b,a= .m b n/\b.1=pl.2.2/\box Y b=V ⟨251,4,U,U,alx f ss n⟩
 g1:∀k,k<n->sA Y 2 1 (f k).1 ((gd ss k).I9.map ci)
 g2:∀k,k<n->G2 vr Y (f k).2 (gd ss k).NA
 p1:∀k,k<n->∀q∈aA (f k).1,q.1=pl.1
 p2:∀k,k<n->∀q∈aA (f k).2,q.1=pl.2.1
 d1:∀i j,i<n->j<n->i≠j->∀q∈aA (f i).1,q∉aA (f j).1
 d2:∀i j,i<n->j<n->i≠j->∀q∈aA (f i).2,q∉aA (f j).2
theorem aQ8{f ss}{n:Nat}:L (alx f ss n)=n:=by simp[alx]
def aTy{f ss n k}(h:k<n):(alx f ss n)[k]?=V [iv (gd ss k).pc,(f k).1,(f k).2,iv (gd ss k).ac]:=by simp[alx,bkb,List.getElem?_range h]
def ext(f:Nat->AV×AV)(n:Nat)(x:AV×AV):Nat->AV×AV:=λk=>if k=n then x else f k
theorem be5{f ss n x}:alx (ext f n x) ss (n+1)=alx f ss n++[[iv (gd ss n).pc,x.1,x.2,iv (gd ss n).ac]]:=by simp only[alx,qn,dg,ji,mU,ext,a7g];grind [List.map_congr_left]
section
variable{pl:Nat×Nat×Nat}{vr:Bool}{Y Y':ae}{a:AV}{f:Nat->AV×AV}{ss:List aNZ}{n:Nat}
def aPi(f:Nat->AV×AV)(n:Nat):List Id:=(aH n).flatMap λk=>aA (f k).1++aA (f k).2
theorem aXS{q}(h:q∈aPi f n):∃k,k<n/\(q∈aA (f k).1\/q∈aA (f k).2):=by grind [aPi]
theorem aWy{k}(b:k<n):∀q∈aA (f k).1,q∈aPi f n:=(by grind [aPi])
theorem aWz{k}(b:k<n):∀q∈aA (f k).2,q∈aPi f n:=(by grind [aPi])
theorem TTs.fx(T:TTs pl vr Y a f ss n){Lw}(F:Fx Y Y' Lw)(d:∀q∈Lw,q.1≠pl.1/\q.1≠pl.2.1/\q.1≠pl.2.2):TTs pl vr Y' a f ss n:=⟨(by grind [TTs.bx,Fx.keep]),λk b=>(T.g1 k b).fx F λq c h=>(d q h).1<|T.p1 k b q c,λk b=>(T.g2 k b).fx F λq c h=>(by grind [TTs.p2]),T.p1,T.p2,T.d1,T.d2⟩
theorem TTs.ids(T:TTs pl vr Y a f ss n):∀q∈aA a,q.1=pl.2.2:=by rcases T.bx with⟨_,rfl⟩|⟨b,rfl,h,_⟩;simp[aA];grind [aA]
theorem TTs.ce(T:TTs pl vr Y a f ss n):eY a=V [a]:=by rcases T.bx with⟨_,rfl⟩|⟨b,rfl,h,_⟩<;>rfl
theorem a7Q{r ev:Int}{p x2}{o d by':Nat}{zs z0}{K:AV->be}(T:TTs pl vr Y a f ss n)(hz:L zs=4)(A:L z0=4)(G:o<L Y)(O:d=pl.2.2)(al:d<L Y)(h3:pl.2.2≠pl.1/\pl.2.2≠pl.2.1)(hb:(n+1)*(by'+1)<=1099511627776)(R:r=(gd ss n).pc)(P:ev=(gd ss n).ac)(g1:sA Y 2 1 p<|(gd ss n).I9.map ci)(Z:G2 vr Y x2 (gd ss n).NA)(p1:∀q∈aA p,q∉aPi f n/\q.1=pl.1)(D:∀q∈aA x2,q∉aPi f n/\q.1=pl.2.1)(hK:∀y M Y',(∃v,y= .m (o,v) 1)->TTs pl vr Y' M (ext f n (p,x2)) ss (n+1)->Fx Y Y' (aA a)->(∀q∈aA M,∀x,box Y q≠V x)->K y M Y'):eV (lvS 251 zs 1 Y o [(0, .a [iv r,p,x2,iv ev])]) λy s=>eV (avA 251 z0 by' s d a y) (K y):=by subst R P;have h1:lvS 251 zs 1 Y o [(0, .a [iv (gd ss n).pc,p,x2,iv (gd ss n).ac])]=V (.m (I8 Y o) 1,put Y o ⟨251,L zs,U,U,[[iv (gd ss n).pc,p,x2,iv (gd ss n).ac]]⟩):=(by grind [lvS,eY,aPF]);rw[h1];show eV (avA 251 z0 by' (put Y o _) d a<|.m (I8 Y o) 1)<|K<|.m (I8 Y o) 1;have u:Fx Y (put Y o ⟨251,L zs,U,U,[[iv (gd ss n).pc,p,x2,iv (gd ss n).ac]]⟩) []:=kH G;have N:=iy (x:=(⟨251,L zs,U,U,[[iv (gd ss n).pc,p,x2,iv (gd ss n).ac]]⟩:bY)) G;generalize put Y o ⟨251,L zs,U,U,[[iv (gd ss n).pc,p,x2,iv (gd ss n).ac]]⟩=B at*;have X:=T.fx u (by simp);have am:=u.len;have S:aEx U B (.m (I8 Y o) 1)=V [[iv (gd ss n).pc,p,x2,iv (gd ss n).ac]]:=(by simp[aEx,N]);have mk:∀(C:ae) (b:Id),b.1=pl.2.2->(∀x,box Y b≠V x)->Fx Y C (aA a)->box C b=V ⟨251,4,U,U,alx f ss n++[[iv (gd ss n).pc,p,x2,iv (gd ss n).ac]]⟩->K (.m (I8 Y o) 1) (.m b<|n+1) C:=λC b ak hn F W=>(by have H:∀q∈aA a,q.1≠pl.1/\q.1≠pl.2.1:=λq g=>(by grind [TTs.ids]);refine hK _ _ C ⟨_,rfl⟩ ⟨(by grind [be5]),λk z=>?_,λk z=>?_,λk z=>?_,λk z=>?_,λi j hi hj t=>?_,λi j hi hj t=>?_⟩ F λq g=>?_;by_cases e:k=n;subst e;simp only[ext,a7g];grind [sA.fx];simp only[ext,r9 e];exact(T.g1 k<|by omega).fx F λq g h=>(H q h).1 (T.p1 k (by omega) q g);by_cases e:k=n;subst e;simp only[ext,a7g];grind [G2.fx];simp only[ext,r9 e];exact(T.g2 k<|by omega).fx F λq g h=>(H q h).2 (T.p2 k (by omega) q g);by_cases e:k=n;subst e;simp only[ext,a7g];grind;simp only[ext,r9 e];exact T.p1 k (by omega);by_cases e:k=n;subst e;simp only[ext,a7g];grind;simp only[ext,r9 e];exact T.p2 k (by omega);intro q g c;by_cases e:i=n;subst e;simp only[ext,a7g,r9<|Sa t] at g c;exact(p1 q g).1 (aWy (by omega) q c);by_cases w:j=n;subst w;simp only[ext,a7g,r9 e] at g c;exact(p1 q c).1 (aWy (by omega) q g);simp only[ext,r9 e,r9 w] at g c;exact T.d1 i j (by omega) (by omega) t q g c;intro q g c;by_cases e:i=n;subst e;simp only[ext,a7g,r9<|Sa t] at g c;exact(D q g).1 (aWz (by omega) q c);by_cases w:j=n;subst w;simp only[ext,a7g,r9 e] at g c;exact(D q c).1 (aWz (by omega) q g);simp only[ext,r9 e,r9 w] at g c;exact T.d2 i j (by omega) (by omega) t q g c;grind [aA]);unfold avA;rw[S];simp only[bZ,aO6];rw[r9 (by decide),sz ⟨by omega,by simp[aPF];omega,by simp[A]⟩];rcases X.bx with⟨h0,rfl⟩|⟨b,rfl,ah,E⟩;subst h0;simp only;rw[sz ⟨by simp,by grind [lx]⟩];refine mk _ (I8 B d) O (λx W=>(qQ B d).no x<|u.kq W) ((u.trans<|kH<|by omega).mono<|by simp) ?_;rw[<-A];exact iy (by omega);simp only[E];rw[sz ⟨trivial,trivial,A.symm,by simp[aQ8],by grind [lx]⟩];have z:d<L (kill B b):=(by rw[yg];omega);refine mk _ (I8 B d) O (by grind [bK.no,qQ,Fx.keep]) (((u.trans<|Le E).trans<|kH z).mono<|by simp[aA]) ?_;grind [anF,aQ8,iy]
end
def TTs.fz{pl vr Y a f ss}(T:TTs pl vr Y a f ss<|L ss):fz Y a=sl aNZ.c ss:=by rcases T.bx with⟨m,rfl⟩|⟨b,rfl,_,p⟩;have:=List.length_eq_zero_iff.1 m;subst this;rfl;have h:(alx f ss<|L ss).map (·.map (rS Y))=ss.map aNZ.c:=(by refine aqI λk=>?_;rcases jj k (L ss) with d|d;rw[bkb,aTy d,bkb,eC d];have i:=aWh<|T.g1 k d;have j:=(T.g2 k d).fr;simp only[df,ji,mU,i,j,bT d];rfl;grind [aQ8]);have e:(alx f ss<|L ss).take (L ss)=alx f ss (L ss):=(by grind [aQ8]);have o:((alx f ss<|L ss).all λr=>r.all λc=>eN<|rS Y c)=U:=(by rw[dV];intro r q;rw[dV];intro c t;have g:=CA (f:=(·.map (rS Y))) q;rw[h] at g;obtain⟨s,_,hs⟩:=dN.1 g;grind [CA,aNZ.c,eN,sl]);simp only[Ab.fz,dQ,p,e,o,a7g,h];rw[r9<|by decide];rfl
theorem Kx.fx{ks Y Y' b Lw}(k:Kx ks Y Y')(F:Fx Y' b Lw)(h:∀q∈Lw,q.1∈ks\/∀x,box Y q≠V x):Kx ks Y b:=⟨F.len.trans k.len,by grind [Fx.keep,Kx.keep]⟩
theorem Kx.kx{ks ks' Y Y' b}(k:Kx ks Y Y')(c:Kx ks' Y' b)(h:∀n∈ks',n∈ks):Kx ks Y b:=⟨c.len.trans k.len,by grind [Kx.keep]⟩
theorem Kx.no{ks Y Y' b}(k:Kx ks Y Y')(c:b.1∉ks)(h:∀x,box Y' b≠V x):∀x,box Y b≠V x:=(by grind [Kx.keep])
def a79(Y:ae)(s:aNV)(r:AV)(Y1:ae):Prop:=∃a1 d e c b a f,r= .a [a1,iv s.bW.tx,d,e,c,b,a]/\(∀k∈zt (.a [a1,iv s.bW.tx,d,e]),k=10\/k=14\/k=41)/\sA Y1 2 1 c (s.cells.map ci)/\sA Y1 2 1 b (s.bU.map ci)/\TTs (12,31,33) I Y1 a f s.ay (L s.ay)/\Kx [10,12,14,31,41] Y Y1/\(∀q∈aA c,q.1=11/\∀x,box Y q≠V x)/\(∀q∈aA b,q.1=15/\∀x,box Y q≠V x)/\∀q∈aA a,∀x,box Y q≠V x
def bds{s Y}(hl:L Y=4096)(h1:L s.bW.ak<100000/\L s.bW.done<100000/\L s.bW.ay<100000/\∀l∈s.bW.ak,L l.bk<1000000)(h2:L s.cells<=1000)(K:L s.bU<=1000)(h4:L s.ay<=1000)(h5:∀t∈s.ay,L t.I9<=1000/\L t.NA<=1000/\∀x∈t.NA,L x<=1000):∃r Y1,a79 Y s r Y1/\cZ aS GG 234 [.a s.c] Y r Y1:=by refine bhg hl rfl λs2 v1 K2 ca nf b1=>?_;have F2:=K2.fx [];have ag:=F2.len.trans hl;simp only[aSz];refine I7 ag λv2 s3 F3 N3 b3=>?_;have c1:=F3.kq b1;have ah:=F3.len.trans ag;have k1:∀{x:dM} {y:AV},aN J (y::x)=V y:=λ{x y}=>(by cases y<;>rfl);have k7:=@r7A;simp only[qz 4,qy 6,eS,c1,H7];refine baS ah h1 λa1 D E s8 W bf=>?_;have bi:=W.len.trans ah;have ae:=W.kq c1;have aZ:=W.kq b3;simp only[nS,bQ,qz 8,qy 10,eS,ae,H7];refine apV (bA:=[]) (e:=2) (z:=1) (new:=s.cells.map ci) (.inl ⟨rfl,rfl⟩) rfl rfl (by decide) (by omega) (by simp) fF (by simp;omega) λB s9 X F9 P9=>?_;simp only[dW] at X;have A:Fx s8 s9 []:=F9.mono (by simp[aA]);have ab:∀q∈aA B,bK s8 q/\q.1=11:=(by grind [aA]);have bj:=A.len.trans bi;have af:=A.kq ae;have a0:=A.kq aZ;simp only[qz 12,eS,af,H7];refine apV (bA:=[]) (e:=2) (z:=1) (new:=s.bU.map ci) (.inl ⟨rfl,rfl⟩) rfl rfl (by decide) (by omega) (by simp) fF (by simp;omega) λC ao Z aO b9=>?_;simp only[dW] at Z;have o:Fx s9 ao []:=aO.mono (by simp[aA]);have F:∀q∈aA C,bK s9 q/\q.1=15:=(by grind [aA]);have M:=o.len.trans bj;have aB:=o.kq af;have ax:=o.kq a0;have a7:=X.fx o (by simp);have bd:bM aOO aon [(0, .a [a1,iv s.bW.tx,D,E]),(1,B),(2,C)]=V (.a [a1,iv s.bW.tx,D,E,B,C, .l [] U U]):=(by rcases X with⟨_,rfl⟩|⟨q4,m4,rfl,_⟩<;>rcases Z with⟨_,rfl⟩|⟨q5,m5,rfl,_⟩<;>rfl);simp only[qz 14,qy 16,bd,aY];refine I7 M λv3 b4 ap aQ aw=>?_;refine stW aw rfl rfl λbp aq aV=>?_;have w:Fx ao bp []:=(ap.trans aq).mono (by grind [bK.no]);have aC:=w.kq aB;have az:=w.kq ax;have aD:=a7.fx w (by simp);have aE:=Z.fx w (by simp);have aJ:=w.len.trans M;have X3:Kx [10,12,14,31,41] Y s3:=((F2.trans F3).kx<|by simp);have H:=X3.kx W (by simp);have ad:=(H.fx A<|by simp).fx o (by simp);have aT:=ad.fx w (by simp);have am:∀{q:Id},q∈aA B->q.1=11/\∀x,box Y q≠V x:=λ{q} d=>⟨(ab q d).2,H.no (by grind) (ab q d).1.no⟩;have an:∀{q:Id},q∈aA C->q.1=15/\∀x,box Y q≠V x:=λ{q} d=>⟨(F q d).2,(H.fx A<|by simp).no (by grind) (F q d).1.no⟩;have cc:=ad.no (by simp) aQ.no;have cb:=(F2.kx (ks:=[])<|by simp).no (by simp) N3.no;simp only[qz 18];refine dT ?_ ?_;have h4:3∉zt B:=λh=>(by rcases SlR.keys (P:=λp=>p=11) (.of X) (by grind) with e|⟨p,e,e'⟩<;>rw[e] at h<;>simp at h;omega);have h5:3∉zt C:=λh=>(by rcases SlR.keys (P:=λp=>p=15) (.of Z) (by grind) with e|⟨p,e,e'⟩<;>rw[e] at h<;>simp at h;omega);have h0:3∉zt (.a [a1,iv s.bW.tx,D,E]):=(by grind);generalize AV.a [a1,iv s.bW.tx,D,E]=b0 at h0⊢;simp[eL,lb,Cz,aTn,a6H,bc7];grind;refine yV (L s.ay) (λk _ x=>∃a f,L x=4096/\box x (1,v1)=V ⟨124,7,U,U,[s.c]⟩/\box x (2,v2)=V ⟨124,7,U,U,[aOO]⟩/\box x (3,v3)=V ⟨124,7,U,U,[[a1,iv s.bW.tx,D,E,B,C,a]]⟩/\sA x 2 1 B (s.cells.map ci)/\sA x 2 1 C (s.bU.map ci)/\TTs (12,31,33) I x a f s.ay k/\Kx [10,12,14,31,41] Y x/\∀q∈aA a,∀y,box Y q≠V y) ⟨.l [] U U,λ_=>(.u, .u),aJ,aC,az,aV,aD,aE,⟨.inl ⟨rfl,rfl⟩,by simp,by simp,by simp,by simp,by simp,by simp⟩,aT,by simp[aA]⟩ ?_;rintro k _ x hk ⟨a,f,al,m1,m2,m3,ga,gb,T,iq,na⟩;simp only[qz 25,qy 28,au,eT,m1,m3,H7,k1,k7,ixv,bh];refine⟨λh=>?_,λh=>?_⟩;have N:=aL h;refine⟨dJ N,?_⟩;obtain⟨q1,q2,q3⟩:=h5 _<|dB N;show cV 266 [.a [iv (gd s.ay k).pc,sl ci (gd s.ay k).I9,sl cl (gd s.ay k).NA,iv (gd s.ay k).ac]] _ _ _;refine baT al rfl rfl q1 q2 q3 (aPi f k) (λp hp=>?_) (λp hp=>?_) λS x2 y G1 aa Y R P1 P2=>?_;obtain⟨j,m,h|h⟩:=aXS hp;exact⟨_,_,_,_,T.g1 j m,h⟩;exact⟨_,_,_,_,T.g2 j m,h⟩;obtain⟨j,m,h|h⟩:=aXS hp;exact .inl<|T.p1 j m p h;exact .inr<|T.p2 j m p h;have Ty:TTs (12,31,33) I y a f s.ay k:=⟨T.bx.elim .inl λ⟨b,h1,h2,K⟩=> .inr ⟨b,h1,h2,Y.keep _ _ (by simp[h2]) K⟩,λj m=>R (T.g1 j m)<|aWy m,λj m=>R (T.g2 j m)<|aWz m,T.p1,T.p2,T.d1,T.d2⟩;have bl:=Y.len.trans al;have o1:=Y.kq m1;have o2:=Y.kq m2;have o3:=Y.kq m3;have a9:=Y.gr ga λq d=>(by simp[(am d).1]);have bb:=Y.gr gb λq d=>(by simp[(an d).1]);have Xy:=iq.kx Y (by simp);simp only[qz 20,qy 22];refine a7Q Ty rfl rfl (by omega) rfl (by omega) (by decide) (by omega) rfl rfl G1 aa P1 P2 λz a' bq hz G g aR=>?_;obtain⟨vz,rfl⟩:=hz;have bT:∀q∈aA a,q.1=33:=T.ids;have o4:=g.keep _ _ (by grind) o3;simp only[qz 24,eS,o4];refine stC o4 G.ce (by simp) λcd v aX=>?_;simp only[qz 26];refine dT ?_ ?_;have hx:∀j∈zt (.a [iv (gd s.ay k).pc,S,x2,iv (gd s.ay k).ac]),j=12\/j=31:=λj m=>(by have e:zt (.a [iv (gd s.ay k).pc,S,x2,iv (gd s.ay k).ac])=dK S++dK x2:=(by simp[zt,dC,dK]);rw[e] at m;rcases dF.1 m with h|h;obtain⟨q,d,rfl⟩:=aQu G1 h;grind;obtain⟨q,d,rfl⟩:=aQu aa h;grind);have K:3∉zt (.a [iv (gd s.ay k).pc,S,x2,iv (gd s.ay k).ac]):=(by grind);generalize AV.a [iv (gd s.ay k).pc,S,x2,iv (gd s.ay k).ac]=b0 at K⊢;simp[eL,lb,Cz,aTn,K];simp only[au,eQ];have O:∀{b:Id},b.1≠33->b∉aA a:=(by grind);refine dR (mk:=λ(_:Unit) i=>[iv i]) (s:=()) (s':=()) (λ_ _=>rfl) N (by omega) ⟨a',_,(v.len.trans g.len).trans bl,v.kq<|g.keep _ _ (O<|by simp) o1,v.kq<|g.keep _ _ (O<|by simp) o2,aX,(a9.fx g<|by grind).fx v λq d e=>?_,(bb.fx g<|by grind).fx v λq d e=>?_,G.fx v (by simp),(Xy.fx g<|by grind).fx v λq d=> .inr (by simp at d;grind),λq d=>Xy.no (by rw[G.ids q d];decide)<|aR q d⟩;simp at e;grind;simp at e;grind;have be:k=L s.ay:=(by grind);subst be;refine stW m2 rfl rfl λbq g aW=>?_;simp only[aW,aPy,qh,df,k7,aY];refine⟨a1,D,E,B,C,a,f,rfl,bf,ga.fx g λq d e=>?_,gb.fx g λq d e=>?_,T.fx g (by simp),(by grind [Kx.fx]),λq d=>am d,λq d=>an d,na⟩;grind;grind
def a7F:dO:=aYd
def aX6:eJ a7F:=a7n
def aWl:=@bcx
section
attribute[local irreducible] aX
def a9M:=kW 14 [(6,([5],[2,3]))]
def bhl{c0 b}:=y2 129 7 2 124 7 3 aX6 func263 a9M c0 b [.a c0, .a b]
def a9L:=kW 24 [(7,([4],[1,2,3])),(13,([5],[1,2,3])),(19,([6],[1,2,3]))]
def bhj{c0}:=y1 129 7 1 aX6 func121 a9L c0 [.a c0]
end
def aYu(c:bcV)(s:aNZ):Prop:=aF (L c.big) s.pc/\(L s.I9:Int)=c.I9/\(L s.NA:Int)=c.I9
def aSm(c:aOw)(s:aNV):Prop:=aPU c/\lh c.aQ s.bW=U/\L s.cells=L c.aQ.cells/\L s.bU=L c.aQ.bU/\L s.ay=L c.ay/\∀k,k<L c.ay->aYu (gd c.ay k) (gd s.ay k)
def aP4{w}(h:mQ w=U):L w.cells<=12/\L w.ak<=4/\L w.bC<=2/\L w.bU<=2/\L w.ay<=4/\L w.dU<=60:=by grind [mQ,wJ]
def aXu(c)(s)(E:aOc c/\L c.aQ.bC<4611686018427387904):Ct 263 [.a c.c, .a s.c] (λr=>∃b,r=bv b/\(b=U->aSm c s)):=by obtain⟨m,n⟩:=E;refine bhl rfl rfl λK D f g O=>?_;simp+contextual only[eS,f,g,H7,ar,Fa,aWl,rr,aTv,aPA,eE,aQl,aO1,m,n];intro b B h;simp only[cP,fK,aNK,aNS,Int.ofNat_inj,brW] at h;obtain⟨⟨⟨⟨g1,w⟩,y⟩,z⟩,A⟩:=h;have o:=B g1;have M:=m.1;refine yV (L c.ay) (λk _ x=>Fx K x []/\∀j,j<k->aYu (gd c.ay j) (gd s.ay j)) ⟨Fx.refl _ _,by simp⟩ ?_;rintro k _ x P ⟨F,hI⟩;have l:=F.kq f;have t:=F.kq g;have p:=F.len.trans D;simp only[qz 37,qy 6,au,eT,l,t,H7,ixv,bh,aPA];refine⟨λh=>?_,λh _=>⟨o,w,y,z,A,λj C=>hI j<|Nat.lt_of_lt_of_le C<|bw h⟩⟩;have d:=aL h;refine⟨dJ (by omega),anu p λv x2 e N q=>?_⟩;have u:=e.kq l;simp+contextual only[qz 8,au,eT,u,q,H7,ixv,bh,dJ d,aPA,eE,aQl,aO1,aNG];intro h;simp only[cP,aNK,aNS,brW] at h;obtain⟨⟨⟨R,S⟩,G⟩,H⟩:=h;exact dR (mk:=λ(_:Unit) i=>[iv i]) (s:=()) (s':=()) (λ_ _=>rfl) d (by omega) ⟨F.trans e,a6p hI ⟨⟨by omega,by omega⟩,G,H⟩⟩
def aUl:FT:=pn aXu
def bcc:=rQ aUl aXu (j:=by simp+contextual only[ij,ijv])
def ThB(k:Nat)(s:aNZ):Prop:=L s.I9<=1000/\L s.NA<=1000/\(∀t∈s.NA,Tn t)/\0<=s.ac/\s.ac<=k
def a68{α:Type}{n}{x y:α}(h:y∈er n x):y=x:=(by simp_all)
structure StB(k:Nat)(s:aNV):Prop where
 sy:jX k s.bW
 ce:L s.cells<=12
 fu:L s.bU<=2
 tl:L s.ay<=4
 th:∀t∈s.ay,ThB k t
structure SJ(x:ae)(v2:Nat)(c:aOw)(a1 a2 a3:AV):Prop where
 hl:L x=4096
 b1:box x (1,1)=V ⟨129,7,U,U,[c.c]⟩
 b2:box x (2,v2)=V ⟨124,7,U,U,[aOO]⟩
 g1:sA x 184 2 a1 ((er (L c.aQ.ak) (⟨-1,[]⟩:cg)).map cg.c)
 g2:sA x 4 1 a2 ((er (L c.aQ.bU) I).map cb)
 g3:sA x 138 3 a3 ((qZ<|L c.aQ.ay).map aoC.c)
 ids:∀q∈aA a1++(aA a2++aA a3),q.1=13
theorem SJ.fx{x y e c a1 a b Lw}(S:SJ x e c a1 a b)(F:Fx x y Lw)(f:∀q∈Lw,q.1≠1/\q.1≠2/\q.1≠13):SJ y e c a1 a b:=⟨F.len.trans S.hl,(by grind [Fx.keep,SJ.b1]),(by grind [Fx.keep,SJ.b2]),S.g1.fx F λq d h=>(by grind [SJ.ids]),S.g2.fx F λq d h=>(by grind [SJ.ids]),S.g3.fx F λq d h=>(by grind [SJ.ids]),S.ids⟩
def aPn(c:bcV):aNZ:=⟨0,er c.I9.toNat 0,er c.I9.toNat [],0⟩
def aTA(w:pz):aW:=⟨er (L w.ak) ⟨-1,[]⟩,-1,er (L w.bU) I,qZ<|L w.ay⟩
def aPK(c:aOw):aNV:=⟨aTA c.aQ,c.aQ.cells.map (·.init),er (L c.aQ.bU) 0,c.ay.map aPn⟩
theorem bfv{c}(d:aPU c):StB 0 (aPK c):=by obtain⟨g,h,b⟩:=d;have hs:=aP4 g;refine⟨⟨by simp[aPK,aTA];omega,by simp[aPK,aTA];omega,by simp[aPK,aTA,qZ];omega,λl f=>by rw[a68 f];simp⟩,by simp[aPK];omega,by simp[aPK];omega,by simp[aPK];omega,λt a=>?_⟩;simp only[aPK,dN] at a;obtain⟨k,e,rfl⟩:=a;obtain⟨i,j,_⟩:=b k e;refine⟨by simp[aPn];omega,by simp[aPn];omega,λt a=>?_,by simp[aPn],by simp[aPn]⟩;rw[a68 a];exact Tn.nil
def aXs(c)(hp:aPU c/\aOc c):Ct 121 [.a c.c] (λr=>∃s:aNV,r= .a s.c/\StB 0 s):=by obtain⟨hc,hb⟩:=hp;have bG:=aP4 hc.1;have bD:=hb.1;generalize hQ:(λ(r:AV)=>∃s:aNV,r= .a s.c/\StB 0 s)=Qq;refine aDq (bhj rfl λs2 E P h0=>?_);refine I7 E λv2 s3 F3 N3 b3=>?_;have c1:=F3.kq P;have ba:=F3.len.trans E;have k1:∀{x:dM} {y:AV},aN J (y::x)=V y:=λ{x y}=>(by cases y<;>rfl);have k7:=@r7A;have hz:bM aOO aon []=V (.a aOO):=rfl;simp only[qz 4,qy 6,eS,c1,H7,ar,Fa,aWl,rr,aTv];refine⟨hb,λb bC=>⟨λh=>?_,λh=>?_⟩⟩;simp only[hz,aY];refine stW b3 rfl rfl λs4 F4 b4=>?_;simp only[b4,aPy,qh,df,k7,aY];refine aOv (v':= .a<|aNV.c ⟨⟨[],0,[],[]⟩,[],[],[]⟩) rfl rfl ?_;rw[<-hQ];exact⟨_,rfl,⟨by simp,by simp,by simp,by simp⟩,by simp,by simp,by simp,by simp⟩;refine a57 (by omega) (by omega) (by omega) (by omega) λa1 B C s4 g1 g2 g3 F4 P4=>?_;have S4:SJ s4 v2 c a1 B C:=⟨F4.len.trans ba,F4.kq c1,F4.kq b3,g1.p,g2.p,g3.p,λq d=>(P4 q d).2⟩;have a4:bM aOO aon [(0, .a [a1,iv<|-1,B,C])]=V (.a [a1,iv<|-1,B,C, .l [] U U, .l [] U U, .l [] U U]):=rfl;simp only[qz 8,qy 10,qy 12,a4,aY];refine anu S4.hl λv3 s5 F5 N5 b5=>?_;have S5:=S4.fx F5 (by simp);have a5:∀{x:ae} {y:Int},aX yW 1 x [(0,iv y)]=V (.l ([y].map ci) U U,x):=λ{x y}=>iz;refine yV (L c.aQ.cells) (λk _ x=>∃a,SJ x v2 c a1 B C/\box x (3,v3)=V ⟨124,7,U,U,[[a1,iv<|-1,B,C,a, .l [] U U, .l [] U U]]⟩/\sA x 2 1 a (((c.aQ.cells.take k).map (·.init)).map ci)/\∀q∈aA a,q.1=33) ⟨_,S5,b5, .inl ⟨by simp,rfl⟩,by simp[aA]⟩ ?_;rintro k _ x hk ⟨a,S,A,D,pa⟩;have m1:=S.b1;simp only[qz 43,qy 14,au,eT,m1,A,H7,k1,ix,bh,a5];refine⟨λh=>?_,λh=>?_⟩;have g:=aL h;refine⟨dJ g,?_⟩;refine apQ D S.hl fF fF (by simp) (by simp;omega) λa' s6 W v P6=>?_;have H:=S.fx v (λq d=>by have:=pa q d;omega);have G:=v.keep _ _ (λd=>by have:=pa _ d;simp at this) A;simp only[qz 16,eS,G];refine stC G W.p.ce (by simp) λs7 w R=>?_;simp only[qz 18];refine dT (by simp[eL,lb,zt,dC,dK]) ?_;simp only[au,eQ];refine dR (mk:=λ(_:Unit) i=>[iv i]) (s:=()) (s':=()) (λ_ _=>rfl) g (by omega) ⟨a',H.fx w (by simp),R,?_,λq d=>(P6 q d).2⟩;rw[iJ g,<-bT g,dg,dg];exact W.p.fx w (by grind);have F:k=L c.aQ.cells:=(by grind);subst F;rw[gV] at D;clear m1;refine yV (L c.aQ.bU) (λk _ x=>∃N,SJ x v2 c a1 B C/\box x (3,v3)=V ⟨124,7,U,U,[[a1,iv<|-1,B,C,a,N, .l [] U U]]⟩/\sA x 2 1 a ((c.aQ.cells.map (·.init)).map ci)/\sA x 2 1 N ((er k (0:Int)).map ci)/\∀q∈aA N,q.1=46) ⟨_,S,A,D, .inl ⟨by simp,rfl⟩,by simp[aA]⟩ ?_;rintro k _ x hk ⟨N,S,A,D,X,pb⟩;have m1:=S.b1;have a0:∀{x:ae},aX yW 1 x [(0,iv 0)]=V (.l ([(0:Int)].map ci) U U,x):=λ{x}=>iz;simp only[qz 79,qy 20,au,eS,m1,A,H7,k1,a0];refine⟨λh=>?_,λh=>?_⟩;have g:=aL h;refine apQ X S.hl fF fF (by simp) (by simp;omega) λa' s6 W v P6=>?_;have H:=S.fx v (λq d=>by have:=pb q d;omega);have G:=v.keep _ _ (λd=>by have:=pb _ d;simp at this) A;simp only[qz 22,eS,G];refine stC G W.p.ce (by simp) λs7 w R=>?_;simp only[qz 24,au,eQ];refine dR (mk:=λ(_:Unit) i=>[iv i]) (s:=()) (s':=()) (λ_ _=>rfl) g (by omega) ⟨a',H.fx w (by simp),R,(D.fx v<|by grind).fx w (by grind),?_,λq d=>(P6 q d).2⟩;rw[List.replicate_succ',dg];exact W.p.fx w (by grind);have F:k=L c.aQ.bU:=(by grind);subst F;clear m1;refine yV (L c.ay) (λk _ x=>∃t f,SJ x v2 c a1 B C/\box x (3,v3)=V ⟨124,7,U,U,[[a1,iv<|-1,B,C,a,N,t]]⟩/\sA x 2 1 a ((c.aQ.cells.map (·.init)).map ci)/\sA x 2 1 N ((er (L c.aQ.bU) (0:Int)).map ci)/\TTs (63,70,73) U x t f (c.ay.map aPn) k) ⟨.l [] U U,λ_=>(.u, .u),S,A,D,X,⟨.inl ⟨rfl,rfl⟩,by simp,by simp,by simp,by simp,by simp,by simp⟩⟩ ?_;rintro k _ x hk ⟨t,f,S,A,D,X,T⟩;have m1:=S.b1;simp only[qz 115,qy 36,au,eT,m1,A,H7,k1,k7,ixv,bh];refine⟨λh=>?_,λh=>?_⟩;have g:=aL h;refine⟨dJ g,?_⟩;obtain⟨q1,q2,_⟩:=hc.2.2 _<|dB g;obtain⟨n,hn⟩:∃n:Nat,(gd c.ay k).I9=n:=⟨(gd c.ay k).I9.toNat,by omega⟩;rw[hn] at q2⊢;refine AP (by decide) (by decide) (by rw[S.hl];decide) (by omega) λe1 s6 ad N6 v b6=>?_;have H:=S.fx v (by simp);have bb:=H.b1;simp only[qz 26,au,eT,bb,H7,ixv,bh,hn];refine⟨dJ g,?_⟩;refine AP (by decide) (by decide) (by rw[H.hl];decide) (by omega) λe2 s7 af N7 w R=>?_;have S7:=H.fx w (by simp);have aP:=w.kq b6;have bc:=w.kq<|v.kq A;have aU:=(D.fx v<|by simp).fx w (by simp);have aV:=(X.fx v<|by simp).fx w (by simp);have T7:=(T.fx v<|by simp).fx w (by simp);have a6:bM aoB bqM [(1, .m e1 n),(2, .m e2 n)]=V (.a [iv 0, .m e1 n, .m e2 n,iv 0]):=rfl;simp only[qz 28,qy 30,a6,aY];have M:gd (c.ay.map aPn) k=⟨0,er n 0,er n [],0⟩:=(by rw[bT (by grind),List.getElem_map,<-bT g];simp[aPn,hn]);have Z:∀{q:Id},(∀y,box x q≠V y)->q∉aPi f k:=λ{q} bF d=>(by obtain⟨j,hj,h|h⟩:=aXS d;obtain⟨y,hy⟩:=aTi (T.g1 j hj) q h;grind;obtain⟨_,b,e,hy⟩:=T.g2 j hj;grind [aA]);refine a7Q T7 rfl rfl (by rw[S7.hl];decide) rfl (by rw[S7.hl];decide) (by decide) (by omega) (by rw[M]) (by rw[M]) (.inr ⟨e1,[],by grind,by rw[M,aP];simp;exact⟨rfl, .inr rfl⟩⟩) (by rw[M];exact⟨by simp,e2,by simp,by rw[R];simp;exact⟨rfl, .inr rfl⟩⟩) (λq d=>?_) (λq d=>?_) λz t' ag aw O o bB=>?_;simp only[aA,cE] at d;subst d;exact⟨Z N6.no,ad⟩;simp only[aA,cE] at d;subst d;exact⟨Z<|λy hy=>N7.no y<|v.kq hy,af⟩;obtain⟨vz,rfl⟩:=aw;have bd:∀q∈aA t,q.1=73:=T.ids;have aB:∀{b:Id},b.1≠73->b∉aA t:=(by grind);have aG:=S7.fx o (λq d=>by have:=bd q d;omega);have aa:=o.keep _ _ (aB<|by simp) bc;simp only[qz 32,eS,aa];refine stC aa O.ce (by simp) λbH K aM=>?_;simp only[qz 34];refine dT (by simp[eL,lb,au,sl,ad,af,zt,dC,dK]) ?_;simp only[au,eQ];refine dR (mk:=λ(_:Unit) i=>[iv i]) (s:=()) (s':=()) (λ_ _=>rfl) g (by omega) ⟨t',_,aG.fx K (by simp),aM,(aU.fx o<|by grind).fx K λq d e=>?_,(aV.fx o<|by grind).fx K λq d e=>?_,O.fx K<|by simp⟩;grind;grind;have F:k=L c.ay:=(by grind);subst F;refine stW S.b2 rfl rfl λag o aK=>?_;simp only[aK,aPy,qh,df,k7,aY];have nd:∀{q:Id},q.1≠2->q∉[((2,v2):Id)]:=(by grind);have O:=T.fx o (by simp);have al:TTs (63,70,73) U ag t f (c.ay.map aPn) (L<|c.ay.map aPn):=(by grind);have x1:=aBr (S.g1.fx o λq d=>(by grind));have x2:=aBr (S.g2.fx o λq d=>(by grind));have x3:=aBr (S.g3.fx o λq d=>(by grind));have x4:=aBr (D.fx o λq d=>nd<|by rw[pa q d];decide);have x5:=aBr (X.fx o λq d=>nd<|by rw[pb q d];decide);refine aOv (v':= .a (aPK c).c) ?_ (by simp[iX,aNV.c,aW.c,eN,sl]) (by grind [bfv]);simp only[fzT,ji,mU,x1,x2,x3,x4,x5,al.fz,aWt];rfl
def aUj:FT:=om aXs
def bca:=aUy aUj aXs (j:=by simp+contextual only[ij,ijv])
def a7G:dO:=(263,aUl)::(121,aUj)::a7F
def a7o:eJ a7G:=vl (aN0 aXu)<|vl (rj aXs)<|aX6
def aWm:=ai @bcc<|ai @bca<|@aWl
section
attribute[local irreducible] aX
def a9K:=kW 28 [(20,([],[6,8,9,10])),(23,([98],[6,8,9,10])),(25,([],[6,10]))]
def bhh{c0 b c}:=y2 129 7 3 124 7 4 a7o func233 a9K c0 b [.a c0, .a b,c]
end
def aQs(c:aOw)(s:aNV)(t:Int):awG:=gd (gd c.ay t.toNat).big (gd s.ay t.toNat).pc.toNat
def PK(k:Int)(i:awG):Prop:=(k=3\/k=23->i.a∈a6F i)/\(k=4\/k=22->i.b∈a6F i)/\(k=5->i.a∈a6F i)
def EvL(e:aP):Prop:=L e.dI<=1000/\L e.ep<=1000
def bdY{i}:PK (aPY i.op) i:=by rcases i with⟨op,a,b,k,n,st⟩;simp only[PK,aPY,cond_eq_ite];by_cases h:op<6\/28<op;simp_all;rw[r9<|by simpa using h];have c:op=6\/op=7\/op=8\/op=9\/op=10\/op=11\/op=12\/op=13\/op=14\/op=15\/op=16\/op=17\/op=18\/op=19\/op=20\/op=21\/op=22\/op=23\/op=24\/op=25\/op=26\/op=27\/op=28:=(by omega);rcases c with rfl|rfl|rfl|rfl|rfl|rfl|rfl|rfl|rfl|rfl|rfl|rfl|rfl|rfl|rfl|rfl|rfl|rfl|rfl|rfl|rfl|rfl|rfl<;>simp[gd,aXK,a6F]
def aXq(c)(s)(t:Int)(hp:aPU c/\aOc c/\∃k,StB k s):Ct 233 [.a c.c, .a s.c,iv t] (λr=>∃(e:aP) (ok:Bool),r= .t [.a e.c,bv ok]/\EvL e/\(ok=U->aSm c s/\aF (L c.ay) t/\PK e.kind (aQs c s t))):=by
 obtain⟨hc,E,K,hs⟩:=hp
 have cH:=aP4 hc.1
 have cA:=E.1
 generalize hQ:(λ(r:AV)=>∃(e:aP) (ok:Bool),r= .t [.a e.c,bv ok]/\EvL e/\(ok=U->aSm c s/\aF (L c.ay) t/\PK e.kind (aQs c s t)))=Qq
 refine aDq (bhh rfl rfl λs4 hl b1 b2 h0=>?_)
 refine I7 hl λv6 s6 F6 N6 b6=>?_
 have c1:=F6.kq b1
 have c2:=F6.kq b2
 have a0:=F6.len.trans hl
 have k1:∀{x:dM} {y:AV},aN J (y::x)=V y:=λ{x y}=>by cases y<;>rfl
 have k7:=@r7A
 have hz:bM brx aOG []=V (.a brx):=rfl
 simp only[qz 6,qy 8,qy 10,eS,c1,c2,H7,ar,Fa,aWm,rr,aTv]
 refine⟨⟨E,by omega⟩,λb bf=>?_⟩
 have D:∀{x:ae},box x (6,v6)=V ⟨62,7,U,U,[brx]⟩->sV (aK 7 x (.p (6,v6) 0 0)<|.a brx) λy=>rV (Iy (V 7) y<|.p (6,v6) 0 0) λt=>aE (λr=>Qq<|bmL r) y [t,bv I]:=λ{x} E=>by
  refine stW E rfl rfl λs7 F7 b7=>?_
  rw[aEa b7 rfl]
  refine aOH (vs':=[.a<|aP.c ⟨0,0,0,0,0,[],[]⟩,bv I]) rfl rfl ?_
  rw[<-hQ];exact⟨_,_,rfl,⟨by simp,by simp⟩,by simp⟩
 cases b with
 |false=>
  simp only[u0,↓jN,aRV,↓iC,hz]
  exact D b6
 |true=>
 obtain⟨hF⟩:Nonempty (aSm c s):=⟨bf rfl⟩
 have bS:=hF
 obtain⟨_,f1,f2,f3,f4,f5⟩:=bS
 rcases h1:Q (t<0) with _|_
 rotate_left
 ·simp only[eQ,↓jN,aRV,↓iC,wY,hz,h1]
  exact D b6
 rcases h2:Q (t>=(L c.ay:Int)) with _|_
 rotate_left
 ·simp only[eQ,c1,H7,↓jA,↓iC,wY,hz,h1,h2]
  exact D b6
 simp only[aNK] at h1 h2
 have cB:aF (L c.ay) t:=⟨by omega,by omega⟩
 obtain⟨m,rfl⟩:∃m:Nat,t=m:=⟨t.toNat,by omega⟩
 have hm:m<L c.ay:=by omega
 obtain⟨p1,p2,p3⟩:=f5 m hm
 obtain⟨r1,r2,r3⟩:=hc.2.2 _<|dB hm
 have bQ:=bnk h1
 have bR:=bnk h2
 have b4:(gd s.ay m).pc.toNat<L (gd c.ay m).big:=by have:=p1.1;have:=p1.2;omega
 have S:∀j∈a6F (aQs c s m),aF (L (gd s.ay m).NA) j/\aF (L (gd s.ay m).I9) j:=λj hj=>by
  have:=r3 _ b4 j hj
  exact⟨⟨this.1,by omega⟩,⟨this.1,by omega⟩⟩
 have bX:=f1
 obtain⟨_,_,_,ft⟩:=iY bX
 simp only[eQ,c1,rk,H7,↓jA,↓iB,bQ,bR,ixv,bh]
 refine⟨by simp_all,anu a0 λv8 s8 F8 N8 b8=>?_⟩
 have bF:=F8.kq c1
 have bH:=F8.kq c2
 have bw:=F8.kq b6
 have a1:=F8.len.trans a0
 simp only[qz 12,qy 14,eT,bF,b8,H7,ixv,bh]
 refine⟨dJ hm,p1,I7 a1 λv9 cJ br N9 bC=>?_⟩
 refine stW bC rfl rfl λs9 bs b9=>?_
 have F9:Fx s8 s9 []:=(br.trans bs).mono (by grind [bK.no])
 have bI:=F9.kq bH
 have bx:=F9.kq bw
 have bB:=F9.kq b8
 have a2:=F9.len.trans a1
 simp only[qz 16,qy 18]
 refine dT (by simp[eL,lb,zt,dC,dK,sl,awG.c]) ?_
 generalize hi:gd (gd c.ay m).big (gd s.ay m).pc.toNat=i at*
 have b0:aQs c s m=i:=by simp[aQs,hi]
 rw[b0] at S
 have bV:bM brx aOG [(0,iv m),(4,iv i.site)]=V (.a [iv m,iv 0,iv 0,iv 0,iv i.site, .l [] U U, .l [] U U]):=rfl
 simp only[eS,b9,H7,bV]
 refine anu a2 λab cI T cy W=>?_
 have R:=T.kq bI
 have M:=T.kq bx
 have av:=T.kq bB
 have C:=T.kq b9
 have bi:=T.len.trans a2
 have aw:∀{x:ae} {k o u:Int} {d f:AV} {ds fs:d0},box x (6,v6)=V ⟨62,7,U,U,[brx]⟩->sA x 3 1 d (ds.map ci)->sA x 3 1 f (fs.map ci)->(∀q∈aA d++aA f,q.1≠6)->L ds<=1000->L fs<=1000->PK k i->sV (aK 7 x (.p (6,v6) 0 0)<|.a [iv m,iv k,iv o,iv 0,iv u,d,f]) λy=>rV (Iy (V 7) y<|.p (6,v6) 0 0) λt=>aE (λr=>Qq<|bmL r) y [t,bv U]:=λ{x k o u d f ds fs} E bO w hq l1 l2 hk=>by
  refine stW E rfl rfl λs7 F7 b7=>?_
  rw[aEa b7 rfl]
  have e1:=aBr (bO.fx F7 λq h e=>(by grind))
  have e2:=aBr (w.fx F7 λq h e=>(by grind))
  refine aOH (vs':=[.a<|aP.c ⟨m,k,o,0,u,ds,fs⟩,bv U]) (by simp only[ji,mU,fzT,aWt,e1,e2];rfl) (by simp[iX,aP.c,eN,sl]) ?_
  rw[<-hQ];exact⟨_,_,rfl,⟨l1,l2⟩,by simp_all⟩
 have aZ:∀{x:ae} {l:List (d0)} {j:Int} {K:cC},rV (cz 1 x (sl cl l)<|iv j) K=(aF (L l) j/\K (.q<|cl<|gd l j.toNat)):=aBz λ_=>rfl
 have a3:∀{x:ae} {l:d0},Iy J x (.q<|cl l)=V (sl ci l):=rfl
 have aX:∀t∈(gd s.ay m).NA,Tn t:=(hs.th _<|dB<|by omega).2.2.1
 have nil:∀{x:ae},sA x 3 1 (.l [] U U) (([]:d0).map ci):=λ{x}=> .inl ⟨rfl,rfl⟩
 have aa:aF (L s.bW.ay) (m:Int):=by rw[ft,<-hc.2.1];omega
 rcases q1:Q ((gd s.bW.ay m).cQ=1) with _|_
 rotate_left
 ·have bU:bM brx aOG [(0,iv m),(1,iv 1),(2,iv<|-1),(4,iv<|-1)]=V (.a [iv m,iv 1,iv<|-1,iv 0,iv<|-1, .l [] U U, .l [] U U]):=rfl
  simp only[qz 20,qy 22,qy 30,eT,R,C,H7,ix,bh,q1,↓iC,bU]
  refine⟨aa,?_⟩
  exact aw M nil nil (by simp[aA]) (by simp) (by simp) (by simp[PK])
 rcases q2:Q ((gd s.bW.ay m).cQ=4) with _|_
 rotate_left
 ·simp only[qz 20,qy 22,qy 30,eT,R,C,W,H7,ix,bh,q1,q2,↓iC,↓iB]
  refine⟨aa,aa,?_⟩
  refine stC W rfl (by simp) λcc G X=>?_
  have af:=G.kq M
  simp only[qz 24,eS,X]
  refine stC X rfl (by simp) λA H v=>?_
  have B:=H.kq af
  simp only[qz 26,qy 28]
  refine dT (by simp[eL,lb,zt,dC,dK,sl,aoC.c]) ?_
  simp only[eQ,v,List.set_cons_succ,RY,k7]
  exact aw B nil nil (by simp[aA]) (by simp) (by simp) (by simp[PK])
 rcases q3:Q ((gd s.bW.ay m).cQ=2) with _|_
 ·simp only[qz 20,qy 22,qy 30,eT,R,C,W,H7,ix,bh,q1,q2,q3,↓iB,hz]
  exact⟨aa,D M⟩
 simp only[qz 20,qy 22,qy 30,eT,R,av,C,W,H7,ix,ar,Fa,aWm,rr,bh,q1,q2,q3,↓iC,↓iB]
 refine⟨aa,λZ=>(S _ ?_).2,λo=>?_⟩
 ·rcases i with⟨op,a,b,k,n,st⟩
  simp only at Z⊢
  rcases Z with rfl|rfl<;>simp[a6F]
 refine stC W rfl (by simp) λcc G X=>?_
 have af:=G.kq M
 have a8:=G.kq av
 have a9:=G.kq C
 simp only[qz 32,eS,X]
 refine stC X rfl (by simp) λA H v=>?_
 have B:=H.kq af
 have N:=H.kq a8
 have O:=H.kq a9
 have aD:=(H.len.trans G.len).trans bi
 simp only[List.set_cons_succ,RY] at v
 rcases q4:Q (aPY i.op=0) with _|_
 rotate_left
 ·simp only[qz 34,qy 36,eS,v,k1,nM,ip,q4,↓iC,hz]
  exact D B
 simp only[qz 34,eS,v,k1,nM,ip,q4,↓iB]
 refine biR (λg=>∀{x:ae} {d:AV} {ds:d0},L x=4096->box x (6,v6)=V ⟨62,7,U,U,[brx]⟩->box x (8,v8)=V ⟨251,4,U,U,[(gd s.ay m).c]⟩->box x (9,v9)=V ⟨264,6,U,U,[i.c]⟩->box x (10,ab)=V ⟨62,7,U,U,[[iv m,iv<|aPY i.op,iv o,iv 0,iv i.site,d, .l [] U U]]⟩->sA x 3 1 d (ds.map ci)->(∀q∈aA d,q.1≠6/\q.1≠10)->L ds<=1000->g [] x) (λ{x d ds} cD E h8 h9 he g1 hq l1=>?_) λbt aB=>?_
 ·simp only[qz 123,aI]
  refine bpl (λg=>∀{x:ae} {d f:AV} {ds fs:d0},box x (6,v6)=V ⟨62,7,U,U,[brx]⟩->box x (10,ab)=V ⟨62,7,U,U,[[iv m,iv<|aPY i.op,iv o,iv 0,iv i.site,d,f]]⟩->sA x 3 1 d (ds.map ci)->sA x 3 1 f (fs.map ci)->(∀q∈aA d++aA f,q.1≠6)->L ds<=1000->L fs<=1000->g [] x) (λ{x d f ds fs} E he g1 g2 hq l1 l2=>?_) λaV aC=>?_
  ·simp only[qz 153,qy 50,eQ,he,k7]
   exact aw E g1 g2 hq l1 l2 bdY
  have go:∀{y:ae} {f:AV} {fs:d0},Fx x y []->sA y 3 1 f (fs.map ci)->(∀q∈aA f,bK x q/\q.1=132)->L fs<=1000->sV (aK 1 y (.p (10,ab) 0 6) f) λs=>aV [] s:=λ{y f fs} F w hf lf=>by
   refine stC (F.kq he) w.ce (by simp) λs2 F2 b2=>?_
   refine aC (F2.kq<|F.kq E) b2 ((g1.fx F<|by simp).fx F2 λq h e=>?_) (w.fx F2 λq h e=>?_) (λq h=>?_) l1 lf
   ·simp at e;subst e;exact(hq _ h).2 rfl
   ·simp at e;subst e;have:=(hf _ h).2;simp at this
   ·rcases dF.1 h with h|h
    ·exact(hq q h).1
    ·rw[(hf q h).2];decide
  have dn:(Q (i.op=8)||Q (i.op=9)||Q (i.op=26))=I->aV [] x:=λ_=>aC E he g1 nil (λq h=>by
   rcases dF.1 h with h|h
   ·exact(hq q h).1
   ·simp[aA] at h) l1 (by simp)
  have up:(Q (i.op=8)||Q (i.op=9)||Q (i.op=26))=U->∀{K:be},(∀(f:AV) (y:ae) (fs:d0),Fx x y []->sA y 3 1 f (fs.map ci)->(∀q∈aA f,bK x q/\q.1=132)->L fs<=1000->K f y)->rV (cz 1 x (sl cl (gd s.ay m).NA)<|iv i.b) λbn=>rV (Iy J x bn) λbo=>eV (apA 3 fB 8 x 132 (.l [] U U) bo) K:=λZ {K} hK=>by
   have hr:=S i.b (by
    rcases i with⟨op,a,b,k,n,st⟩
    simp only[Bool.or_eq_true,aBY] at Z⊢
    rcases Z with(rfl|rfl)|rfl<;>simp[a6F])
   rw[aZ]
   refine⟨hr.1,?_⟩
   simp only[a3,aY]
   have hT:=aX _ (dB (l:=(gd s.ay m).NA) (k:=i.b.toNat) (by have:=hr.1.1;have:=hr.1.2;omega))
   refine apV (bA:=[]) (e:=3) (z:=1) (.inl ⟨rfl,rfl⟩) rfl rfl (by decide) (by omega) (by simp) fF (by simp;have:=hT.len;omega) λf y w F P=>?_
   exact hK f y _ (F.mono<|by simp[aA]) w (λq h=>(P q h).elim (λh=>by simp[aA] at h) id) hT.len
  rcases z1:Q (i.op=8) with _|_<;>rcases z2:Q (i.op=9) with _|_<;>rcases z3:Q (i.op=26) with _|_<;>simp only[z1,z2,z3,wY,Bool.or_false] at up dn<;>simp only[qz 155,eS,h9,he,h8,z1,z2,z3,H7,k1,↓jA,↓jN,aRV,↓iC,↓iB,wY]
  all_goals first|exact dn rfl|exact dn trivial|(refine up trivial λf y fs F w P l=>?_;simp only[qz 46,qy 48,eS,F.kq he];exact go F w P l)
 simp only[qz 125,eS,O,v,N,H7,k1]
 have aW:∀{y:ae} {f:AV} {fs:d0} {pl:Nat},Fx A y []->sA y 3 1 f (fs.map ci)->(∀q∈aA f,bK A q/\q.1=pl)->pl≠10->pl≠6->L fs<=1000->sV (aK 1 y (.p (10,ab) 0 5) f) λs2=>bt [] s2:=λ{y f fs pl} F w hf hp cF lf=>by
  refine stC (F.kq v) w.ce (by simp) λs2 F2 b2=>?_
  have ao:∀{q:Id} {z:bY},q≠(10,ab)->box A q=V z->box s2 q=V z:=λh hz=>F2.keep _ _ (by simpa using h)<|F.kq hz
  exact aB ((F2.len.trans F.len).trans aD) (ao (by simp) B) (ao (by simp) N) (ao (by simp) O) b2 (w.fx F2 λq h e=>by simp at e;subst e;exact hp (hf _ h).2.symm) (λq h=>by rw[(hf q h).2];omega) lf
 have ap:∀{j:Int} {pl:Nat} {K:be},j∈a6F i->pl<4096->(∀(f:AV) (y:ae) (fs:d0),Fx A y []->sA y 3 1 f (fs.map ci)->(∀q∈aA f,bK A q/\q.1=pl)->L fs<=1000->K f y)->rV (cz 1 A (sl cl (gd s.ay m).NA)<|iv j) λbp=>rV (Iy J A bp) λbq=>eV (apA 3 fB 8 A pl (.l [] U U) bq) K:=λ{j pl K} hj cG hK=>by
  have hr:=S j hj
  rw[aZ]
  refine⟨hr.1,?_⟩
  simp only[a3,aY]
  have hT:=aX _ (dB (l:=(gd s.ay m).NA) (k:=j.toNat) (by have:=hr.1.1;have:=hr.1.2;omega))
  refine apV (bA:=[]) (e:=3) (z:=1) (.inl ⟨rfl,rfl⟩) rfl rfl (by decide) (by omega) (by simp) fF (by simp;have:=hT.len;omega) λf y w F P=>?_
  exact hK f y _ (F.mono<|by simp[aA]) w (λq h=>(P q h).elim (λh=>by simp[aA] at h) id) hT.len
 refine⟨λZ=>?_,λZ=>?_⟩
 ·have a4:=aNQ Z
  refine ap (j:=i.a) (pl:=96) (by rcases i with⟨op,a,b,k,n,st⟩;simp only at a4⊢;subst a4;simp[a6F]) (by decide) λf y fs F w P lf=>?_
  simp only[qz 38,qy 40,eS,F.kq v]
  exact aW F w P (by decide) (by decide) lf
 ·have bL:=aB aD B N O v nil (by simp[aA]) (by simp)
  refine bsf (λg=>(i.op=7\/i.op=9->g [bv U])/\g [bv I]) ⟨λh=>?_,?_⟩ λg al=>?_
  ·simp only[qz 141,au,aI]
   simp only[eS,O,v,N,H7,k1,↓iC]
   refine ap (j:=i.k) (pl:=109) (by rcases i with⟨op,a,b,k,n,st⟩;simp only at h⊢;rcases h with rfl|rfl<;>simp[a6F]) (by decide) λf y fs F w P lf=>?_
   simp only[qz 42,qy 44,eS,F.kq v]
   exact aW F w P (by decide) (by decide) lf
  ·simp only[qz 141,au,aI,↓iB]
   exact bL
  rcases z1:Q (i.op=7) with _|_<;>rcases z2:Q (i.op=9) with _|_<;>simp only[qz 143,eQ,z1,z2,↓iC,↓iB]
  ·exact al.2
  ·exact al.1 (.inr<|aNQ z2)
  ·exact al.1 (.inl<|aNQ z1)
  ·exact al.1 (.inl<|aNQ z1)
def aUh:FT:=vn aXq
def bb8:=zZ aUh aXq (j:=by simp+contextual only[ij,ijv])
def aYe:dO:=(233,aUh)::a7G
def a7p:eJ aYe:=vl (By aXq)<|a7o
def aWn:=ai @bb8<|@aWm
section
attribute[local irreducible] aX
def a5I:=kW 39 [(15,([16],[3,4,5,6,7,9,14,15])),(17,([78],[3,4,5,6,7,9,14,15,16,77])),(30,([],[3,4,5,6,7,9,14,16])),(35,([],[4,5,6,7,9,14]))]
def aVk b c a d R:=(.mk _:NR aYe a5I Tryz.f187 [.u, .u, .u] [b,c,a] d R).p
def bhk{c0:dM}{b:dM}{c:dM}{R:cC}(l0:L c0=7)(l1:L b=7)(d:L c=2)(h:H3 129 7 3 c0 124 7 4 b 170 2 5 c λf g i e=>aVk f g i e R):Ct 187 [.a c0, .a b, .a c] R:=z3 a5I a7p func187 l0 l1 d h
end
def bg(s:I5)(t:Int):Prop:=aF (L s.count) t/\1<=gd s.count t.toNat
structure StI(w:pz)(s:I5)(j:Nat):Prop where
 r:0<=(gd s.bW.ay j).cQ/\(gd s.bW.ay j).cQ<=5
 fr:((gd s.bW.ay j).cQ=0\/(gd s.bW.ay j).cQ=1)↔gd s.count j=0
 z:j=0->(gd s.bW.ay j).cQ≠0
 wt:((gd s.bW.ay j).cQ=3\/(gd s.bW.ay j).cQ=4)->aF (L w.bC) (gd s.bW.ay j).cond/\(gd s.bW.ak (gd w.bC (gd s.bW.ay j).cond.toNat).eg.toNat).aNN≠j
 nw:¬((gd s.bW.ay j).cQ=3\/(gd s.bW.ay j).cQ=4)->(gd s.bW.ay j).cond=0
 at':(gd s.bW.ay j).atomic=U->bg s j
structure LcI(w:pz)(s:I5)(j:Nat):Prop where
 ow:(gd s.bW.ak j).aNN≠-1->bg s (gd s.bW.ak j).aNN
 rd:(gd s.bW.ak j).bk≠[]->(gd w.ak j).rw=U/\(gd s.bW.ak j).aNN= -1
 rb:∀x∈(gd s.bW.ak j).bk,bg s x
 inc:jC (gd s.bW.ak j).bk
structure SI(w:pz)(s:I5)(n:Nat):Prop where
 fit:fN w s=U
 c0:∀c∈s.count,0<=c
 sum:s.count.sum=n
 st:∀j,j<L s.bW.ay->StI w s j
 lk:∀j,j<L s.bW.ak->LcI w s j
 tx:s.bW.tx≠-1->bg s s.bW.tx
 fu:∀j,j<L s.bU->gd s.bW.done j=I->gd s.bU j=0
theorem gdS{α}[Inhabited α]{l}{i j:Nat}{x:α}:gd (l.set i x) j=if i=j/\j<L l then x else gd l j:=by grind [gd]
theorem aTf{α}[Inhabited α]{l i j}{x:α}(h:i≠j):gd (l.set i x) j=gd l j:=by grind [gdS]
theorem aTe{α}[Inhabited α]{l:List α}{i:Nat}{x}(h:i<L l):gd (l.set i x) i=x:=by grind [gdS]
structure Mk(s s':aW):Prop where
 lk:s'.ak=s.ak
 tx:s'.tx=s.tx
 dn:s'.done=s.done
 len:L s'.ay=L s.ay
 th:∀j,gd s'.ay j=gd s.ay j\/((gd s.ay j).cQ=3/\gd s'.ay j={gd s.ay j with cQ:=4})
theorem Mk.refl(s):Mk s s:=⟨rfl,rfl,rfl,rfl,λ_=> .inl rfl⟩
def aYj{s}{c u:Int}(h:u∈fO s c):aF (L s.ay) u/\(gd s.ay u.toNat).cQ=3/\(gd s.ay u.toNat).cond=c:=by unfold fO eh at h;simp only[dN,jW,List.mem_range] at h;obtain⟨i,⟨b,a⟩,rfl⟩:=h;simp only[pe,bN,aBY] at a;refine⟨⟨by omega,by omega⟩,?_⟩;grind
theorem Mk.one{s s'}(h:Mk s s'){u}(a:(gd s.ay u.toNat).cQ=3):Mk s (ni s' u {fA s' u with cQ:=4}):=by refine⟨h.lk,h.tx,h.dn,by simp[ni,h.len],λj=>?_⟩;simp only[ni,fA,gdS];grind [Mk.th]
def Mk.fold{s}:∀(l:d0) {s'},Mk s s'->(∀u∈l,(gd s.ay u.toNat).cQ=3)->Mk s (l.foldl (λs u=>ni s u {fA s u with cQ:=4}) s')|[],_,h,_=>h|u::l,_,h,a=>Mk.fold l (h.one<|a u<|by simp) (by simp_all)
theorem bhI{s bF arm}(h:fO s bF≠[]):(gd s.ay (tD s bF arm).toNat).cQ=3:=by unfold tD;split;rename_i b;exact(aYj b).2.1;cases d:fO s bF with|nil=>simp_all|cons a l=>exact(aYj (c:=bF)<|by grind [gd]).2.1
theorem a6V{w s t bF arm}:Mk s (cU w s t 18 bF arm).1:=by simp only[cU];grind [Mk.one,Mk.refl,bhI]
theorem a6W{w s t bF arm}:Mk s (cU w s t 19 bF arm).1:=by simp only[cU];simp only[show¬(19:Int)=1 by decide,show¬(19:Int)=2 by decide,show¬((19:Int)=6\/(19:Int)=10) by decide,show¬((19:Int)=7\/(19:Int)=11) by decide,show¬(19:Int)=8 by decide,show¬(19:Int)=9 by decide,show¬(19:Int)=12 by decide,show¬(19:Int)=13 by decide,show¬(19:Int)=14 by decide,show¬(19:Int)=15 by decide,show¬(19:Int)=16 by decide,show¬(19:Int)=17 by decide,show¬(19:Int)=18 by decide,brP,a7g];exact Mk.fold _ (Mk.refl s) (λu a=>(aYj a).2.1)
section
variable{w:pz}{s s':I5}{t:Nat}
structure Ct1(s s':I5)(t:Nat):Prop where
 lt:t<L s.count
 e:s'.count=s.count.set t (gd s.count t+1)
 p:0<=gd s.count t
theorem Ct1.len(h:Ct1 s s' t):L s'.count=L s.count:=by rw[h.e];simp
def Ct1.at(h:Ct1 s s' t):gd s'.count t=gd s.count t+1:=by rw[h.e,aTe h.lt]
theorem Ct1.ne(h:Ct1 s s' t){j}(a:j≠t):gd s'.count j=gd s.count j:=by rw[h.e,aTf<|Sa a]
theorem Ct1.bg(h:Ct1 s s' t){x}(a:Ab.bg s x):Ab.bg s' x:=by refine⟨by rw[h.len];exact a.1,?_⟩;by_cases e:x.toNat=t;rw[e,h.at];have:=h.p;omega;rw[h.ne e];exact a.2
theorem Ct1.own(h:Ct1 s s' t):Ab.bg s' (t:Int):=by refine⟨⟨by omega,by rw[h.len];have:=h.lt;omega⟩,?_⟩;rw[bh,h.at];have:=h.p;omega
theorem StI.keep(c:Ct1 s s' t){j}(b:j≠t)(a:gd s'.bW.ay j=gd s.bW.ay j)(d:∀l,(gd s'.bW.ak l).aNN=(gd s.bW.ak l).aNN\/(gd s'.bW.ak l).aNN=t\/(gd s'.bW.ak l).aNN= -1)(h:StI w s j):StI w s' j:=by refine⟨by rw[a];exact h.r,by rw[a,c.ne b];exact h.fr,by rw[a];exact h.z,λhs=>?_,by rw[a];exact h.nw,by grind [Ct1.bg,StI.at']⟩;grind [StI.wt]
theorem StI.own(c:Ct1 s s' t){x}(f:gd s'.bW.ay t=x)(b:x.cQ=2\/x.cQ=5)(d:x.cond=0):StI w s' t:=by have a:=c.own;have e:¬gd s'.count t=0:=(by rw[c.at];have:=c.p;omega);refine⟨by grind,by grind,by grind,by grind,by simp_all,λ_=>a⟩
theorem LcI.keep(c:Ct1 s s' t){j}(a:gd s'.bW.ak j=gd s.bW.ak j)(h:LcI w s j):LcI w s' j:=⟨by grind [Ct1.bg,LcI.ow],by rw[a];exact h.rd,by grind [Ct1.bg,LcI.rb],by rw[a];exact h.inc⟩
end
def bfw{l}:∀{i:Nat} {x:Int},i<L l->(l.set i x).sum=l.sum-gd l i+x:=by induction l with|nil=>simp|cons a l b=>intro i x h;cases i with|zero=>simp[gd];omega|succ i=>grind [gd]
def aWu{l:d0}:(∀c∈l,0<=c)->∀i,gd l i<=l.sum/\0<=l.sum:=by induction l with|nil=>intro _ i;simp[gd]|cons a l b=>intro h i;have d:=h a (by simp);obtain⟨e,f⟩:=b (by simp_all)<|i-1;grind [gd,Nat.add_sub_cancel]
section
variable{w:pz}{s s':I5}{t n:Nat}
theorem SI.next(h:SI w s n)(c:Ct1 s s' t)(a:fN w s'=U)(m:∀j,j<L s.bW.ay->StI w s' j)(l:∀j,j<L s.bW.ak->LcI w s' j)(g:L s'.bW.ay=L s.bW.ay)(i:L s'.bW.ak=L s.bW.ak)(k:s'.bW.tx=s.bW.tx\/s'.bW.tx=t\/s'.bW.tx= -1)(d:∀j,j<L s'.bU->gd s'.bW.done j=I->gd s'.bU j=0):SI w s' (n+1):=by refine⟨a,?_,?_,by simp_all,by simp_all,λb=>?_,d⟩;intro x b;rw[c.e] at b;rcases CC b with f|rfl;exact h.c0 x f;have:=c.p;omega;rw[c.e,bfw c.lt,h.sum];omega;grind [Ct1.bg,SI.tx,Ct1.own]
theorem SI.mk1(h:SI w s n)(c:Ct1 s s' t)(a:fN w s'=U)(f:∀j,j≠t->gd s'.bW.ay j=gd s.bW.ay j)(b:L s'.bW.ay=L s.bW.ay)(e:L s'.bW.ak=L s.bW.ak)(k:StI w s' t)(m:∀l,(gd s'.bW.ak l).aNN=(gd s.bW.ak l).aNN\/(gd s'.bW.ak l).aNN=t\/(gd s'.bW.ak l).aNN= -1)(i:∀j,j<L s.bW.ak->LcI w s' j)(g:s'.bW.tx=s.bW.tx\/s'.bW.tx=t\/s'.bW.tx= -1)(d:∀j,j<L s'.bU->gd s'.bW.done j=I->gd s'.bU j=0):SI w s' (n+1):=by grind [SI.next,StI.keep,SI.st]
end
theorem a97{w s}{t k bF arm:Int}:L (cU w s t k bF arm).1.ak=L s.ak/\L (cU w s t k bF arm).1.done=L s.done/\L (cU w s t k bF arm).1.ay=L s.ay:=by by_cases a:k=18;grind [a6V,Mk.lk,Mk.dn,Mk.len];by_cases b:k=19;grind [a6W,Mk.lk,Mk.dn,Mk.len];unfold cU;by_cases q:k=1;grind [ni,J9];rw[r9 q];clear q;by_cases q:k=2;grind [ni,J9];rw[r9 q];clear q;by_cases q:k=6\/k=10;grind [ni,J9];rw[r9 q];clear q;by_cases q:k=7\/k=11;grind [ni,J9];rw[r9 q];clear q;by_cases q:k=8;grind [ni,J9];grind [ni,J9]
def bfb{w s e}(h:fN w s=U):fN w (oc w s e)=U:=by grind [a97,og,fN,lh,oc]
theorem SI.step{w s e}{n:Nat}(h:SI w s n)(hv:∀j,j<L w.bC->uh w j=I)(hn:n<100000)(P:bhO w s e=U):SI w (oc w s e) (n+1):=by
 simp only[bhO,Bool.not_eq_true',cP] at P
 obtain⟨R,_,_,_,b5⟩:=P
 simp only[aOL,cP,fK,aNK] at R
 obtain⟨⟨⟨⟨hf,ht⟩,k1⟩,k2⟩,he⟩:=R
 have q:=bfb (e:=e) hf
 simp only[jm,bN] at he
 obtain⟨ad,_,i,g⟩:=he
 obtain⟨W,f2,f3,f4⟩:=iY ad
 have F:=dX.1 ht
 have av:L s.count=L w.ay:=by grind [fN]
 have ax:L s.bU=L w.bU:=by grind [fN]
 obtain⟨K,kd,bF,val,site,dI,ep⟩:=e
 simp only at ht F k1 k2 i g
 obtain⟨t,rfl⟩:∃t:Nat,K=t:=⟨K.toNat,by have:=F.1;omega⟩
 have aB:t<L w.ay:=by have:=F.2;omega
 have H:=h.st t (by omega)
 have ab:0<=gd s.count t/\gd s.count t<=n:=by
  have D:=aWu h.c0 t
  rw[h.sum] at D
  exact⟨h.c0 _<|dB<|by omega,D.1⟩
 have c:Ct1 s (oc w s ⟨t,kd,bF,val,site,dI,ep⟩) t:=⟨by omega,by grind [oc,bh,eM],ab.1⟩
 have af:kd=1\/kd=2\/kd=3\/kd=4\/kd=5\/kd=6\/kd=7\/kd=8\/kd=9\/kd=10\/kd=11\/kd=12\/kd=13\/kd=14\/kd=15\/kd=16\/kd=17\/kd=18\/kd=19\/kd=20\/kd=21\/kd=22\/kd=23:=by omega
 generalize hS:oc w s ⟨t,kd,bF,val,site,dI,ep⟩=S at*
 have ag:S.bW=(cU w s.bW t kd bF<|og ⟨t,kd,bF,val,site,dI,ep⟩).1:=by rw[<-hS];rfl
 have z:kd≠22->S.bU=s.bU:=(by grind [oc])
 have v:S.bU=s.bU->S.bW.done=s.bW.done->∀j,j<L S.bU->gd S.bW.done j=I->gd S.bU j=0:=(by grind [SI.fu])
 have G:S.bW.ak=s.bW.ak->∀j,j<L s.bW.ak->LcI w S j:=(by grind [LcI.keep,SI.lk])
 generalize og ⟨t,kd,bF,val,site,dI,ep⟩=wk at ag
 have ao:kd=22->S.bU=s.bU.set bF.toNat val:=(by grind [oc])
 clear hS
 have aC:Mk s.bW S.bW->kd≠22->(gd s.bW.ay t).cQ=2->SI w S (n+1):=λm a X=>by
  refine h.next c q (λj A=>?_) (G m.lk) m.len (by rw[m.lk]) (.inl m.tx) (v (z a) m.dn)
  by_cases T:j=t
  ·grind [Mk.th,StI.own,StI.nw]
  ·have ae:=h.st j A
   rcases m.th j with D|⟨D,Z⟩
   ·grind [StI.keep,Mk.lk]
   ·have e4:=ae.wt<|.inl D
    refine⟨by simp_all,by grind [Ct1.ne,StI.fr],by grind,(by grind [Mk.lk]),by simp_all,by grind [Ct1.bg,StI.at']⟩
 have al:S.bW=s.bW->kd≠22->(gd s.bW.ay t).cQ=2->SI w S (n+1):=(by grind [SI.mk1,StI.own,StI.nw])
 have one:∀x:aoC,S.bW=ni s.bW t x->kd≠22->x.cQ=2\/x.cQ=5->x.cond=0->SI w S (n+1):=λx b a X Z=>by
  refine h.mk1 c q (by grind [ni,bh,aTf]) (by grind [ni]) (by rw[b];rfl) (by grind [StI.own,ni,bh,aTe]) (λl=> .inl<|by rw[b];rfl) (G<|by rw[b];rfl) (.inl<|by rw[b];rfl) (v (z a)<|by rw[b];rfl)
 have lock:∀(k:Nat) (x:cg),S.bW={s.bW with ak:=s.bW.ak.set k x}->kd≠22->(gd s.bW.ay t).cQ=2->(x.aNN=(gd s.bW.ak k).aNN\/x.aNN=t\/x.aNN= -1)->(x.bk≠[]->(gd w.ak k).rw=U/\x.aNN= -1)->(∀y∈x.bk,y=t\/y∈(gd s.bW.ak k).bk)->jC x.bk->k<L s.bW.ak->SI w S (n+1):=λk x b a X Z h4 h5 h6 P=>by
  have C:∀j,gd S.bW.ak j=if k=j/\j<L s.bW.ak then x else gd s.bW.ak j:=(by grind [gdS])
  refine h.mk1 c q (λj _=>by rw[b]) (by rw[b]) (by rw[b];simp) (by grind [StI.own,StI.nw]) (λl=>?_) (λj A=>?_) (.inl<|by rw[b]) (by grind)
  ·grind
  ·by_cases B:k=j
   ·subst B
    have p:gd S.bW.ak k=x:=by simp_all
    have l0:=h.lk k A
    refine⟨by grind [Ct1.bg,LcI.ow,Ct1.own],by simp_all,by grind [Ct1.own,Ct1.bg,LcI.rb],by simp_all⟩
   grind [LcI.keep,SI.lk]
 rcases af with rfl|rfl|rfl|rfl|rfl|rfl|rfl|rfl|rfl|rfl|rfl|rfl|rfl|rfl|rfl|rfl|rfl|rfl|rfl|rfl|rfl|rfl|rfl
 all_goals simp[lc] at g
 ·exact one {gd s.bW.ay t with cQ:=2} (by grind [cU,fA]) (by decide) (.inl rfl) (H.nw<|by omega)
 ·exact one {gd s.bW.ay t with cQ:=5} (by grind [cU,fA]) (by decide) (.inr rfl) (H.nw<|by omega)
 ·grind [cU]
 ·grind [cU]
 ·grind [cU]
 ·
  have f:=mJ i (by decide) (by decide)
  have d:bF.toNat<L s.bW.ak:=by have:=f.1;have:=f.2;omega
  have l0:=h.lk _ d
  simp[named] at i
  exact lock bF.toNat {cH s.bW bF with aNN:=t} (by grind [cU,J9]) (by decide) g.1 (.inr<|.inl rfl) (λa=>by have:=(l0.rd a).1;grind) (λy o=> .inr o) l0.inc d
 ·have f:=mJ i (by decide) (by decide)
  have d:bF.toNat<L s.bW.ak:=by have:=f.1;have:=f.2;omega
  have l0:=h.lk _ d
  exact lock bF.toNat {cH s.bW bF with aNN:= -1} (by grind [cU,J9]) (by decide) g.1 (.inr<|.inr rfl) (λa=>⟨(l0.rd a).1,rfl⟩) (λy o=> .inr o) l0.inc d
 ·
  have f:=mJ i (by decide) (by decide)
  have d:bF.toNat<L s.bW.ak:=by have:=f.1;have:=f.2;omega
  have l0:=h.lk _ d
  simp[named] at i
  have e0:mP (cH s.bW bF).bk [(t:Int)]=fk (cH s.bW bF).bk t:=Ro l0.inc
  exact lock bF.toNat {cH s.bW bF with bk:=mP (cH s.bW bF).bk [(t:Int)]} (by grind [cU,J9]) (by decide) g.1 (.inl rfl) (λ_=>⟨i.2,g.2.1⟩) (λy o=>by rw[e0] at o;exact an1 o) (by rw[e0];exact Nz l0.inc) d
 ·
  have f:=mJ i (by decide) (by decide)
  have d:bF.toNat<L s.bW.ak:=by have:=f.1;have:=f.2;omega
  have l0:=h.lk _ d
  exact lock bF.toNat {cH s.bW bF with bk:=fJ (cH s.bW bF).bk t} (by grind [cU,J9]) (by decide) g.1 (.inl rfl) (λa=>l0.rd<|λe=>a<|by simp[cH,e,fJ]) (λy o=> .inr (jW.1 o).1) (amF.2<|(amF.1 l0.inc).filter _) d
 ·
  have f:=mJ i (by decide) (by decide)
  have d:bF.toNat<L s.bW.ak:=by have:=f.1;have:=f.2;omega
  have l0:=h.lk _ d
  exact lock bF.toNat {cH s.bW bF with aNN:=t} (by grind [cU,J9]) (by decide) g.1 (.inr<|.inl rfl) (λa=>aRI g.2.2 a) (λy o=> .inr o) l0.inc d
 ·have f:=mJ i (by decide) (by decide)
  have d:bF.toNat<L s.bW.ak:=by have:=f.1;have:=f.2;omega
  have l0:=h.lk _ d
  exact lock bF.toNat {cH s.bW bF with aNN:= -1} (by grind [cU,J9]) (by decide) g.1 (.inr<|.inr rfl) (λa=>⟨(l0.rd a).1,rfl⟩) (λy o=> .inr o) l0.inc d
 ·
  have b:S.bW={s.bW with tx:=(t:Int)}:=by grind [cU]
  grind [SI.mk1,StI.own,StI.nw]
 ·have b:S.bW={s.bW with tx:= -1}:=by grind [cU]
  grind [SI.mk1,StI.own,StI.nw]
 ·exact one {gd s.bW.ay t with atomic:=U} (by grind [cU,fA]) (by decide) (.inl g.1) (H.nw<|by omega)
 ·exact one {gd s.bW.ay t with atomic:=I} (by grind [cU,fA]) (by decide) (.inl g.1) (H.nw<|by omega)
 ·
  have f:=oT i (by decide) (by decide)
  have r:bF.toNat<L w.bC:=by have:=f.1;have:=f.2;omega
  have hm:=W _<|dB r
  have u:(gd w.bC bF.toNat).eg.toNat<L s.bW.ak:=by omega
  have l0:=h.lk _ u
  generalize M:(gd w.bC bF.toNat).eg=m at*
  have b:S.bW=ni (J9 s.bW m {cH s.bW m with aNN:= -1}) t {fA s.bW t with cQ:=3,cond:=bF}:=by grind [cU]
  have C:∀j,gd S.bW.ak j=if m.toNat=j/\j<L s.bW.ak then{cH s.bW m with aNN:= -1} else gd s.bW.ak j:=λj=>by rw[b];exact gdS
  have N:gd S.bW.ay t={fA s.bW t with cQ:=3,cond:=bF}:=by grind [ni,bh,aTe,J9]
  refine h.mk1 c q (by grind [ni,bh,J9,aTf]) (by grind [ni,J9]) (by grind [ni,J9]) ?_ (λl=>?_) (λj A=>?_) (.inl<|by rw[b];rfl) (v (z<|by decide)<|by rw[b];rfl)
  ·have aw:=c.at
   refine⟨by grind,by grind,by grind,λ_=>?_,by grind,λ_=>c.own⟩
   rw[N]
   refine⟨f,?_⟩
   simp only[M]
   rw[C,sz ⟨rfl,u⟩]
   simp only;omega
  ·grind
  ·by_cases B:m.toNat=j
   ·subst B
    have p:=C m.toNat
    rw[sz ⟨rfl,u⟩] at p
    exact⟨by grind,by rw[p];exactλa=>⟨(l0.rd a).1,rfl⟩,by rw[p];exactλy o=>c.bg<|l0.rb y o,by rw[p];exact l0.inc⟩
   grind [LcI.keep,SI.lk]
 ·
  have f:=oT i (by decide) (by decide)
  have r:bF.toNat<L w.bC:=by have:=f.1;have:=f.2;omega
  have hm:=W _<|dB r
  have E:=hv _ r
  have u:(gd w.bC bF.toNat).eg.toNat<L s.bW.ak:=by omega
  have l0:=h.lk _ u
  simp only[uh,cP] at E
  have aA:=E.2
  clear E
  generalize M:(gd w.bC bF.toNat).eg=m at*
  have b:S.bW=ni (J9 s.bW m {cH s.bW m with aNN:=t}) t {fA s.bW t with cQ:=2,cond:=0}:=by grind [cU]
  have C:∀j,gd S.bW.ak j=if m.toNat=j/\j<L s.bW.ak then{cH s.bW m with aNN:=(t:Int)} else gd s.bW.ak j:=λj=>by rw[b];exact gdS
  have N:gd S.bW.ay t={fA s.bW t with cQ:=2,cond:=0}:=by grind [ni,bh,aTe,J9]
  refine h.mk1 c q (by grind [ni,bh,J9,aTf]) (by grind [ni,J9]) (by grind [ni,J9]) (StI.own c N (.inl rfl) rfl) (λl=>?_) (λj A=>?_) (.inl<|by rw[b];rfl) (v (z<|by decide)<|by rw[b];rfl)
  ·grind
  ·by_cases B:m.toNat=j
   ·subst B
    have p:=C m.toNat
    rw[sz ⟨rfl,u⟩] at p
    exact⟨by grind [Ct1.own],by rw[p];exactλa=>aRI (l0.rd a).1 (by simp_all),by rw[p];exactλy o=>c.bg<|l0.rb y o,by rw[p];exact l0.inc⟩
   grind [LcI.keep,SI.lk]
 ·grind [a6V]
 ·grind [a6W]
 ·
  have r:=Eb i (by decide) (by decide)
  have az:bF.toNat<L w.ay:=by have:=r.1;have:=r.2;omega
  have a:bF.toNat≠t:=by grind
  have O:=h.st bF.toNat (by omega)
  have b:S.bW=ni s.bW bF {fA s.bW bF with cQ:=1}:=by grind [cU]
  have C:∀j,gd S.bW.ay j=if bF.toNat=j/\j<L s.bW.ay then{fA s.bW bF with cQ:=1} else gd s.bW.ay j:=λj=>by rw[b];exact gdS
  refine h.next c q (λj A=>?_) (G<|by rw[b];rfl) (by grind [ni]) (by rw[b];rfl) (.inl<|by rw[b];rfl) (v (z<|by decide)<|by rw[b];rfl)
  by_cases B:bF.toNat=j
  ·subst B
   have p:=C bF.toNat
   rw[sz ⟨rfl,A⟩] at p
   have h0:=O.fr.1<|.inl g.2.2
   refine⟨by grind,by grind [Ct1.ne],by grind,by grind,by rw[p];intro _;exact O.nw (by omega),by rw[p];exactλha=>c.bg<|O.at' ha⟩
  ·by_cases T:j=t
   ·grind [StI.own,StI.nw]
   ·exact StI.keep c T (by grind) (λl=> .inl<|by rw[b];rfl) (h.st j A)
 ·grind [cU]
 ·
  have b:S.bW={s.bW with done:=s.bW.done.set bF.toNat U}:=by grind [cU]
  grind [SI.mk1,StI.own,StI.nw,gdS,SI.fu]
 grind [cU]
structure PB(x:ae)(v6 v7:Nat)(c:aOw)(ch:TCh):Prop where
 hl:L x=4096
 b1:box x (3,1)=V ⟨129,7,U,U,[c.c]⟩
 b3:box x (5,1)=V ⟨170,2,U,U,[ch.c]⟩
 b6:box x (6,v6)=V ⟨124,7,U,U,[aOO]⟩
 b7:box x (7,v7)=V ⟨62,7,U,U,[brx]⟩
theorem PB.kx{x y v6 v7 c ch ks}(P:PB x v6 v7 c ch)(F:Kx ks x y)(h:3∉ks/\5∉ks/\6∉ks/\7∉ks):PB y v6 v7 c ch:=⟨F.len.trans P.hl,F.keep _ _ h.1 P.b1,F.keep _ _ h.2.1 P.b3,F.keep _ _ h.2.2.1 P.b6,F.keep _ _ h.2.2.2 P.b7⟩
theorem PB.fx{x y v6 v7 c ch Lw}(P:PB x v6 v7 c ch)(F:Fx x y Lw)(h:∀q∈Lw,q.1≠3/\q.1≠5/\q.1≠6/\q.1≠7):PB y v6 v7 c ch:=⟨F.len.trans P.hl,(by grind [Fx.keep,PB.b1]),(by grind [Fx.keep,PB.b3]),(by grind [Fx.keep,PB.b6]),by grind [Fx.keep,PB.b7]⟩
section
variable{pl:Nat×Nat×Nat}{x:ae}{a:AV}{f:Nat->AV×AV}{ss:List aNZ}{n u:Nat}
def TTs.ix(T:TTs pl I x a f ss n)(h:u<n){K}(g:∀b,a= .m b n->box x b=V ⟨251,4,U,U,alx f ss n⟩->K (.p b u 0)):rV (cz 4 x a<|iv u) K:=by rcases T.bx with⟨j,_⟩|⟨b,rfl,_,d⟩;omega;have:cz 4 x (.m b n) (iv u)=V (.p b u 0):=(by simp[cz,d,h]);rw[this];exact g b rfl d
def be4{b e z o v}(d:box x b=V ⟨e,z,o,v,alx f ss n⟩)(g:u<n):Iy (V 4) x (.p b u 0)=V (.a [iv (gd ss u).pc,(f u).1,(f u).2,iv (gd ss u).ac]):=by simp only[Iy,iE,d,aPy,aTy g];rfl
theorem a7b{s}(b:s.pc=(gd ss u).pc)(d:s.ac=(gd ss u).ac):alx f (ss.set u s) n=alx f ss n:=by grind [alx,gdS]
theorem bfD(T:TTs pl I x a f ss n)(z:u<n)(O:n<=L ss){m:Nat}(N:m<L (gd ss u).I9){v:Int}{K:be}(H:pl.1≠pl.2.1/\pl.1≠pl.2.2)(D:∀p y,TTs pl I y a f (ss.set u {gd ss u with I9:=(gd ss u).I9.set m v}) n->Fx x y (aA (f u).1)->K p y):rV (cz 1 x (f u).1<|iv m) λp=>sV (aK 1 x p<|iv v) (K p):=by refine ixG (T.g1 u z) (by grind [dJ]) λd m1 j t=>?_;rw[bh];have G:=T.p1 u z d (by grind [aA]);refine aQz (x:=iv v) (r:=[iv<|gd (gd ss u).I9 m]) t (by grind [bT]) (by simp) rfl rfl rfl λy F o=>?_;have l:((gd ss u).I9.map ci++m1).set m ([iv<|gd (gd ss u).I9 m].set 0<|nrm<|eR x<|iv v)=((gd ss u).I9.set m v).map ci++m1:=(by rw[List.set_append_left _ _ (by grind),vB];rfl);rw[l] at o;have E:aA (f u).1=[d]:=(by rw[j];rfl);have w:∀k,k<n->k≠u->∀q∈aA (f k).1,q∉[d]:=(by grind [TTs.d1]);refine D _ y ⟨T.bx.elim .inl λ⟨b,B,C,M⟩=> .inr ⟨b,B,C,?_⟩,λk g=>?_,λk g=>?_,T.p1,T.p2,T.d1,T.d2⟩ (by simp_all);grind [a7b,Fx.keep];rw[gdS];by_cases e:u=k;subst e;rw[sz ⟨rfl,by omega⟩];exact .inr ⟨d,m1,by rw[j];simp,o⟩;rw[r9<|λh=>e h.1];exact(T.g1 k g).fx F<|w k g<|Sa e;rw[gdS];have A:=(T.g2 k g).fx F (by grind [TTs.p2]);grind
theorem bfE(T:TTs pl I x a f ss n)(D:u<n)(R:n<=L ss){m:Nat}(B:m<L (gd ss u).NA){l t o K}(O:pl.2.1≠pl.1/\pl.2.1≠pl.2.2)(H:∀y,TTs pl I y a f (ss.set u {gd ss u with NA:=(gd ss u).NA.set m l}) n->Fx x y (aA (f u).2)->K y):rV (cz 1 x (f u).2<|iv m) λp=>sV (aK 1 x p<|.l (l.map ci) t o) K:=by have v:sA x 38 1 (f u).2 ((gd ss u).NA.map cl):=T.g2 u D;refine ixG v (by grind [dJ]) λd m1 j A=>?_;rw[bh];have N:=T.p2 u D d (by grind [aA]);refine aQz (x:= .l (l.map ci) t o) (r:=[sl ci<|gd (gd ss u).NA m]) A (by rw[xe (by grind),bkb,eC B,bT B];rfl) (by simp) rfl rfl rfl λy F z=>?_;have w:((gd ss u).NA.map cl++m1).set m ([sl ci<|gd (gd ss u).NA m].set 0<|nrm<|eR x<|.l (l.map ci) t o)=((gd ss u).NA.set m l).map cl++m1:=(by rw[List.set_append_left _ _ (by grind),vB];rfl);rw[w] at z;have M:aA (f u).2=[d]:=(by rw[j];rfl);have C:∀k,k<n->k≠u->∀q∈aA (f k).2,q∉[d]:=(by grind [TTs.d2]);refine H y ⟨T.bx.elim .inl λ⟨b,E,G,P⟩=> .inr ⟨b,E,G,?_⟩,λk g=>?_,λk g=>?_,T.p1,T.p2,T.d1,T.d2⟩ (by simp_all);grind [a7b,Fx.keep];rw[gdS];have g1:=(T.g1 k g).fx F (by grind [TTs.p1]);grind;rw[gdS];by_cases e:u=k;subst e;rw[sz ⟨rfl,by omega⟩];show sA y 38 1 (f u).2<|((gd ss u).NA.set m l).map cl;exact .inr ⟨d,m1,by rw[j];simp,z⟩;rw[r9<|λh=>e h.1];exact(T.g2 k g).fx F<|C k g<|Sa e
theorem bfC{b r s y}(T:TTs pl I y (.m b<|L ss) f ss<|L ss){e}{z:Nat}{o}(B:u<L ss)(t:box x b=V ⟨e,z,o,U,(alx f ss<|L ss).set u r⟩)(w:r.map (rS x)=s.c)(v:∀k,k<L ss->rS x (f k).1=sl ci (gd ss k).I9/\rS x (f k).2=sl cl (gd ss k).NA):fz x (.m b<|L ss)=sl aNZ.c (ss.set u s):=by have h:((alx f ss<|L ss).set u r).map (·.map (rS x))=(ss.set u s).map aNZ.c:=(by rw[vB,vB,w];congr 1;refine aqI λk=>?_;rcases jj k (L ss) with d|d;rw[bkb,aTy d,bkb,eC d];obtain⟨l,p⟩:=v k d;simp only[df,ji,mU,l,p,bT d];rfl;grind [aQ8]);have e:((alx f ss<|L ss).set u r).take (L ss)=(alx f ss<|L ss).set u r:=oB (by grind [aQ8]);have q:(((alx f ss<|L ss).set u r).all λr=>r.all λc=>eN<|rS x c)=U:=(by rw[dV];intro C j;rw[dV];intro c A;have g:=CA (f:=(·.map (rS x))) j;rw[h] at g;obtain⟨s,_,hs⟩:=dN.1 g;grind [CA,aNZ.c,eN,sl]);simp only[Ab.fz,dQ,t,e,q,a7g,h];rw[r9<|by decide];rfl
theorem idb{b q:Id}{k}(h:q∈[b])(d:b.1=k):q.1=k:=by simp_all
end
def aQc(t b:aNZ):Prop:=L t.I9=L b.I9/\L t.NA=L b.NA/\(∀l∈t.NA,Tn l)/\t.pc=b.pc/\t.ac=b.ac
structure SK(ch:TCh)(cc fu:AV)(v15 u:Nat)(s:aNV):Prop where
 pc:∀q∈aA cc,q.1=11
 pf:∀q∈aA fu,q.1=15/\q≠(15,v15)
 hu:u<L s.ay
 hch:ch.aq=u
structure SM(x:ae)(v6 v7 v9 v14 v15:Nat)(c:aOw)(ch:TCh)(S:aW)(fl:Bool×Bool×Bool×Bool×Bool×Bool)(cc fu ta:AV)(f:Nat->AV×AV)(u:Nat)(s:aNV)(e:aP)(i:awG):Prop where
 P:PB x v6 v7 c ch
 b4:box x (4,1)=V ⟨124,7,U,U,[eD S fl++[cc,fu,ta]]⟩
 b9:∃v:Int,box x (9,v9)=V ⟨62,7,U,U,[({e with value:=v}:aP).c]⟩
 b14:box x (14,v14)=V ⟨251,4,U,U,[[iv (gd s.ay u).pc,(f u).1,(f u).2,iv (gd s.ay u).ac]]⟩
 b15:box x (15,v15)=V ⟨264,6,U,U,[i.c]⟩
 gc:∃l:d0,L l=L s.cells/\sA x 2 1 cc (l.map ci)
 gf:∃l:d0,L l=L s.bU/\sA x 2 1 fu (l.map ci)
 tt:∃ss:List aNZ,L ss=L s.ay/\TTs (12,31,33) I x ta f ss (L ss)/\∀k,k<L ss->aQc (gd ss k) (gd s.ay k)
section
variable{x:ae}{v6 v7 v9 v14 v15:Nat}{c:aOw}{ch:TCh}{S:aW}{fl:Bool×Bool×Bool×Bool×Bool×Bool}{cc fu ta:AV}{f:Nat->AV×AV}{u:Nat}{s:aNV}{e:aP}{i:awG}{K:cC}{K2:be}{KS:ae->Prop}
theorem SM.to(M:SM x v6 v7 v9 v14 v15 c ch S fl cc fu ta f u s e i){y Lw}(F:Fx x y Lw)(h:∀q∈Lw,q.1≠3/\q.1≠4/\q.1≠5/\q.1≠6/\q.1≠7/\q.1≠14/\q≠(15,v15))(b:∃v:Int,box y (9,v9)=V ⟨62,7,U,U,[({e with value:=v}:aP).c]⟩)(d:∃l:d0,L l=L s.cells/\sA y 2 1 cc (l.map ci))(g:∃l:d0,L l=L s.bU/\sA y 2 1 fu (l.map ci))(j:∃ss:List aNZ,L ss=L s.ay/\TTs (12,31,33) I y ta f ss (L ss)/\∀k,k<L ss->aQc (gd ss k) (gd s.ay k)):SM y v6 v7 v9 v14 v15 c ch S fl cc fu ta f u s e i:=⟨M.P.fx F (by grind),(by grind [Fx.keep,SM.b4]),b,(by grind [Fx.keep,SM.b14]),(by grind [Fx.keep,SM.b15]),d,g,j⟩
theorem SM.keep9(M:SM x v6 v7 v9 v14 v15 c ch S fl cc fu ta f u s e i){y Lw}(F:Fx x y Lw)(h:∀q∈Lw,q.1≠9):∃v:Int,box y (9,v9)=V ⟨62,7,U,U,[({e with value:=v}:aP).c]⟩:=by grind [SM.b9,Fx.keep]
theorem SM.keepC(M:SM x v6 v7 v9 v14 v15 c ch S fl cc fu ta f u s e i){y Lw}(F:Fx x y Lw)(h:∀q∈aA cc,q∉Lw):∃l:d0,L l=L s.cells/\sA y 2 1 cc (l.map ci):=by grind [SM.gc,sA.fx]
theorem SM.keepF(M:SM x v6 v7 v9 v14 v15 c ch S fl cc fu ta f u s e i){y Lw}(F:Fx x y Lw)(h:∀q∈aA fu,q∉Lw):∃l:d0,L l=L s.bU/\sA y 2 1 fu (l.map ci):=by grind [SM.gf,sA.fx]
theorem SM.keepT(M:SM x v6 v7 v9 v14 v15 c ch S fl cc fu ta f u s e i){y Lw}(F:Fx x y Lw)(h:∀q∈Lw,q.1≠12/\q.1≠31/\q.1≠33):∃ss:List aNZ,L ss=L s.ay/\TTs (12,31,33) I y ta f ss (L ss)/\∀k,k<L ss->aQc (gd ss k) (gd s.ay k):=by grind [SM.tt,TTs.fx]
theorem aX3(M:SM x v6 v7 v9 v14 v15 c ch S fl cc fu ta f u s e i)(C:SK ch cc fu v15 u s){v}(h:∀y,SM y v6 v7 v9 v14 v15 c ch S fl cc fu ta f u s e i->KS y):sV (aK 1 x (.p (9,v9) 0 3)<|iv v) KS:=by obtain⟨l,j⟩:=M.b9;refine stC j rfl (by simp[aP.c]) λy F b=>h y (M.to F (by simp) ⟨v,b⟩ (M.keepC F λq d g=>?_) (M.keepF F λq d g=>?_)<|M.keepT F<|by simp);grind [SK.pc];have k:=(C.pf q d).1;simp_all
theorem aTu{e a}{l:d0}(g:sA x e 1 a<|l.map ci){o:Int}(b:aF (L l) o)(d:∀v:Int,K<|iv v):rV (cz 1 x a<|iv o) λp=>rV (Iy J x p) K:=by obtain⟨m,rfl⟩:∃m:Nat,o=m:=⟨o.toNat,by have:=b.1;omega⟩;have h:m<L l:=(by have:=b.2;omega);refine(SlR.of g).ix1 (c:=iv<|gd l m) (by grind [bT]) (K:=λ_=>K) λ_ _=>d _
theorem bfe(M:SM x v6 v7 v9 v14 v15 c ch S fl cc fu ta f u s e i){o:Int}(h:aF (L s.cells) o)(b:∀v:Int,K<|iv v):rV (cz 1 x cc<|iv o) λp=>rV (Iy J x p) K:=by obtain⟨l,d,g⟩:=M.gc;exact aTu g (by simp_all) b
theorem bff(M:SM x v6 v7 v9 v14 v15 c ch S fl cc fu ta f u s e i){o:Int}(h:aF (L s.bU) o)(b:∀v:Int,K<|iv v):rV (cz 1 x fu<|iv o) λp=>rV (Iy J x p) K:=by obtain⟨l,d,g⟩:=M.gf;exact aTu g (by simp_all) b
def aX2(M:SM x v6 v7 v9 v14 v15 c ch S fl cc fu ta f u s e i)(C:SK ch cc fu v15 u s){o:Int}(j:aF (L (gd s.ay u).I9) o)(h:∀v:Int,K<|iv v):rV (cz 1 x (f u).1<|iv o) λp=>rV (Iy J x p) K:=by obtain⟨ss,d,T,g⟩:=M.tt;have b:u<L ss:=(by rw[d];exact C.hu);exact aTu (T.g1 u b) (by rw[(g u b).1];exact j) h
theorem aR5{e a}{l:d0}(g:sA x e 1 a<|l.map ci){o v:Int}(j:aF (L l) o)(k:∀p y,Fx x y (aA a)->sA y e 1 a ((l.set o.toNat v).map ci)->K2 p y):rV (cz 1 x a<|iv o) λp=>sV (aK 1 x p<|iv v) (K2 p):=by refine ixG g (by grind) λb m q t=>?_;have w:o.toNat<L l:=(by have:=j.1;have:=j.2;omega);refine aQz (x:=iv v) (r:=[iv<|gd l o.toNat]) t (by grind [bT]) (by simp) rfl rfl rfl λy F h=>?_;have d:(l.map ci++m).set o.toNat ([iv<|gd l o.toNat].set 0<|nrm<|eR x<|iv v)=(l.set o.toNat v).map ci++m:=(by rw[List.set_append_left _ _ (by grind),vB];rfl);rw[d] at h;exact k _ y (by grind [aA]) (.inr ⟨b,m,by rw[q];simp,h⟩)
theorem bfg(M:SM x v6 v7 v9 v14 v15 c ch S fl cc fu ta f u s e i)(C:SK ch cc fu v15 u s){o v:Int}(m:aF (L s.cells) o)(h:∀p y,SM y v6 v7 v9 v14 v15 c ch S fl cc fu ta f u s e i->K2 p y):rV (cz 1 x cc<|iv o) λp=>sV (aK 1 x p<|iv v) (K2 p):=by obtain⟨l,d,g⟩:=M.gc;refine aR5 g (by simp_all) λp y F k=>h p y (M.to F (λq b=>?_) (M.keep9 F λq b=>?_) (by grind) (M.keepF F λq b j=>?_)<|M.keepT F λq b=>?_);grind [SK.pc];grind [SK.pc];have d:=(C.pf q b).1;grind [SK.pc];grind [SK.pc]
theorem bfh(M:SM x v6 v7 v9 v14 v15 c ch S fl cc fu ta f u s e i)(C:SK ch cc fu v15 u s){o v:Int}(m:aF (L s.bU) o)(j:∀p y,SM y v6 v7 v9 v14 v15 c ch S fl cc fu ta f u s e i->K2 p y):rV (cz 1 x fu<|iv o) λp=>sV (aK 1 x p<|iv v) (K2 p):=by obtain⟨l,h,g⟩:=M.gf;refine aR5 g (by simp_all) λp y F k=>j p y (M.to F (λq b=>?_) (M.keep9 F λq b=>?_) (M.keepC F λq b d=>?_) (by grind)<|M.keepT F λq b=>?_);grind [SK.pf];have:=(C.pf q b).1;omega;have h:=(C.pf q d).1;grind [SK.pc];have:=(C.pf q b).1;omega
theorem a7e{ss t}(b:∀k,k<L ss->aQc (gd ss k) (gd s.ay k))(d:aQc t<|gd s.ay u):∀k,k<L (ss.set u t)->aQc (gd (ss.set u t) k) (gd s.ay k):=(by grind [gdS])
theorem bfi(M:SM x v6 v7 v9 v14 v15 c ch S fl cc fu ta f u s e i)(C:SK ch cc fu v15 u s){o v:Int}(l:aF (L (gd s.ay u).I9) o)(r:∀p y,SM y v6 v7 v9 v14 v15 c ch S fl cc fu ta f u s e i->K2 p y):rV (cz 1 x (f u).1<|iv o) λp=>sV (aK 1 x p<|iv v) (K2 p):=by obtain⟨ss,j,T,k⟩:=M.tt;have b:u<L ss:=(by rw[j];exact C.hu);obtain⟨m,rfl⟩:∃m:Nat,o=m:=⟨o.toNat,by have:=l.1;omega⟩;have g:=k u b;refine bfD T b (dA _) (by rw[g.1];have:=l.2;omega) (by decide) λp y t F=>r p y (M.to F (λq d=>?_) (M.keep9 F λq d=>?_) (M.keepC F λq d h=>?_) (M.keepF F λq d h=>?_) ⟨ss.set u {gd ss u with I9:=(gd ss u).I9.set m v},by grind,by simp_all,a7e k ⟨by simpa using g.1,g.2.1,g.2.2.1,g.2.2.2⟩⟩);have:=T.p1 u b q d;grind;have:=T.p1 u b q d;omega;have j:=T.p1 u b q h;grind [SK.pc];have j:=T.p1 u b q h;have w:=(C.pf q d).1;omega
theorem bfj(M:SM x v6 v7 v9 v14 v15 c ch S fl cc fu ta f u s e i)(C:SK ch cc fu v15 u s){o:Int}{l t b}(E:Tn l)(v:aF (L (gd s.ay u).NA) o)(w:∀y,SM y v6 v7 v9 v14 v15 c ch S fl cc fu ta f u s e i->KS y):rV (cz 1 x (f u).2<|iv o) λp=>sV (aK 1 x p<|.l (l.map ci) t b) KS:=by obtain⟨ss,k,T,r⟩:=M.tt;have d:u<L ss:=(by rw[k];exact C.hu);obtain⟨m,rfl⟩:∃m:Nat,o=m:=⟨o.toNat,by have:=v.1;omega⟩;have h:=r u d;refine bfE T d (dA _) (by rw[h.2.1];have:=v.2;omega) (by decide) λy B F=>w y (M.to F (λq g=>?_) (M.keep9 F λq g=>?_) (M.keepC F λq g j=>?_) (M.keepF F λq g j=>?_) ⟨ss.set u {gd ss u with NA:=(gd ss u).NA.set m l},by grind,by simp_all,a7e r ⟨h.1,by simpa using h.2.1,λz A=>(CC A).elim (h.2.2.1 z) (by simp_all),h.2.2.2⟩⟩);have:=T.p2 u d q g;grind;have:=T.p2 u d q g;simp_all;have k:=T.p2 u d q j;grind [SK.pc];have k:=T.p2 u d q j;have D:=(C.pf q g).1;simp_all
end
section
variable{x:ae}{v6 v7 v9 v14 v15:Nat}{c:aOw}{ch:TCh}{S:aW}{fl:Bool×Bool×Bool×Bool×Bool×Bool}{cc fu ta:AV}{f:Nat->AV×AV}{u:Nat}{s:aNV}{e:aP}{i:awG}{Qq:cC}
structure SB(c:aOw)(s:aNV)(u:Nat):Prop where
 hu:u<L c.ay
 rg:(gd c.ay u).I9<=1000
 il:L (gd c.ay u).big<1000000
 ev:0<=(gd s.ay u).ac/\(gd s.ay u).ac<=900
 rl:L (gd s.ay u).I9<=1000
 tl:L (gd s.ay u).NA<=1000
def aSl(Qq:cC)(S:aW)(s:aNV)(e:aP)(u:Nat):Prop:=∀(cells d:d0) (ss:List aNZ) (v:Int) (b:aNZ),L cells=L s.cells->L d=L s.bU->L ss=L s.ay->(∀k,k<L ss->aQc (gd ss k) (gd s.ay k))->((∀l∈b.NA,Tn l)/\L b.I9<=1000/\L b.NA<=1000/\0<=b.ac/\b.ac<=(gd s.ay u).ac+1)->Qq (.t [.a<|aNV.c ⟨S,cells,d,ss.set u b⟩, .a ({e with value:=v}:aP).c,bv U])
end
section
variable{x:ae}{v6 v7 v9 v14 v15:Nat}{c:aOw}{ch:TCh}{S:aW}{fl:Bool×Bool×Bool×Bool×Bool×Bool}{cc fu ta:AV}{f:Nat->AV×AV}{u:Nat}{s:aNV}{e:aP}{i:awG}{Qq:cC}
def aOf{v}:({e with value:=v}:aP).c=[iv e.aq,iv e.kind,iv e.bF,iv v,iv e.site,sl ci e.dI,sl ci e.ep]:=rfl
end
def aQG.b{s s'}(h:aQG s s'){k:Nat}(d:0<=s.ac/\s.ac<=k):ThB k s':=⟨h.2.1,h.2.2.1,h.1,by rcases h.2.2.2 with e|e<;>omega,by rcases h.2.2.2 with e|e<;>omega⟩
def aXt(c)(s)(ch:TCh)(hp:aPU c/\aOc c/\∃k,k<=900/\StB k s):Ct 187 [.a c.c, .a s.c, .a ch.c] (λr=>∃(s':aNV) (e:aP) (ok:Bool),r= .t [.a s'.c, .a e.c,bv ok]/\(ok=U->EvL e/\∀k,k<=900->StB k s->StB (k+1) s')):=by
 obtain⟨hc,hb,K,hK,hs⟩:=hp
 have eg:=aP4 hc.1
 generalize hQ:(λ(r:AV)=>∃(s':aNV) (e:aP) (ok:Bool),r= .t [.a s'.c, .a e.c,bv ok]/\(ok=U->EvL e/\∀k,k<=900->StB k s->StB (k+1) s'))=Qq
 refine aDq (bhk rfl rfl rfl λs6 W b1 b2 b3 h0=>?_)
 simp only[aVk,qy 8]
 refine I7 W λv6 s7 F7 N7 b6=>?_
 refine I7 (F7.len.trans W) λv7 s8 F8 N8 b7=>?_
 have a6:Fx s6 s8 []:=F7.trans F8
 have P:PB s8 v6 v7 c ch:=⟨a6.len.trans W,a6.kq b1,a6.kq b3,F8.kq b6,b7⟩
 have c2:=a6.kq b2
 have G:∀{x:dM} {y:AV},aN J (y::x)=V y:=λ{x y}=>by cases y<;>rfl
 have hz:bM aOO aon []=V (.a aOO):=rfl
 have cf:bM brx aOG []=V (.a brx):=rfl
 have bp:∀{x:ae},PB x v6 v7 c ch->sV (aK 7 x (.p (6,v6) 0 0)<|.a aOO) λy=>sV (aK 7 y (.p (7,v7) 0 0)<|.a brx) λz=>rV (Iy (V 7) z<|.p (6,v6) 0 0) λa=>rV (Iy (V 7) z<|.p (7,v7) 0 0) λb=>aE (λr=>Qq<|bmL r) z [a,b,bv I]:=λ{x} P=>by
  refine stW P.b6 rfl rfl λy F b=>?_
  refine stW (F.kq P.b7) rfl rfl λz F2 b2=>?_
  rw[aEa (F2.kq b) rfl]
  simp only[aY]
  rw[aEa b2 rfl]
  refine aOH (vs':=[.a<|aNV.c ⟨⟨[],0,[],[]⟩,[],[],[]⟩, .a<|aP.c ⟨0,0,0,0,0,[],[]⟩,bv I]) rfl rfl ?_
  rw[<-hQ];exact⟨_,_,_,rfl,by simp⟩
 simp only[qz 10,qy 12,eS,P.b1,P.b3,c2,TCh.c,H7,G,ar,Fa,aWn]
 refine⟨⟨hc,hb,K,hs⟩,?_⟩
 rintro r ⟨e,ok,rfl,bY,dp⟩
 refine⟨by simp[lo,nA,eB,iR,aOw.c,pz.c,aNV.c,aW.c,sl],?_⟩
 simp only[oJ,pG,aY]
 refine anu P.hl λv9 s9 F9 N9 D=>?_
 have P9:=P.fx F9 (by simp)
 have bS:=F9.kq c2
 cases ok with
 |false=>
  simp only[qz 14,qy 16,eQ,↓iC,hz,cf]
  exact bp P9
 |true=>
 obtain⟨dm,b8,bd⟩:=dp rfl
 have Z:=hs.sy
 simp only[qz 14,qy 20,eT,P9.b1,P9.b3,bS,D,TCh.c,H7,G,ar,aWn,↓iB]
 refine⟨⟨by omega,λl W=>by have:=Z.rd l W;omega,by have:=Z.lo;omega,by have:=Z.dn;omega,by have:=Z.th;omega⟩,?_⟩
 rintro r ⟨fl,rfl⟩
 rcases bX:jm c.aQ s.bW ch.aq e.kind e.bF with _|_
 ·refine⟨by simp[lo,nA,eB,iR,pz.c,aW.c,sl],?_⟩
  simp only[a5C,oJ,pG,KM,aY]
  refine anu P9.hl λdG dx aD cV bO=>?_
  simp only[qz 22,qy 24,eQ,↓iC,hz,cf]
  exact bp (P9.fx aD<|by simp)
 refine⟨by simp[lo,nA,eB,iR,pz.c,aW.c,sl],?_⟩
 simp only[a7c,oJ,pG,KM,aY]
 obtain⟨dO,f1,f2,f3,f4,f5⟩:=dm
 simp only[jm,bN] at bX
 obtain⟨_,ei,cd,_⟩:=bX
 obtain⟨u,R⟩:∃u:Nat,ch.aq=u:=⟨ch.aq.toNat,by have:=b8.1;omega⟩
 have aL:u<L c.ay:=by have:=b8.2;omega
 have aM:u<L s.ay:=by omega
 obtain⟨p1,p2,p3⟩:=f5 u aL
 obtain⟨r1,r2,r3⟩:=hc.2.2 _<|dB aL
 have a9:=hs.th _<|dB aM
 generalize hi:aQs c s ch.aq=i at bd
 have b5:gd (gd c.ay u).big (gd s.ay u).pc.toNat=i:=by grind [aQs]
 have dr:(gd s.ay u).pc.toNat<L (gd c.ay u).big:=by have:=p1.1;have:=p1.2;omega
 have a5:∀j∈a6F i,aF (L (gd s.ay u).I9) j/\aF (L (gd s.ay u).NA) j:=λj hj=>by
  have:=r3 _ dr j (by rw[b5];exact hj)
  exact⟨⟨this.1,by omega⟩,⟨this.1,by omega⟩⟩
 generalize hS:(cU c.aQ s.bW ch.aq e.kind e.bF ch.arm).1=S
 generalize(cU c.aQ s.bW ch.aq e.kind e.bF ch.arm).2=av
 have B:SB c s u:=⟨aL,by omega,hb.2 _<|dB aL,⟨a9.2.2.2.1,by have:=a9.2.2.2.2;omega⟩,a9.1,a9.2.1⟩
 have cG:aSl Qq S s e u:=λcells az ss v t' q1 q2 q3 q4 q5=>by
  rw[<-hQ]
  refine⟨_,_,_,rfl,λ_=>⟨bY,λk hk ce=>?_⟩⟩
  have cH:=ce.th _<|dB aM
  refine⟨by grind [jX.apply,StB.sy],by simp_all,by simp_all,by grind [StB.tl],λt ht=>?_⟩
  rcases CC ht with ht|rfl
  ·obtain⟨j,hj,rfl⟩:=ou ht
   obtain⟨w1,w2,w3,w4,w5⟩:=q4 j hj
   have ba:=ce.th _ (dB (l:=s.ay) (k:=j)<|by omega)
   rw[bT hj] at w1 w2 w3 w4 w5
   exact⟨by rw[w1];exact ba.1,by rw[w2];exact ba.2.1,w3,by rw[w5];exact ba.2.2.2.1,by rw[w5];have:=ba.2.2.2.2;omega⟩
  ·exact⟨q5.2.1,q5.2.2.1,q5.1,q5.2.2.2.1,by have:=cH.2.2.2.2;omega⟩
 refine anu P9.hl λdG dx aD cV bO=>?_
 have bK:=P9.fx aD (by simp)
 have bo:=aD.kq bS
 have cr:=aD.kq D
 have dw:aN (V 7) s.c=V (.a s.c):=rfl
 simp only[qz 22,eQ,bo,dw,ip,↓iB]
 refine jH rfl (bds bK.hl ⟨by have:=Z.lo;omega,by have:=Z.dn;omega,by have:=Z.th;omega,λl W=>by have:=Z.rd l W;omega⟩ (by omega) (by omega) (by have:=hs.tl;omega) λt ht=>⟨(hs.th t ht).1,(hs.th t ht).2.1,λz hz=>((hs.th t ht).2.2.1 z hz).len⟩) ?_
 rintro r el ⟨a1,a2,a3,cc,fu,ta,f,rfl,_,gc,gf,T,iq,ek,du,na⟩
 refine⟨iq.len,?_⟩
 have cX:=bK.kx iq (by simp)
 have cx:=iq.kq bo
 have ct:=iq.kq cr
 have bt:=iq.kq bO
 simp only[qz 28]
 refine stW cx rfl rfl λem N bQ=>?_
 have cu:=N.kq ct
 have bu:=N.kq bt
 have cY:=cX.fx N (by simp)
 have n4:∀{q:Id},q.1≠4->q∉[((4,1):Id)]:=(by grind)
 have cz:=gc.fx N (by grind)
 have cC:=gf.fx N (by grind)
 have c0:=T.fx N (by simp)
 have es:aN (V 4) (eD S fl)=V (.a<|eD S fl):=rfl
 simp only[qz 30,eS,bu,bQ,es,ip]
 refine cy (y:=4) (cs:=eD S fl) bQ rfl rfl (by simp) λdy aG H=>?_
 have bl:box dy (4,1)=V ⟨124,7,U,U,[eD S fl++[cc,fu,ta]]⟩:=H
 have cv:=aG.kq cu
 have bk:=cY.fx aG (by simp)
 have cA:=cz.fx aG (by grind)
 have cD:=cC.fx aG (by grind)
 have bL:=c0.fx aG (by simp)
 have e4:eD S fl++[cc,fu,ta]=[.l (S.ak.map cg.c) fl.1 fl.2.1,iv S.tx, .l (S.done.map cb) fl.2.2.1 fl.2.2.2.1, .l (S.ay.map aoC.c) fl.2.2.2.2.1 fl.2.2.2.2.2,cc,fu,ta]:=rfl
 have bR:=bl
 rw[e4] at bR
 simp only[qz 32,qy 34,eS,bR,bk.b3,TCh.c,R,G,nM,ip]
 refine bL.ix aM λb eh hb=>?_
 simp only[be4 hb aM,aY]
 refine anu bk.hl λv14 dz ao ef O=>?_
 have a7:=bk.fx ao (by simp)
 have co:=ao.kq bl
 have cw:=ao.kq cv
 have cB:=cA.fx ao (by simp)
 have bq:=cD.fx ao (by simp)
 have c1:=bL.fx ao (by simp)
 have ri:aN (V 6) i.c=V (.a i.c):=rfl
 have ej:∀{j:Nat},(j:Int).toNat=j:=(by omega)
 simp only[qz 36,qy 38,eT,a7.b1,a7.b3,O,TCh.c,R,H7,G,ixv,bh,b5,ri]
 refine⟨dJ aL,p1,I7 a7.hl λv15 d8 ck bI cn=>?_⟩
 refine stW cn rfl rfl λcj cm c3=>?_
 have ab:Fx dz cj []:=(ck.trans cm).mono λq A=>by simp at A;subst A;exact .inr bI.no
 have cZ:=a7.fx ab (by simp)
 simp only[qz 40]
 refine dT (by simp[eL,lb,zt,dC,dK,sl,bcV.c]) ?_
 have bn:=ab.kq cw
 have a8:=ab.kq O
 have ec:e.c=[iv e.aq,iv e.kind,iv e.bF,iv e.value,iv e.site,sl ci e.dI,sl ci e.ep]:=rfl
 have M:SM cj v6 v7 v9 v14 v15 c ch S fl cc fu ta f u s e i:=⟨cZ,ab.kq co,⟨e.value,bn⟩,a8,c3,⟨s.cells,rfl,cB.fx ab<|by simp⟩,⟨s.bU,rfl,bq.fx ab<|by simp⟩,⟨s.ay,rfl,c1.fx ab (by simp),λk hk=>⟨rfl,rfl,(hs.th _<|dB hk).2.2.1,rfl,rfl⟩⟩⟩
 have C:SK ch cc fu v15 u s:=⟨(by grind),λq A=>⟨(du q A).1,λeq=>?_⟩,aM,R⟩
 ·simp only[eS,a8,bn,G,ip]
  refine aX3 M C λx M=>?_
  have hA:=λh=>a5 _<|bd.1 h
  have hB:=λh=>(a5 _<|bd.2.1 h).1
  have hC:=λh=>(a5 _<|bd.2.2 h).1
  have hO:e.kind=3\/e.kind=4->aF (L s.cells) e.bF:=λh=>by rw[f2];exact qP cd (by omega) (by omega)
  have hF:e.kind=22\/e.kind=23->aF (L s.bU) e.bF:=λh=>by rw[f3];exact oU cd (by omega) (by omega)
  simp only[qz 42]
  refine bpl (λo=>∀{x:ae} {nx:Int},SM x v6 v7 v9 v14 v15 c ch S fl cc fu ta f u s e i->o [iv nx] x) (λ{x nx} M=>?_) λo j=>?_
  ·obtain⟨v,D⟩:=M.b9
   simp only[qz 93,aI]
   refine bpl (λo=>∀{x:ae},SM x v6 v7 v9 v14 v15 c ch S fl cc fu ta f u s e i->o [] x) (λ{x} M=>?_) λed j=>?_
   ·have hw:dq.wrap ((gd s.ay u).ac+1)=(gd s.ay u).ac+1:=eM (by have:=B.ev;omega) (by have:=B.ev;omega)
    simp only[qz 183,eS,M.b14,G,nM,ip,hw]
    refine stC M.b14 rfl (by simp) λx1 F1 b1=>?_
    simp only[List.set_cons_succ,RY] at b1
    simp only[qz 66,au,eS,b1]
    refine stC b1 rfl (by simp) λx2 F2 b2=>?_
    simp only[RY] at b2
    have F:Fx x x2 [(14,v14)]:=(F1.trans F2).mono λq A=> .inl (by simpa using A)
    have P:=M.P.fx F (by simp)
    have X:=F.kq M.b4
    obtain⟨v,D⟩:=M.keep9 F (by simp)
    obtain⟨cells,dj,gc⟩:=M.keepC F λq A g=>by have:=C.pc q A;simp at g;subst g;simp at this
    obtain⟨az,dl,gf⟩:=M.keepF F λq A g=>by have:=(C.pf q A).1;simp at g;subst g;simp at this
    obtain⟨ss,h1,T,h3⟩:=M.keepT F (by simp)
    have R:u<L ss:=by rw[h1];exact C.hu
    have S3:=h3 u R
    simp only[qz 68]
    refine bpl (λo=>∀{x:ae} {r:dM} {t':aNZ},PB x v6 v7 c ch->box x (4,1)=V ⟨124,7,U,U,[eD S fl++[cc,fu,ta]]⟩->box x (9,v9)=V ⟨62,7,U,U,[({e with value:=v}:aP).c]⟩->box x (14,v14)=V ⟨251,4,U,U,[r]⟩->sA x 2 1 cc (cells.map ci)->sA x 2 1 fu (az.map ci)->TTs (12,31,33) I x ta f ss (L ss)->(r=t'.c\/∃pc ev,r=[iv pc,(f u).1,(f u).2,iv ev]/\t'=⟨pc,(gd ss u).I9,(gd ss u).NA,ev⟩)->((∀l∈t'.NA,Tn l)/\L t'.I9<=1000/\L t'.NA<=1000/\0<=t'.ac/\t'.ac<=(gd s.ay u).ac+1)->o [] x) (λ{x r t'} P X D H gc gf T hr ht=>?_) λee o=>?_
    ·have k4:∀{a b c d:AV},aN (V 4) [a,b,c,d]=V (.a [a,b,c,d]):=rfl
     have br:=C.hch
     have bb:=C.pc
     have bc:=λq A=>(C.pf q A).1
     have dt:∃y0 y1 y2 y3,r=[y0,y1,y2,y3]:=by
      rcases hr with rfl|⟨_,_,rfl,_⟩<;>exact⟨_,_,_,_,rfl⟩
     obtain⟨y0,y1,y2,y3,rfl⟩:=dt
     have dk:eY (.a [y0,y1,y2,y3])=V [y0,y1,y2,y3]:=rfl
     simp only[qz 213,eS,X,P.b3,H,eD,zn,dW,TCh.c,G,k4,nM,ip,br]
     refine T.ix R λb ha hb=>?_
     subst ha
     have pb:b.1=33:=by rcases T.bx with⟨h,_⟩|⟨b',h,h2,_⟩;omega;simp only[AV.m.injEq] at h;rw[h.1];exact h2
     refine Bp hb (aTy R) dk rfl (by simp) λs1 F1 b1=>?_
     have n1:∀{q:Id},q.1≠33->q∉[b]:=λh e=>h<|idb e pb
     have P1:=P.fx F1 (λq A=>by have:=idb A pb;omega)
     have af:=F1.keep _ _ (n1<|by simp) X
     have ag:=F1.keep _ _ (n1<|by simp) D
     have c9:=gc.fx F1 λq A=>n1 (by rw[bb q A];decide)
     have da:=gf.fx F1 λq A=>n1 (by rw[bc q A];decide)
     have e1:aN (V 7) (eD S fl++[cc,fu, .m b<|L ss])=V (.a<|eD S fl++[cc,fu, .m b<|L ss]):=rfl
     have e2:aN (V 7) ({e with value:=v}:aP).c=V (.a ({e with value:=v}:aP).c):=rfl
     simp only[qz 74,qy 76,eQ,af,ag,ip,e1,e2]
     refine stW P1.b6 rfl rfl λs2 F2 b2=>?_
     have c5:=F2.kq P1.b7
     refine stW c5 rfl rfl λs3 F3 b3=>?_
     simp only[qz 78]
     have ca:9∉zt (.a<|eD S fl++[cc,fu, .m b<|L ss]):=λh=>by
      have e:zt (.a<|eD S fl++[cc,fu, .m b<|L ss])=dK cc++(dK fu++[b.1]):=by simp[zt,dC,eD,dK]
      rw[e] at h
      simp only[dF,cE] at h
      rcases h with h|h|h
      ·obtain⟨q,A,h⟩:=aQu gc h;have:=bb q A;omega
      ·obtain⟨q,A,h⟩:=aQu gf h;have:=bc q A;omega
      ·omega
     refine dT ?_ ?_
     ·generalize AV.a (eD S fl++[cc,fu, .m b<|L ss])=b0 at ca⊢
      simp[eL,lb,aTn,ca]
     have bm:=F3.kq b2
     simp only[eQ,b3,bm,ip,e1,e2]
     have N:Fx s1 s3 [(6,v6),(7,v7)]:=F2.trans F3
     have aO:∀{q:Id},q.1≠6->q.1≠7->q∉[((6,v6):Id),(7,v7)]:=λh h' e=>by simp at e;rcases e with rfl|rfl;exact h rfl;exact h' rfl
     have hT:fz s3 (.m b<|L ss)=sl aNZ.c (ss.set u t'):=by
      have g1:∀k,k<L ss->rS s3 (f k).1=sl ci (gd ss k).I9/\rS s3 (f k).2=sl cl (gd ss k).NA:=λk hk=>
       ⟨aWh<|((T.g1 k hk).fx F1 λq A=>n1<|by rw[T.p1 k hk q A];decide).fx N λq A=>aO (by rw[T.p1 k hk q A];decide)<|by rw[T.p1 k hk q A];decide,(((T.g2 k hk).fx F1 λq A=>n1<|by rw[T.p2 k hk q A];decide).fx N λq A=>aO (by rw[T.p2 k hk q A];decide)<|by rw[T.p2 k hk q A];decide).fr⟩
      refine bfC T R (N.keep _ _ (aO (by rw[pb];decide)<|by rw[pb];decide) b1) ?_ g1
      simp only[CE,dW,nM,List.drop_nil,cL]
      rcases hr with h|⟨pc,ev,h,rfl⟩
      ·rw[h];rfl
      ·rw[h]
       simp only[ji,mU,(g1 u R).1,(g1 u R).2]
       rfl
     have x4:=aBr (c9.fx N λq A=>aO (by rw[bb q A];decide)<|by rw[bb q A];decide)
     have x5:=aBr (da.fx N λq A=>aO (by rw[bc q A];decide)<|by rw[bc q A];decide)
     refine aOH (vs':=[.a<|aNV.c ⟨S,cells,az,ss.set u t'⟩, .a ({e with value:=v}:aP).c,bv U]) ?_ (by simp[iX,aNV.c,aP.c,aW.c,eN,sl])<|cG cells az ss v t' dj dl h1 h3 ht
     simp only[ji,mU,fzT,eD,x4,x5,hT,bcz,aWt,zn,dW]
     rfl
    have bY:=B.ev
    have bV:=o P X D b2 gc gf T (.inr ⟨nx,_,rfl,rfl⟩) ⟨S3.2.2.1,by rw[S3.1];exact B.rl,by rw[S3.2.1];exact B.tl,by simp only;omega,by simp only;omega⟩
    have hb:=B.hu
    have k4:∀{a b c d:AV},aN (V 4) [a,b,c,d]=V (.a [a,b,c,d]):=rfl
    have ke:({e with value:=v}:aP).c=[iv e.aq,iv e.kind,iv e.bF,iv v,iv e.site,sl ci e.dI,sl ci e.ep]:=rfl
    have kc:aN (V 2) (gd c.ay u).c=V (.a (gd c.ay u).c):=rfl
    rcases q1:Q (e.kind≠16) with _|_
    ·simp only[qz 215,eS,D,ke,G,nM,ip,q1,↓jN,bcW,↓iB]
     exact bV
    ·rcases q2:Q (e.kind≠2) with _|_
     ·simp only[qz 215,eS,D,ke,G,nM,ip,q1,q2,↓jA,↓iB]
      exact bV
     ·simp only[qz 215,eT,D,ke,P.b1,P.b3,b2,TCh.c,C.hch,H7,G,k4,kc,ixv,bh,q1,q2,↓jA,↓iC]
      refine⟨dJ hb,?_⟩
      refine baY (s:=⟨nx,(gd ss u).I9,(gd ss u).NA,(gd s.ay u).ac+1⟩) P.hl (.of (T.g1 u R)) (.of (e:=38)<|T.g2 u R) (λq A=>by have:=T.p1 u R q A;simp at this;omega) B.rg B.il (by have:=B.rl;simp only;have:=S3.1;omega) (by have:=B.tl;simp only;have:=S3.2.1;omega) S3.2.2.1 λok s' x3 h' F3=>?_
      have bm:=F3.kq b2
      simp only[qz 70,oJ,pG,aY]
      refine stW bm rfl rfl λx4 F4 c4=>?_
      simp only[qz 72]
      refine dT (by simp[eL,lb,zt,dC,dK,aNZ.c,sl]) ?_
      have ap:Fx x2 x4 [(14,v14)]:=(F3.trans F4).mono λq A=> .inl (by simpa using A)
      refine o (P.fx ap<|by simp) (ap.kq X) (ap.kq D) c4 (gc.fx ap λq A g=>?_) (gf.fx ap λq A g=>?_) (T.fx ap<|by simp) (.inl rfl) ⟨h'.1,h'.2.1,h'.2.2.1,?_,?_⟩
      ·have:=C.pc q A;simp at g;subst g;simp at this
      ·have:=(C.pf q A).1;simp at g;subst g;simp at this
      ·rcases h'.2.2.2 with e|e<;>(try simp only at e)<;>omega
      ·rcases h'.2.2.2 with e|e<;>(try simp only at e)<;>omega
   rcases q1:Q (e.kind=3) with _|_<;>rcases q2:Q (e.kind=23) with _|_<;>simp only[qz 185,eS,D,aOf,M.b14,M.b15,H7,G,q1,q2,↓jA,↓jN,aRV,↓iC,↓iB,wY]
   ·exact j M
   all_goals
    obtain⟨h1,h2⟩:=hA (by simp only[aBY,aNK] at q1 q2;omega)
    refine bfi M C h1 λ_ y E=>?_
    have hb:aX bH 1 y [(0,iv (gd s.ay u).ac)]=V (.l ([(gd s.ay u).ac].map ci) U U,y):=iz
    simp only[qz 60,eS,E.b14,E.b15,H7,G,hb,qz 62,qy 64]
    exact bfj E C (Tn.one ⟨B.ev.1,by have:=B.ev.2;omega⟩) h2 λz M2=>j M2
  obtain⟨v,D⟩:=M.b9
  have X:=M.b4
  rw[e4] at X
  have H:=M.b14
  have O:=M.b15
  have val:∀{w:Int} {K:ae->Prop},(∀y,SM y v6 v7 v9 v14 v15 c ch S fl cc fu ta f u s e i->K y)->sV (aK 1 x (.p (9,v9) 0 3)<|iv w) K:=λh=>aX3 M C h
  simp only[qz 95,eS,D,aOf,H7,G]
  refine bsf (λo=>o [bv U]/\o [bv I]) ⟨?_,?_⟩ λeb h=>by
   rcases q1:Q (e.kind=1) with _|_<;>rcases q2:Q (e.kind=16) with _|_<;>rcases q3:Q (e.kind=2) with _|_<;>simp only[qz 107,eQ,q1,q2,q3,↓iC,↓iB]
   all_goals first|exact h.2|exact h.1
  ·simp only[qz 105,qy 44,qy 46,au,aI]
   simp only[eS,H,H7,G,↓iC]
   exact j M
  simp only[qz 105,qy 44,qy 46,au,aI,↓iB]
  rcases q4:Q (e.kind=3) with _|_
  rotate_left
  ·simp only[eS,D,aOf,X,H7,G,↓iC,q4]
   exact bfe M (hO<|.inl<|aNQ q4) λw=>val λy E=>j E
  rcases q5:Q (e.kind=23) with _|_
  rotate_left
  ·simp only[eS,D,aOf,X,H7,G,↓iC,↓iB,q4,q5]
   exact bff M (hF<|.inr<|aNQ q5) λw=>val λy E=>j E
  rcases q6:Q (e.kind=4) with _|_
  rotate_left
  ·simp only[eS,D,aOf,H,O,H7,G,↓iC,↓iB,q4,q5,q6]
   refine aX2 M C (hB<|.inl<|aNQ q6) λw=>val λy E=>?_
   obtain⟨v1,ag⟩:=E.b9
   have af:=E.b4
   rw[e4] at af
   simp only[qz 48,qy 50,eS,ag,aOf,af,G,nM,ip]
   exact bfg E C (hO<|.inr<|aNQ q6) λ_ y M2=>j M2
  rcases q7:Q (e.kind=22) with _|_
  rotate_left
  ·simp only[eS,D,aOf,H,O,H7,G,↓iC,↓iB,q4,q5,q6,q7]
   refine aX2 M C (hB<|.inr<|aNQ q7) λw=>val λy E=>?_
   obtain⟨v1,ag⟩:=E.b9
   have af:=E.b4
   rw[e4] at af
   simp only[qz 52,qy 54,eS,ag,aOf,af,G,nM,ip]
   exact bfh E C (hF<|.inl<|aNQ q7) λ_ y M2=>j M2
  rcases q8:Q (e.kind=5) with _|_
  ·simp only[eQ,↓iB,q4,q5,q6,q7,q8]
   exact j M
  simp only[eS,D,aOf,↓iC,↓iB,q4,q5,q6,q7,q8]
  refine val λy E=>?_
  obtain⟨v1,ag⟩:=E.b9
  simp only[qz 56,eS,E.b14,E.b15,H7,G]
  refine aX2 E C (hC<|aNQ q8) λw=>?_
  simp only[eQ,ag]
  refine⟨λ_=>aX3 E C λz M2=>?_,λ_=>j E⟩
  simp only[qz 58,eS,M2.b15,H7]
  exact j M2
 ·obtain⟨x,hx⟩:=aTi bq q A
  subst eq
  exact bI.no x hx
def aUk:FT:=vn aXt
def bcb:=zZ aUk aXt (j:=by simp+contextual only[ij,ijv])
def a7H:dO:=(187,aUk)::aYe
def a7q:eJ a7H:=vl (By aXt)<|a7p
def a6s:=ai @bcb<|@aWn
section
attribute[local irreducible] aX
def a9N:=kW 11 [(3,([2,10],[3,4,5,9])),(6,([2],[3,4,5,9,10]))]
def bhm{c0 b c d}:=yB2 129 7 4 124 7 5 a7q func120 a9N c0 b [.a c0, .a b,c,d]
end
def bcu{Y a cs c bA e z}(g:sA Y e z a bA)(h:cs.map (lz Y)=c):aOo Y (.t [a, .a cs])= .t [.l bA I I, .a c]:=by have f:nrm (eR Y a)= .l bA I I:=(by rw[<-aOb g];rcases g with⟨_,rfl⟩|⟨b,m,rfl,d⟩;rfl;simp[eR,gi,d,nrm,lz]);have i:nrm (eR Y<|.a cs)= .a (cs.map<|lz Y):=(by simp only[eR,nrm,vA];rfl);grind [aOo]
def bdt{Y c s f}(Z:L Y=4096)(hc:aPU c)(hb:aOc c)(hs:StB 0 s)(hn:L f<=100):∃r Y1,((∃(l:List aP) (s':aNV),r= .t [sl aP.c l, .a s'.c]/\L l<=100/\∀e∈l,EvL e)/\Fx Y Y1 [])/\cZ aS GG 120 [.a c.c, .a s.c, .l [] U U,sl TCh.c f] Y r Y1:=by generalize hQ:(λ(r:AV) (y:ae)=>(∃(l:List aP) (s':aNV),aOo y r= .t [sl aP.c l, .a s'.c]/\L l<=100/\∀e∈l,EvL e)/\Fx Y (kills y<|aNW r) [])=Qq;refine aQR (R:=Qq) ?_ (by grind);refine bhm Z rfl rfl λs4 v4 v5 K4 bk bl bm b4 b5=>?_;have W:=K4.fx [];simp only[qy 6];refine I7 (W.len.trans Z) λv9 s6 n N6 b9=>?_;have ag:Fx Y s6 []:=W.trans n;have n9:=(N6.old W).no;have rc:aN (V 7) c.c=V (.a c.c):=rfl;have N:∀{s:aNV},aN (V 7) s.c=V (.a s.c):=rfl;have re:∀{s:aP},aN (V 7) s.c=V (.a s.c):=rfl;have aJ:∀{s:TCh},aN (V 2) s.c=V (.a s.c):=rfl;have ay:∀{x:ae} {j:Int} {K:cC},rV (cz 2 x (sl TCh.c f)<|iv j) K=(aF (L f) j/\K (.q<|TCh.c<|gd f j.toNat)):=aBz λ_=>rfl;refine jD (α:=AV) (λa i=>[a,iv i]) 1 (L f) (λk a x=>Fx Y x []/\box x (4,v4)=V ⟨129,7,U,U,[c.c]⟩/\(∃s',box x (5,v5)=V ⟨124,7,U,U,[s'.c]⟩/\StB k s')/\box x (9,v9)=V ⟨124,7,U,U,[aOO]⟩/\∃l:List aP,L l<=k/\(∀e∈l,EvL e)/\sA x 62 7 a (l.map aP.c)/\∀q∈aA a,q.1=41/\∀y,box Y q≠V y) (s0:= .l [] U U) ⟨ag,n.kq b4,(by grind [Fx.keep]),b9,[],by simp,by simp, .inl ⟨rfl,rfl⟩,by simp[aA]⟩ ?_;rintro k a x hk ⟨F,E,⟨s',H,S⟩,M,l,bj,B,g,pa⟩;have C:=F.len.trans Z;have aB:fS x a=V (iv<|L l):=(by rw[g.ln,bJ]);rcases q1:Q ((k:Int)<(L f:Int)) with _|_;simp only[qz 19,qy 22,au,eQ,H,N,q1,↓jN,bcW,↓iB,ip];refine stW M rfl rfl λs7 F7 b7=>?_;simp only[b7,aPy,qh,df,N,aY];have X:=g.fx F7 λq o h=>(by have:=(pa q o).1;simp at h;subst h;simp at this);show Qq (.t [a, .a s'.c]) s7;rw[<-hQ];refine⟨⟨l,s',bcu X rfl,by omega,B⟩,((F.trans F7).trans<|aOp _ _).mono λq o=> .inr ?_⟩;have ei:aNW (.t [a, .a s'.c])=aA a:=(by have:=aQX X;rcases X with⟨_,rfl⟩|⟨b,m,rfl,_⟩<;>simp[aNW,eB,iR,aNV.c,aW.c,sl,aA]);grind;have q2:Q (((L l:Nat):Int)<400)=U:=(by grind);simp only[qz 19,qy 22,au,eQ,aB,q1,q2,↓jA,aRV,↓iC,ip];have P:k<L f:=(by simp_all);refine biR (λd=>∀{w:AV} {y:ae} {s3:aNV} {l':List aP},Fx Y y []->box y (4,v4)=V ⟨129,7,U,U,[c.c]⟩->box y (5,v5)=V ⟨124,7,U,U,[s3.c]⟩->StB (k+1) s3->box y (9,v9)=V ⟨124,7,U,U,[aOO]⟩->L l'<=k+1->(∀e∈l',EvL e)->sA y 62 7 w (l'.map aP.c)->(∀q∈aA w,q.1=41/\∀z,box Y q≠V z)->d [w] y) ?_ λd j6=>?_;intro w y s3 l' F E H hs M h1 h2 g p;simp only[qz 39,au,eQ];exact dR (mk:=λ(a:AV) i=>[a,iv i]) (s:=a) (s':=w) (λ_ _=>rfl) P (by omega) (by grind);simp only[qz 41,eQ,E,H,N,rc,ay,aJ,bh,ar,Fa,a6s,rr,ip];refine⟨dJ P,(by grind),?_⟩;rintro r ⟨s2,e,ok,rfl,aC⟩;refine⟨by simp[lo,nA,eB,iR,aOw.c,pz.c,aNV.c,aW.c,TCh.c,sl],?_⟩;simp only[oJ,pG,KM,aY];refine I7 C λbn x1 F1 N1 b1=>?_;simp only[qz 8];refine I7 (F1.len.trans C) λbo x2 F2 N2 b2=>?_;have am:=F2.kq b1;simp only[qz 10];refine stW am rfl rfl λx3 F3 b3=>?_;have an:=F3.kq b2;simp only[qz 12];refine stW an rfl rfl λx4 O ap=>?_;have ao:=O.kq b3;have G:Fx x x4 []:=(((F1.trans F2).trans F3).trans O).mono (by grind [bK.no,bK.old]);simp only[qz 14];refine dT (by simp[ck,eL,lb,Qh,zt,dC,dK,sl,TCh.c,aNV.c,aW.c,aP.c,aOw.c,pz.c]) ?_;have T:=G.kq H;have g4:=g.fx G (by simp);have az:=G.len.trans C;have aK:StB k s'->StB (k+1) s':=λh=>⟨h.sy.mono (by omega),h.ce,h.fu,h.tl,λt ht=>by obtain⟨w1,w2,w3,w4,w5⟩:=h.th t ht;exact⟨w1,w2,w3,w4,by omega⟩⟩;cases ok with|false=>simp only[↓iB];exact j6 (F.trans G) (G.kq E) T (aK S) (G.kq M) (by omega) B g4 pa|true=>obtain⟨he,aD⟩:=aC rfl;simp only[↓iC,eQ,ao,N,ip];refine stW T rfl rfl λx5 v av=>?_;have aq:=v.kq ap;have g5:=g4.fx v λq o h=>(by have:=(pa q o).1;simp at h;subst h;simp at this);have ax:aX bt5 1 x5 [(0, .a e.c)]=V (.l ([e].map aP.c) U U,x5):=ua rfl rfl rfl (by decide) (by simp[aP.c,eN,sl]) (by decide);have u:∀{l:List aP},∀r∈l.map aP.c,L r=7:=qW (by intro _;rfl);simp only[qz 16,qy 18,qy 20,eQ,aq,re,ax,ip];refine apQ g5 (v.len.trans az) u u (by simp) (by simp;omega) λw x6 g6 n P6=>?_;have D:∀{q:Id},q.1≠41->q∉aA a:=(by grind);have A:Fx Y x5 []:=((F.trans G).trans v).mono (by grind);refine j6 (l':=l++[e]) ((A.trans n).mono<|by grind) (n.keep _ _ (D<|by simp)<|v.kq<|G.kq E) (n.keep _ _ (D<|by simp) av) (aD k (by omega) S) (n.keep _ _ (D<|by simp)<|v.kq<|G.kq M) (by simp;omega) (λy hy=>?_) (by grind [bc.p]) λq o=>⟨(P6 q o).2,((P6 q o).1.old A).no⟩;rcases dF.1 hy with h|h;exact B y h;grind
def aYf:dO:=a7H
def a7r:eJ aYf:=a7q
def a6t:=@a6s
section
attribute[local irreducible] aX
def aVj a a1 b R:=(.mk _:NF<|zF GGV aYf ato Tryz.f58 [.u,a1] [a] b<|I3 Tryz.f58 R).p
def bhi{c0:dM}{a1:AV}{R:cC}(l0:L c0=7)(h:∀b:ae,L b=4096->box b (2,1)=V ⟨129,7,U,U,[c0]⟩->(∀k,k≠2->aZ b k=mO)->aVj (.p (2,1) 0 0) a1 b R):Fn aS GG 58 [.a c0,a1] R:=by refine fnV (uq ready (aQ9 a7r) func58 (an:=ato) (by kernel_rfl)<|Eq.mpr (show ZF aS GGV aYf ato Tryz.f58 [.a c0,a1] R=(eV (bxA 129 7 (ly Tryz.f58) 2<|.a c0) λc b=>aVj c a1 b R) by kernel_rfl) ?_);refine mY (N:=4096) rfl l0 (by decide) (by decide) uB (by rw[i8]) λb f d g g0=>?_;exact h b f d (λk e=>by rw[g0 k e];exact i8 _ k)
end
theorem Kx.fx0{Y Y'}(k:Kx [] Y Y'){b x}(h:box Y b=V x):box Y' b=V x:=k.keep b x (by simp) h
def baV{Y c s f}{d:Nat}{K}(u:L Y=4096)(q:aPU c)(o:aOc c)(hs:StB 0 s)(w:L f<=100)(n:∀(l) (s':aNV) g,L l<=100->(∀e∈l,EvL e)->Kx [] Y g->K (.t [sl aP.c l, .a s'.c]) g):cV 120 [.a c.c, .a s.c, .l [] U U,sl TCh.c f] Y d K:=by refine aQN rfl rfl [] (λx j=>?_) (by intro p h;simp at h) (bdt (aOr.trans u) q o hs w) ?_;simp only[eW,ql,bmK] at j;rcases j with rfl|rfl|rfl|rfl;intro y b;simp only[aOw.c,pz.c,dF,eW,ql,bmK,or_assoc] at b;rcases b with rfl|rfl|rfl|rfl|rfl|rfl|rfl<;>exact .inl (by simp[eN]);intro y b;simp only[aNV.c,aW.c,dF,eW,ql,bmK,or_assoc] at b;(rcases b with rfl|rfl|rfl|rfl|rfl|rfl|rfl<;>first|trivial|exact .inl (by simp[eN]));exact .inr rfl;exact .inl (by simp[eN]);rintro r g ⟨⟨l,s',rfl,k,m⟩,F⟩;refine⟨F.len.trans aOr,[],(by intro p h;simp at h),?_,n l s' _ k m Kx.mix⟩;intro v i;simp only[eW,ql,bmK] at i;rcases i with rfl|rfl;exact .inl (by simp[eN]);intro y b;simp only[aNV.c,aW.c,dF,eW,ql,bmK,or_assoc] at b;rcases b with rfl|rfl|rfl|rfl|rfl|rfl|rfl<;>first|trivial|exact .inl (by simp[eN])
def aXr(c)(f)(hp:aOc c/\L f<=100):Ct 58 [.a c.c,sl TCh.c f] (λr=>∃(t:bim) (s:aNV),r= .t [.a t.c, .a s.c]/\L t.ac<=100/\∀e∈t.ac,EvL e):=by obtain⟨m,hn⟩:=hp;generalize F:(λ(r:AV)=>∃(t:bim) (s:aNV),r= .t [.a t.c, .a s.c]/\L t.ac<=100/\∀e∈t.ac,EvL e)=Qq;refine aDq (bhi rfl λs2 n S h0=>?_);simp only[aVj,qy 4];refine I7 n λv4 s4 w N4 T=>?_;refine I7 (w.len.trans n) λv5 p x N6 C=>?_;have d:=x.kq T;have b:Fx s2 p []:=w.trans x;have E:=b.kq S;have g:=b.len.trans n;have hz:bM aOO aon []=V (.a aOO):=rfl;have H:bM bs5 [(0,6),(6,1)] []=V (.a bs5):=rfl;have rc:aN (V 7) c.c=V (.a c.c):=rfl;simp only[qz 6,qy 8,eQ,E,rc,ip,a6t,ar,Fa,hz,H];have i:∀{r:AV},lo p [.a c.c] r:=(by intro r;simp[lo,nA,eB,iR,aOw.c,pz.c,sl]);refine⟨m,?_⟩;rintro _ ⟨ok,rfl,h⟩;refine⟨i,?_⟩;simp only[aIN,aY];cases ok with|false=>simp only[Bool.not_false,↓iC];refine stW d rfl rfl λs7 P k=>?_;refine stW (P.kq C) rfl rfl λs8 R W=>?_;have D:=R.kq k;have rz:aN (V 7) aOO=V (.a aOO):=rfl;have N:aN (V 7) bs5=V (.a bs5):=rfl;simp only[qz 10,eQ,W,D,rz,N,ip];refine aOH (vs':=[.a<|bim.c ⟨⟨[],[],[],[],[],[]⟩,[]⟩, .a<|aNV.c ⟨⟨[],0,[],[]⟩,[],[],[]⟩]) rfl rfl ?_;rw[<-F];exact⟨_,_,rfl,by simp,by simp⟩|true=>simp only[Bool.not_true,↓iB];refine⟨⟨h rfl,m⟩,?_⟩;rintro _ ⟨s,rfl,hs⟩;refine⟨i,?_⟩;refine baV g (h rfl) m hs hn λl s' av h1 h2 y=>?_;have o:=y.len.trans g;simp only[qz 12,qy 14,oJ,pG,aY];refine I7 o λv7 aw ap au k=>?_;refine stW k rfl rfl λO aq X=>?_;have up:∀{q:Id} {z:bY},q≠(7,v7)->box p q=V z->box O q=V z:=(by grind [Fx.keep,Kx.fx0]);have Z:=up (by simp) E;have d4:=up (by simp) d;have d5:=up (by simp) C;have K:aN (V 6) c.c=V (.a c.aQ.c):=rfl;have M:aN (V 7) s'.c=V (.a s'.c):=rfl;have rt:aN (V 7) (bim.c ⟨c.aQ,l⟩)=V (.a<|bim.c ⟨c.aQ,l⟩):=rfl;have G:bM bs5 [(0,6),(6,1)] [(0, .a c.aQ.c),(1,sl aP.c l)]=V (.a<|bim.c ⟨c.aQ,l⟩):=rfl;simp only[qz 16];refine dT (by simp[eL,lb,lbV,Qh,zt,dC,dK,aOw.c,aNV.c,aW.c,pz.c,sl]) ?_;simp only[eS,Z,X,K,M,G,ip];refine stW d4 rfl rfl λax u A=>?_;simp only[qz 18];refine stW (u.kq d5) rfl rfl λay v B=>?_;have j:=v.kq A;simp only[qz 20];refine dT (by simp[eL,lb,lbV,zt,dC,dK,aNV.c,aW.c,pz.c,bim.c,sl]) ?_;simp only[eQ,j,B,M,rt,ip];refine aOH (vs':=[.a<|bim.c ⟨c.aQ,l⟩, .a s'.c]) rfl (by simp[iX,eN,bim.c,pz.c,aNV.c,aW.c,sl]) ?_;rw[<-F];exact⟨_,_,rfl,h1,h2⟩
def aUi:FT:=pn aXr
def bb9:=rQ aUi aXr (j:=by simp+contextual only[ij,ijv])
def a7I:dO:=(58,aUi)::aYf
def a7s:eJ a7I:=vl (aN0 aXr)<|a7r
def aWo:=ai @bb9<|@a6t
section
attribute[local irreducible] aX
def a9X:=kW 18 [(1,([0],[1,4])),(8,([28],[1,4,5,6,26,27]))]
def bhv{a a1}:=y0 a7s func21 a9X [a,a1]
end
section
attribute[local irreducible] aX
def bhx{c b}:=yB1 40 7 3 aPL func116 ato b [c, .a b]
def a90:=kW 25 [(3,([8],[0,2,7])),(6,([16],[0,2,7])),(9,([21],[0,2,7])),(14,([26],[0,2,7])),(21,([33],[0,2]))]
def bhA{a a1 b}:=yB aPL func183 a90 [a,a1,b]
def a93:=kW 21 [(7,([24],[0,5,10]))]
def bhD{c b d e}:=yB1 40 7 5 aPL func184 a93 b [c, .a b,d,e]
def a92:=kW 11 [(4,([5,10],[0,1,8,9])),(7,([5],[0,1,8,9,10]))]
def bhC{a a1}:=yB aPL func185 a92 [a,a1]
def a5J:=kW 39 [(4,([16],[0,4,5,15])),(7,([],[0,4,5,15,16])),(10,([7],[0,4,5,6,15,16])),(17,([64],[0,4,5,63])),(20,([],[0,4,5,63,64])),(26,([],[0,4,5])),(28,([],[0,4,5])),(33,([143],[0,4,5,142]))]
def aSH b a c R:=(.mk _:NF<|zF GGV aR3 a5J Tryz.f55 [b, .u] [a] c<|QDb Tryz.f55 R).p
def bhw{c:AV}{b:dM}{s0:ae}{R:be}(hs:L s0=4096)(l1:L b=6)(h:HB1 31 6 3 b s0 λe d=>aSH c e d R):EB 55 [c, .a b] s0 R:=aTc<|zB1 a5J (aQ9 aPL) func55 hs l1 h
def a5K:=kW 13 [(4,([],[0,3,5,6,8,9,11])),(8,([],[0,3,8,9,11])),(10,([],[8,11]))]
def aSL c a b d e R:=(.mk _:NF<|zF GGV aR3 a5K Tryz.f117 [c, .u, .u,d] [a,b] e<|QDb Tryz.f117 R).p
def bhy{d:AV}{b:dM}{c:dM}{e:AV}{s0:ae}{R:be}(hs:L s0=4096)(l1:L b=7)(f:L c=6)(h:HB2 40 7 5 b 31 6 6 c s0 λi j g=>aSL d i j e g R):EB 117 [d, .a b, .a c,e] s0 R:=aTc<|zB2 a5K (aQ9 aPL) func117 hs l1 f h
end
def bt:(∀p:Prop,(True->p)=p)/\(∀p,(False->p)=True)/\((I=U)=False)/\((U=I)=False)/\(∀p,(p/\True)=p)/\(∀p,(True/\p)=p)/\(∀b,(U||b)=U)/\(∀b,(I||b)=b)/\(∀b,(b||U)=U)/\(∀b,(b||I)=b)/\(∀b,(U&&b)=b)/\(∀b,(I&&b)=I)/\(∀b,(b&&U)=b)/\(∀b,(b&&I)=I)/\(∀α:Sort 1,(α->True)=True):=by refine⟨λp=>by simp,λp=>by simp,by simp,by simp,λp=>by simp,λp=>by simp,by simp,by simp,by simp,by simp,by simp,by simp,by simp,by simp,by simp⟩
def aS3{Y b l}{a d:Nat}{n:Int}{K}(Lw:List Id)(W:L Y=4096)(z:b.1=14\/b.1=15\/b.1=16)(T:Tp Y b l a)(o:∀q∈Lw,(q.1=14\/q.1=15\/q.1=16)/\∃x,box Y q=V x/\x.var=I)(R:∀(x:Int) (g:Nat) i,0<=x->(1<=n->x<n)->Tp i b l g->a<=g->(a<L l->1<=n->g=a+1)->Kx [14,15,16] Y i->(∀q∈Lw,∀x,box Y q=V x->box i q=V x)->K (iv x) i):cV 115 [.p b 0 0,iv n] Y d K:=by have m:∀{q:Id},q.1=14\/q.1=15\/q.1=16->q.1∈[14,15,16]:=λh=>(by rcases h with h|h|h<;>simp[h]);have X:okI [14,15,16] (b::Lw) b:=⟨m z,by simp⟩;have C:b∉Lw:=λh=>(by obtain⟨_,x,c,v⟩:=o b h;rw[T.bx] at c;cases c;cases v);have w:∀q∈Lw,∀x,box Y q=V x->box (bio [14,15,16] (b::Lw) Y) q=V x:=λq e x c=>(by rw[aOV<|m (o q e).1,sz<|by simp[e]];exact c);have A:Tp (bio [14,15,16] (b::Lw) Y) b l a:=⟨by rw[aOV<|m z,sz<|by simp];exact T.bx,T.le,T.ok,T.ll⟩;have bA:∀(Y':ae) (g:Nat),Tp Y' b l g->(∀q∈Lw,∀x,box Y q=V x->box Y' q=V x)->okB [14,15,16] (b::Lw) Y':=λY' g H S p t x c v q e y G=>(by rcases eW.1 t with rfl|t;rw[H.bx] at c;cases c;simp only[cE] at e;subst e;simp only[eW,ql,bmK] at G;rcases G with rfl|rfl;exact .inl rfl;trivial;obtain⟨_,x',E,D⟩:=o p t;rw[S p t x' E] at c;cases c;rw[D] at v;cases v);refine aQN rfl rfl (b::Lw) (λx c=>?_) (bA _ _ A w) (aWF (aOr.trans W) A n) ?_;simp only[eW,ql,bmK] at c;rcases c with rfl|rfl;exact X;trivial;rintro r i ⟨x,g,rfl,M,N,j,O,P,F⟩;have k:=F.len.trans aOr;have kp:=λq e x c=>F.keep _ _ (by simp only[cE];rintro rfl;exact C e)<|w q e x c;exact⟨k,b::Lw,bA _ _ j kp,trivial,R x g _ M N ⟨by rw[aPT k<|m z,sz<|by simp];exact j.bx,j.le,j.ok,j.ll⟩ O P Kx.mix λq e x c=>by rw[aPT k<|m (o q e).1,sz<|by simp[e]];exact kp q e x c⟩
def aPu{Y b l}{a d:Nat}{n:Int}{K}(m:L Y=4096)(T:Tp Y b l a)(j:∀(x:Int) (e:Nat) c,0<=x->(1<=n->x<n)->Tp c b l e->a<=e->Fx Y c [b]->K (iv x) c):cB 115 [.p b 0 0,iv n] Y d K:=a55 m T λx e c h i g k _ F=>j x e c h i g k F
theorem k1A{x y}:aN J (y::x)=V y:=by cases y<;>rfl
def aTE{Y b l n}(T:Tp Y b l n){e z a bA}(g:sA Y e z a bA):∀q∈aA a,q∉[b]:=λq c h=>by
 simp only[cE] at h;subst h
 exact aNO g q c _ T.bx rfl
def bdc{Y b l}{a:Nat}{x0 N x2 O P x5 a6}{cnt:d0}(A:L Y=4096)(T:Tp Y b l a)(g:sA Y 3 1 a6<|cnt.map ci)(X:L cnt<=1000):∃r j,(∃(u:Int) (e:Nat),r=iv u/\(u= -1\/aF (L cnt) u)/\Tp j b l e/\a<=e/\Fx Y j [b])/\cZ aS GG 116 [.p b 0 0, .a [x0,N,x2,O,P,x5,a6]] Y r j:=by refine bhx A rfl λZ M F S nf t=>?_;have c:=F.fx [];have q:=T.fx c (by simp);have m:=g.fx c (by simp);have H:((3,M):Id)∉[b]:=λh=>(by simp only[cE] at h;subst h;exact nf _ T.bx);simp only[eS,t,k1A,nM,ip,m.ln,bJ];rw[eM (by omega)<|by omega];refine aPu (c.len.trans A) q λu e j W G k n i=>?_;have R:=G (by omega);have w:=i.keep _ _ H t;have g1:=m.fx i<|aTE q m;have z:dq.wrap (u-2)=u-2:=eM (by omega) (by omega);rcases o:Q (u-2<0) with _|_;simp only[aNK] at o;have C:aF (L cnt) (u-2):=⟨by omega,by omega⟩;have D:=bnk o;simp only[qz 4,eS,z,D,w,k1A,nM,ip,↓jA,bcW];refine aTu g1 C λv=>?_;rcases E:Q (v=0) with _|_;simp only[eQ,E,bt];exact⟨u-2,e,rfl, .inr C,k,n,c.trans i⟩;simp only[eQ,E,bt];exact⟨-1,e,rfl, .inl rfl,k,n,c.trans i⟩;simp only[qz 4,eQ,z,o,↓jN,aRV,bt];exact⟨-1,e,rfl, .inl rfl,k,n,c.trans i⟩
def baM{Y}:aX bH 8 Y [(0,iv 0),(1,iv 0),(2,iv 0),(3,iv 1),(4,iv 1),(5,iv 2),(6,iv 3),(7,iv 4)]=V (.l ([0,0,0,1,1,2,3,4].map ci) U U,Y):=by kernel_rfl
section
attribute[local irreducible] aX
def bdk{Y b l}{a:Nat}{kd S:Int}(z:L Y=4096)(T:Tp Y b l a):∃r i,(∃(o:Int) (e:Nat),r=iv o/\(kd=3\/kd=4->0<=o/\o<5)/\Tp i b l e/\a<=e/\Fx Y i [b])/\cZ aS GG 183 [.p b 0 0,iv kd,iv S] Y r i:=by refine bhA z ?_;generalize O:(λ(r:AV) (i:ae)=>∃(o:Int) (e:Nat),r=iv o/\(kd=3\/kd=4->0<=o/\o<5)/\Tp i b l e/\a<=e/\Fx Y i [b])=R;have g:∀{o:Int} {e:Nat} {y:ae},(kd=3\/kd=4->0<=o/\o<5)->Tp y b l e->a<=e->Fx Y y [b]->R (iv o) y:=λv H M N=>(by rw[<-O];exact⟨_,_,rfl,v,H,M,N⟩);refine btr (λc=>∀t,(t=I->¬(kd=3\/kd=4))->c [bv t]) ?_ λc w=>?_;intro t q;(cases t);have q:=q rfl;have C:∀{o:Int},R (iv o) Y:=g (λh=>aRI h q) T (dA _)<|Fx.refl _ _;simp only[qz 21,qy 2,au,eQ,bt];refine bsf (λc=>∀t,c [bv t]) (λt=>?_) λc j=>(by simp only[qz 41,eQ,j,aO1,aPe]);(cases t);simp only[qz 39,qy 6,au,eQ,bt];refine bsf (λc=>∀t,c [bv t]) (λt=>?_) λc j=>(by simp only[qz 59,eQ,j,aO1,aPe]);(cases t);simp only[qz 57,au,eQ,bt];refine bsf (λc=>∀t,c [bv t]) (λt=>?_) λc j=>(by simp only[qz 89,eQ,j,aO1,aPe]);(cases t);simp only[qz 87,au,eQ,bt];refine bsf (λc=>∀t,c [bv t]) (λt=>?_) λc j=>(by simp only[qz 131,eQ,j,aO1,aPe]);(cases t);simp only[qz 129,au,eQ,bt];exact C;simp only[qz 129,au,eQ,bt];refine aPu z T λu e i D v m n k=>?_;simp only[qz 8,eQ,aPR,aP1];(first|exact g (λh=>aRI h q) m n k|exact⟨by decide,g (λh=>aRI h q) m n k⟩);simp only[qz 87,au,eQ,bt];exact C;simp only[qz 57,au,eQ,bt];exact C;simp only[qz 39,qy 6,au,eQ,bt];exact aPu z T λu e i D v m n k=>g (λh=>aRI h q) m n k;have G:=@baM Y;simp only[qz 21,qy 2,au,eQ,G,bt];refine aPu z T λu e i D v m n k=>?_;have F:=v (by decide);simp only[qz 4,tf,ci,qM,u0];refine⟨⟨D,by simpa using F⟩,g (λ_=>?_) m n k⟩;have P:∀x∈([0,0,0,1,1,2,3,4]:d0),0<=x/\x<5:=(by decide);exact P _ (dB<|by simp;omega);rcases A:Q (kd=3) with _|_;rcases E:Q (kd=4) with _|_;simp only[qz 23,A,E,eQ,bt];refine w I λ_=>?_;simp at A E;omega;simp only[qz 23,A,E,eQ,bt];exact w U (λh=>Bool.noConfusion h);simp only[qz 23,A,eQ,bt];exact w U (λh=>Bool.noConfusion h)
end
theorem aRH{c l}(h:gK c=sl ci l):∃t o,c= .l (l.map ci) t o:=by(cases c<;>first|(simp[gK,sl] at h;done)|skip);rename_i bA t o;simp only[gK,sl,AV.l.injEq] at h;exact⟨t,o,by rw[h.1]⟩
def bdL{ds}{s:I5}(h:Lk ds s.c):∃x0 g x2 i t4 o4 e a j,ds=[x0,g,x2,i, .l (s.cells.map ci) t4 o4, .l (s.bU.map ci) e a,j]:=by have k:=oC h;obtain⟨h,_⟩:=h;rcases ds with _|⟨x0,_|⟨g,_|⟨x2,_|⟨i,_|⟨m,_|⟨x5,_|⟨j,_|⟨n,ds⟩⟩⟩⟩⟩⟩⟩⟩<;>simp at k;simp only[ji,mU,I5.c,List.cons.injEq] at h;obtain⟨t4,o4,rfl⟩:=aRH h.2.2.2.2.1;obtain⟨e,a,rfl⟩:=aRH h.2.2.2.2.2.1;exact⟨_,_,_,_,_,_,_,_,_,rfl⟩
def bdD{Y b l}{a:Nat}{ds}{s:I5}{kd ob:Int}(hl:L Y=4096)(T:Tp Y b l a)(o:Lk ds s.c)(hs:L s.bW.ay<1000)(S:kd=3->aF (L s.cells) ob)(ap:0<L s.bU):∃r i,(∃(v:Int) (g:Nat),r=iv v/\Tp i b l g/\a<=g/\Fx Y i [b])/\cZ aS GG 184 [.p b 0 0, .a ds,iv kd,iv ob] Y r i:=by refine bhD hl (oC o) λs2 v5 K2 aq nf D=>?_;generalize hR:(λ(r:AV) (i:ae)=>∃(v:Int) (g:Nat),r=iv v/\Tp i b l g/\a<=g/\Fx Y i [b])=R;have N:=K2.fx [];have C:=T.fx N (by simp);have z:=N.len.trans hl;have j:∀{v:Int} {g:Nat} {y:ae},Tp y b l g->a<=g->Fx s2 y [b]->R (iv v) y:=λh2 S h4=>(by rw[<-hR];exact⟨_,_,rfl,h2,S,N.trans h4⟩);have h:∀{v:Int},R (iv v) s2:=j C (dA _)<|Fx.refl _ _;obtain⟨x0,x1,x2,x3,t4,o4,t5,o5,x6,rfl⟩:=bdL o;have G:=λ{Y}=>o.arg Y;have Bi:aN (V 7) [x0,x1,x2,x3, .l (s.cells.map ci) t4 o4, .l (s.bU.map ci) t5 o5,x6]=V (.a [x0,x1,x2,x3, .l (s.cells.map ci) t4 o4, .l (s.bU.map ci) t5 o5,x6]):=rfl;have k:∀{Y:ae} {l:d0},fS Y (sl ci l)=V (iv<|L l):=cT;rcases E:Q (kd=3) with _|_;rcases M:Q (kd=23) with _|_;simp only[E,M,eQ,↓iB];refine bsf (λe=>∀t,e [bv t]) (λt=>?_) λe Z=>(by simp only[qz 47,eQ,Z,aO1,aPe]);(cases t);rcases F:Q (kd=5) with _|_;rcases A:Q (kd=18) with _|_;rcases H:Q (kd=19) with _|_;simp only[qz 45,qy 4,au,F,A,H,eQ,↓iB,bt];exact h;simp only[qz 45,qy 4,au,F,A,H,eQ,↓iB,↓iC,D,Bi,ip,aPg,ar,G,bt];refine⟨hs,?_⟩;rintro _ ⟨w,rfl,hw⟩;refine⟨by rw[lo,nA];simp[x9 o],?_⟩;simp only[k,u0];exact h;simp only[qz 45,qy 4,au,F,A,eQ,↓iB,↓iC,D,Bi,ip,aPg,ar,G,bt];refine⟨hs,?_⟩;rintro _ ⟨w,rfl,hw⟩;refine⟨by rw[lo,nA];simp[x9 o],?_⟩;rcases W:Q ((0:Int)<(L w:Int)) with _|_;simp only[k,eQ,W,↓iB];exact h;simp only[k,eQ,W,↓iC];simp only[aBY] at W;refine aPu z C λu g i O P n q m=>?_;have X:=P (by omega);simp only[qz 8,amX,ci,qM,u0];exact⟨⟨O,X⟩,j n q m⟩;simp only[qz 45,qy 4,qy 6,au,F,eQ,↓iC,bt];exact aPu z C λu g i O P n q m=>j n q m;simp only[qz 45,qy 4,qy 6,au,eQ,bt];exact aPu z C λu g i O P n q m=>j n q m;simp only[E,M,eS,↓iB,↓iC,D,k1A,nM,ip,tf,ci,qM];exact⟨⟨by omega,by omega⟩,h⟩;simp only[E,eS,↓iC,D,k1A,nM,ip,tf,ci,qM];exact⟨S (by simpa using E),h⟩
def aS1{Y n}:aX bH 1 Y [(0,iv n)]=V (.l ([n].map ci) U U,Y):=iz
def bdv{Y b}{l ns:d0}{a:Nat}{x}(E:L Y=4096)(hb:b.1≠28)(T:Tp Y b l a)(g:sA Y 3 1 x<|ns.map ci)(hn:L ns<=1000):∃r n,(∃(m:d0) (j:Nat),sA n 3 1 r (m.map ci)/\L m<=L ns/\Tp n b l j/\a<=j/\Fx Y n [b]/\∀q∈aA r,bK Y q/\q.1=28)/\cZ aS GG 185 [.p b 0 0,x] Y r n:=by refine bhC E ?_;generalize hR:(λ(r:AV) (n:ae)=>∃(m:d0) (j:Nat),sA n 3 1 r (m.map ci)/\L m<=L ns/\Tp n b l j/\a<=j/\Fx Y n [b]/\∀q∈aA r,bK Y q/\q.1=28)=R;simp only[g.ln,bJ,u0];refine jD (α:=AV) (λa i=>[a,iv i]) 1 (L ns) (λk c y=>Fx Y y [b]/\(∃j,Tp y b l j/\a<=j)/\∃m:d0,L m<=k/\sA y 3 1 c (m.map ci)/\∀q∈aA c,bK Y q/\q.1=28) (s0:= .l [] U U) ⟨Fx.refl _ _,⟨a,T,dA _⟩,[],by simp, .inl ⟨rfl,rfl⟩,by simp[aA]⟩ ?_;rintro k c y hk ⟨F,⟨j,C,X⟩,m,hm,D,w⟩;have Z:=F.len.trans E;rcases G:Q ((k:Int)<(L ns:Int)) with _|_;simp only[qz 25,au,eQ,G,↓iB];rw[<-hR];exact⟨m,j,D,by omega,C,X,F,w⟩;have v:=Int.ofNat_lt.1<|aNQ G;have S:=g.fx F<|aTE T g;have ek:dq.wrap ((k:Int)+3)=(k:Int)+3:=eM (by omega) (by omega);simp only[qz 25,au,eQ,G,↓iC];refine biR (λe=>∀{o:AV} {z:ae} {m':d0} {j:Nat},Fx Y z [b]->Tp z b l j->a<=j->L m'<=k+1->sA z 3 1 o (m'.map ci)->(∀q∈aA o,bK Y q/\q.1=28)->e [o] z) ?_ λe nx=>?_;intro o z m' j F T W h2 g p;simp only[qz 45,au,eQ];exact dR (mk:=λ(a:AV) i=>[a,iv i]) (s:=c) (s':=o) (λ_ _=>rfl) v (by omega) ⟨F,⟨_,T,W⟩,m',h2,g,p⟩;simp only[qz 47,qy 4,qy 6,eQ];refine(SlR.of S).ix1 (c:=iv<|gd ns k) (by rw[bkb,eC v,bT v];rfl) λp _=>?_;simp only[S.ln,bJ,ek,eQ];rcases q2:Q ((L ns:Int)<=(k:Int)+3) with _|_;simp only[u0,↓jN,bcW,bt];exact nx F C X (by omega) D w;simp only[u0,↓jA,aRV];refine aPu (d:=22) Z C λu a2 y2 h0 W O ak H=>?_;have P:=D.fx H<|aTE C D;have A:=(F.trans H).mono (ks':=[b]) λq t=> .inl (by simpa using t);rcases q3:Q (u=1) with _|_;simp only[eQ,q3,bt];exact nx A O (by omega) (by omega) P w;simp only[eQ,q3,aS1,bt];refine apQ P (A.len.trans E) pU pU (by simp) (by simp;omega) λo y3 g3 M N=>?_;have nb:b∉aA c:=λh=>hb (w b h).2;refine nx (m':=m++[gd ns k]) ((A.trans M).mono λq t=>?_) (O.fx M nb) (by omega) (by simp;omega) (by rw[dg];exact g3.p) λq t=>⟨(N q t).1.old A,(N q t).2⟩;rcases dF.1 t with h|h;exact .inl h;exact .inr (w q h).1.no
structure Rds(Y:ae)(B:Id)(f:Nat->AV)(m:Nat):Prop where
 bx:box Y B=V ⟨38,1,U,U,io 4 λi=>[f i]⟩
 gr:∀i,i<4->∃ns:d0,L ns<=m/\sA Y 3 1 (f i) (ns.map ci)
 dj:∀i j,i<4->j<4->i≠j->∀q∈aA (f i),q∉aA (f j)
 pl:∀i,i<4->∀q∈aA (f i),q.1=47\/q.1=103
theorem Rds.kx{Y Y' B f m ks}(O:Rds Y B f m)(k:Kx ks Y Y')(h:B.1∉ks/\47∉ks/\103∉ks):Rds Y' B f m:=⟨k.keep _ _ h.1 O.bx,λi a=>by obtain⟨ns,c,g⟩:=O.gr i a;exact⟨ns,c,k.gr g λq j=>by rcases O.pl i a q j with e|e<;>rw[e]<;>first|exact h.2.1|exact h.2.2⟩,O.dj,O.pl⟩
theorem Rds.fx{Y Y' B f m Lw}(O:Rds Y B f m)(F:Fx Y Y' Lw)(h:∀q∈Lw,q≠B/\q.1≠47/\q.1≠103):Rds Y' B f m:=⟨F.keep _ _ (λe=>(h _ e).1 rfl) O.bx,λi c=>by obtain⟨ns,g,j⟩:=O.gr i c;exact⟨ns,g,j.fx F λq k e=>by rcases O.pl i c q k with a|a<;>first|exact(h q e).2.1 a|exact(h q e).2.2 a⟩,O.dj,O.pl⟩
theorem Rds.rd{Y B f m}(O:Rds Y B f m){u}(h:0<=u/\u<4){K}(g:K<|f u.toNat):rV (cz 1 Y (.m B 4)<|iv u) λp=>rV (Iy J Y p) K:=by have a:u.toNat<4:=(by omega);have c:cz 1 Y (.m B 4) (iv u)=V (.p B u.toNat 0):=(by simp[cz,h.1,O.bx,a]);have e:Iy J Y (.p B u.toNat 0)=V (f u.toNat):=(by simp[Iy,iE,O.bx,uU a,aN]);rw[c,aY,e,aY];exact g
structure EvS(Y x:ae)(b:Id)(l:d0)(a0 v5 v6 v8 v11:Nat)(ds:dM)(B:Id)(f:Nat->AV)(u kd ob va st:Int)(dp fr:AV):Prop where
 bx:box x (11,v11)=V ⟨62,7,U,U,[[iv u,iv kd,iv ob,iv va,iv st,dp,fr]]⟩
 b8:box x (8,v8)=V ⟨62,7,U,U,[brx]⟩
 b5:box x (5,v5)=V ⟨40,7,U,U,[ds]⟩
 b6:box x (6,v6)=V ⟨31,6,U,U,[aNE.c]⟩
 tp:∃a',Tp x b l a'/\a0<=a'
 kx:Kx [14,15,16] Y x
 pb:b.1=14\/b.1=15\/b.1=16
 gd:∃m:d0,L m<=1000/\sA x 3 1 dp (m.map ci)
 gf:∃m:d0,L m<=1000/\sA x 3 1 fr (m.map ci)
 pd:∀q∈aA dp,q.1=28/\∀z,box Y q≠V z
 pf:∀q∈aA fr,q.1=28/\∀z,box Y q≠V z
 rd:Rds x B f 1000
 pB:B.1=20
 no:(∀z,box Y (11,v11)≠V z)/\∀z,box Y (8,v8)≠V z
section
variable{Y x y:ae}{b B:Id}{l:d0}{a0 v5 v6 v8 v11 d:Nat}{ds:dM}{f:Nat->AV}{u kd ob va st:Int}{dp fr:AV}{K:be}{KS:ae->Prop}
theorem EvS.le(E:EvS Y x b l a0 v5 v6 v8 v11 ds B f u kd ob va st dp fr)(h:L Y=4096):L x=4096:=E.kx.len.trans h
def EvS.nx(E:EvS Y x b l a0 v5 v6 v8 v11 ds B f u kd ob va st dp fr)(F:Fx x y [b]){i}(T:Tp y b l i)(h:a0<=i):EvS Y y b l a0 v5 v6 v8 v11 ds B f u kd ob va st dp fr:=by have n:=E.pb;have c:∀{q:Id},q.1≠14->q.1≠15->q.1≠16->q∉[b]:=λj k r e=>(by simp at e;subst e;omega);obtain⟨m,j,g1⟩:=E.gd;obtain⟨p,k,o⟩:=E.gf;have g:∀{q:Id},q.1=28->q∉[b]:=λh=>c (by omega) (by omega) (by omega);exact⟨F.keep _ _ (c (by simp) (by simp)<|by simp) E.bx,F.keep _ _ (c (by simp) (by simp)<|by simp) E.b8,F.keep _ _ (c (by simp) (by simp)<|by simp) E.b5,F.keep _ _ (c (by simp) (by simp)<|by simp) E.b6,⟨i,T,h⟩,E.kx.fx F λq a=> .inl (by simp at a;subst a;rcases n with e|e|e<;>simp[e]),n,⟨m,j,g1.fx F λq a=>g (E.pd q a).1⟩,⟨p,k,o.fx F λq a=>g (E.pf q a).1⟩,E.pd,E.pf,E.rd.fx F (λq a=>by simp at a;subst a;exact⟨λe=>by have:=E.pB;rw[<-e] at this;omega,by omega,by omega⟩),E.pB,E.no⟩
def EvS.set(E:EvS Y x b l a0 v5 v6 v8 v11 ds B f u kd ob va st dp fr)(F:Fx x y [(11,v11)]){j n k:Int}{c g}(G:box y (11,v11)=V ⟨62,7,U,U,[[iv u,iv kd,iv j,iv n,iv k,c,g]]⟩)(gd:∃m:d0,L m<=1000/\sA x 3 1 c (m.map ci))(w:∃m:d0,L m<=1000/\sA x 3 1 g (m.map ci))(p:∀q∈aA c,q.1=28/\∀z,box Y q≠V z)(r:∀q∈aA g,q.1=28/\∀z,box Y q≠V z):EvS Y y b l a0 v5 v6 v8 v11 ds B f u kd j n k c g:=by obtain⟨m,A,g1⟩:=gd;obtain⟨H,C,v⟩:=w;obtain⟨t,T,D⟩:=E.tp;have o:=E.pb;have i:∀{q:Id},q.1=28->q∉[((11,v11):Id)]:=λh e=>(by simp at e;subst e;simp at h);exact⟨G,F.kq E.b8,F.kq E.b5,F.kq E.b6,⟨t,T.fx F (λe=>by simp at e;subst e;simp at o),D⟩,E.kx.fx F<|λq a=> .inr<|by simp at a;subst a;exact E.no.1,o,⟨m,A,g1.fx F λq a=>i (p q a).1⟩,⟨H,C,v.fx F λq a=>i (r q a).1⟩,p,r,E.rd.fx F (λq a=>by simp at a;subst a;exact⟨λe=>by have:=E.pB;rw[<-e] at this;simp at this,by simp,by simp⟩),E.pB,E.no⟩
def a56(E:EvS Y x b l a0 v5 v6 v8 v11 ds B f u kd ob va st dp fr)(n:L Y=4096){j:Nat}(k:j<4)(i:∀r y,EvS Y y b l a0 v5 v6 v8 v11 ds B f u kd ob va st dp fr->(∃m:d0,L m<=1000/\sA y 3 1 r (m.map ci))->(∀q∈aA r,q.1=28/\∀z,box Y q≠V z)->K r y):cB 185 [.p b 0 0,f j] x d K:=by obtain⟨ns,h,g⟩:=E.rd.gr j k;obtain⟨v,T,A⟩:=E.tp;refine jH rfl (bdv (E.le n) (by have:=E.pb;omega) T g h) ?_;rintro r y ⟨m,a2,e,w,c,t,F,p⟩;exact⟨F.len,i r y (E.nx F c<|by omega) ⟨m,by omega,e⟩ λq a=>⟨(p q a).2,λz o=>(p q a).1.no z<|E.kx.keep _ _ (by rw[(p q a).2];decide) o⟩⟩
end
def bcs{Y c0 e h i j dp fr m k}(g:sA Y 3 1 dp<|m.map ci)(n:sA Y 3 1 fr<|k.map ci):aOo Y (.a [iv c0,iv e,iv h,iv i,iv j,dp,fr])= .a (aP.mk c0 e h i j m k).c:=by show AV.a (List.map gK<|List.map (gi Y) _)=_;have o:=a6r g;have p:=a6r n;simp only[ji,mU,o,p];rfl
def bdf{Y b B l}{a:Nat}{ds}{s:I5}{f}(A:L Y=4096)(hb:b.1=14\/b.1=15\/b.1=16)(hB:B.1=20)(T:Tp Y b l a)(hL:Lk ds s.c)(hs:L s.bW.ay<1000)(h3:L s.cells=5)(bb:0<L s.bU)(O:Rds Y B f 1000):∃r Y1,(∃(e:aP) (w:Nat),r= .a e.c/\EvL e/\(0<=e.aq/\e.aq<4)/\Tp Y1 b l w/\a<=w/\(a<L l->a+1<=w)/\Kx [14,15,16] Y Y1)/\cZ aS GG 117 [.p b 0 0, .a ds, .a aNE.c, .m B 4] Y r Y1:=by generalize hQ:(λ(r:AV) (y:ae)=>∃(e:aP) (w:Nat),aOo y r= .a e.c/\EvL e/\(0<=e.aq/\e.aq<4)/\Tp (kills y<|aNW r) b l w/\a<=w/\(a<L l->a+1<=w)/\Kx [14,15,16] Y (kills y<|aNW r))=Qq;refine aQR (R:=Qq) ?_ (λr y h=>by rw[<-hQ] at h;exact h);refine bhy A (oC hL) rfl λs4 v5 v6 K4 cf cg ch b5 b6=>?_;have F4:=K4.fx [];have bl:=F4.len.trans A;simp only[aSL];refine I7 bl λv8 s6 H N8 b8=>?_;have P:=F4.trans H;have K6:Kx [14,15,16] Y s6:=P.kx (by simp);have bm:=P.len.trans A;have n8:=(N8.old F4).no;simp only[qz 6];refine aS3 [] bm hb (T.fx P<|by simp) (by simp) λu a1 s8 br bs T8 b4 bp K8 _=>?_;have hu:0<=u/\u<4:=⟨br,bs<|by decide⟩;have al:=K6.kx K8 (by simp);have bn:=al.len.trans A;simp only[qz 8,aPg,ar];rintro _ ⟨t,o,rfl⟩;refine⟨by rw[lo,nA];simp,?_⟩;simp only[bdM,u0];refine aS3 [] bn hb T8 (by simp) λk a2 cj bj bk aV b7 ca ah _=>?_;have hk:aF (L aTp) k:=⟨bj,by have:=bk (by decide);simpa using this⟩;have S:=al.kx ah (by simp);have aJ:=S.len.trans A;simp only[qz 10,tf,ci,qM,eQ];refine⟨hk,?_⟩;generalize gd aTp k.toNat=kd;refine aS3 [] aJ hb aV (by simp) λst a3 bB cc cd aW b9 cb ak _=>?_;have D:=S.kx ak (by simp);have aK:=D.len.trans A;have bg:∀{u k st:Int},bM brx aOG [(0,iv u),(1,iv k),(4,iv st)]=V (.a [iv u,iv k,iv 0,iv 0,iv st, .l [] U U, .l [] U U]):=λ{u k st}=>rfl;simp only[qz 12,qy 14,bg,eQ];generalize dq.wrap (dq.wrap (u*6)+st)=site;refine I7 aK λv11 ck af am aX=>?_;refine stW aX rfl rfl λab ag a9=>?_;have ap:=D.no (by simp) am.no;have W:=(D.fx af<|by simp).fx ag λq v=> .inr (by simp at v;subst v;exact ap);have G:Fx bB ab []:=(af.trans ag).mono λq v=>(by simp at v;subst v;exact .inr am.no);have kk:∀{q:Id} {z:bY},q.1≠14->q.1≠15->q.1≠16->box s6 q=V z->box ab q=V z:=λZ M h3 h=>G.kq (ak.keep _ _ (by simp[Z,M,h3])<|ah.keep _ _ (by simp[Z,M,h3])<|K8.keep _ _ (by simp[Z,M,h3]) h);simp only[qz 16];refine dT (by simp[eL,lb,lbV,zt,dC,dK]) ?_;have E:EvS Y ab b l a3 v5 v6 v8 v11 ds B f u kd 0 0 site (.l [] U U) (.l [] U U):=⟨a9,kk (by simp) (by simp) (by simp) b8,kk (by simp) (by simp) (by simp)<|H.kq b5,kk (by simp) (by simp) (by simp)<|H.kq b6,⟨a3,aW.fx G (by simp),dA _⟩,W,hb,⟨[],by simp, .inl ⟨rfl,rfl⟩⟩,⟨[],by simp, .inl ⟨rfl,rfl⟩⟩,by simp[aA],by simp[aA],O.kx W ⟨by rw[hB];decide,by decide,by decide⟩,hB,ap,n8⟩;have aG:a<L l->a+1<=a3:=λh=>(by have:=bp h (by decide);omega);have bR:a<=a3:=(by omega);have ao:u.toNat<4:=(by omega);have r7:=@r7A;have uQ:aN (V 7) ds=V (.a ds):=(by have:=oC hL;simp[aN,this,oB<|Nat.le_of_eq this]);refine bpl (λi=>∀{x st},EvS Y x b l a3 v5 v6 v8 v11 ds B f u kd 0 0 st (.l [] U U) (.l [] U U)->i [] x) (λ{x st} E=>?_) λJ4 h4=>?_;(focus simp only[qz 27,eS,E.bx,k1A,nM,ip];obtain⟨w,T',bf⟩:=E.tp;refine jH rfl (bdk (E.le A) T') ?_;rintro _ y ⟨ob,a2,rfl,ho,T2,M,F2⟩;refine⟨F2.len,?_⟩;have j:=E.nx F2 T2 (by omega);simp only[qz 20,eS,j.bx];refine stC j.bx rfl (by simp) λz Fz bz=>?_;have N:=j.set Fz bz j.gd j.gf j.pd j.pf;obtain⟨a5,T5,h5⟩:=N.tp;simp only[qz 22,eS,N.bx,N.b5,uQ,k1A,nM,ip];refine jH rfl (bdD (N.le A) T5 hL hs (λh=>?_) bb) ?_;rw[h3];exact ho<|.inl h;rintro _ y2 ⟨va,a6,rfl,T6,h6,H⟩;refine⟨H.len,?_⟩;have C:=N.nx H T6 (by omega);simp only[qz 24,eS,C.bx];refine stC C.bx rfl (by simp) λz2 aT a8=>?_;have E:=C.set aT a8 C.gd C.gf C.pd C.pf;simp only[qz 26];refine bpl (λi=>∀{x ob va st dp fr},EvS Y x b l a3 v5 v6 v8 v11 ds B f u kd ob va st dp fr->i [] x) (λ{x ob va st dp fr} E=>?_) λJ8 h8=>?_;(focus simp only[qz 51,aI];refine bpl (λi=>∀{x ob va st dp fr},EvS Y x b l a3 v5 v6 v8 v11 ds B f u kd ob va st dp fr->i [] x) (λ{x ob va st dp fr} E=>?_) λb3 an=>?_;simp only[qz 63,qy 36,eQ,E.bx,r7,ip];refine stW E.b8 rfl rfl λy F b=>?_;simp only[b,eQ,r7];obtain⟨m,Z,g1⟩:=E.gd;obtain⟨m2,M,g2⟩:=E.gf;have au:∀{q:Id},q.1=28->q∉[((8,v8):Id)]:=λh e=>(by simp at e;subst e;simp at h);have y1:=g1.fx F λq v=>au (E.pd q v).1;have y2:=g2.fx F λq v=>au (E.pf q v).1;obtain⟨w,T',bf⟩:=E.tp;have ei:aNW (.a [iv u,iv kd,iv ob,iv va,iv st,dp,fr])=aA dp++aA fr:=(by have i1:=aQX y1;have i2:=aQX y2;have e0:∀{n:Int},iR (iv n)=[]:=rfl;simp only[aNW,eB,Cz,RN,i1,i2,e0,dW,cL]);have nb:∀q∈aA dp++aA fr,q.1=28/\∀z,box Y q≠V z:=λq v=>(by rcases dF.1 v with h|h;exact E.pd q h;exact E.pf q h);have bq:=E.pb;show Qq (.a [iv u,iv kd,iv ob,iv va,iv st,dp,fr]) y;rw[<-hQ];refine⟨_,w,bcs y1 y2,⟨Z,M⟩,hu,?_,by omega,λh=>by have:=aG h;omega,?_⟩;rw[ei];exact(T'.fx F (λe=>by simp at e;subst e;simp at bq)).fx (aOp _ _) λe=>(by have:=(nb _ e).1;omega);rw[ei];exact(E.kx.fx F<|λq v=> .inr<|by simp at v;subst v;exact E.no.2).fx (aOp _ _) λq v=> .inr (nb q v).2;rcases q4:Q (kd=4) with _|_<;>rcases bv:Q (kd=22) with _|_<;>simp only[qz 65,eS,E.bx,k1A,nM,ip,q4,bv,↓jA,↓jN,aRV,bt];exact an E;all_goals refine E.rd.rd hu ?_;refine a56 E A ao λr y j X pr=>?_;have cr:eY r=V [r]:=(by obtain⟨m,_,g⟩:=X;exact g.ce);simp only[qz 32,qy 34,eS,j.bx];refine stC j.bx cr (by simp) λz F b=>?_;exact an<|j.set F b j.gd X j.pd pr);have aQ:aN J aNE.c=V (sl cA.c aNE.cells):=rfl;have bi:L aNE.cells=5:=rfl;rcases q5:Q (kd=5) with _|_<;>rcases q3:Q (kd=3) with _|_<;>rcases q4:Q (kd=4) with _|_<;>simp only[qz 53,eS,E.bx,E.b6,k1A,aQ,nM,ip,q5,q3,q4,↓jA,↓jN,aRV,bcW,bt];exact h8 E;(all_goals try have h5:=ho (by simp only[aBY,aNK] at q3 q4;omega);simp only[aCd,eQ,cA.c,aC6,nM,ip,k1A];refine⟨⟨h5.1,by rw[bi];exact h5.2⟩,λ_=>?_,λ_=>h8 E⟩);all_goals refine E.rd.rd hu ?_;refine a56 E A ao λr y j X pr=>?_;have cr:eY r=V [r]:=(by obtain⟨m,_,g⟩:=X;exact g.ce);simp only[qz 28,qy 30,eS,j.bx];refine stC j.bx cr (by simp) λz F b=>?_;exact h8<|j.set F b X j.gf pr j.pf);rcases q1:Q (kd=1) with _|_<;>rcases q2:Q (kd=2) with _|_<;>simp only[qz 29,qy 18,eS,E.bx,k1A,nM,ip,q1,q2,↓jA,↓jN,aRV,bt];exact h4 E;all_goals refine stC E.bx rfl (by simp) λz F bz=>?_;exact h4<|E.set F bz E.gd E.gf E.pd E.pf
def bcM{Y e n z v a k r t}(g:sA Y e z a r)(o:sA Y n v k t)(h:e≠n):∀q∈aA k,q∉aA a:=λq i j=>by
 rcases g with⟨_,rfl⟩|⟨b,m,rfl,p⟩
 ·simp[aA] at j
 rcases o with⟨_,rfl⟩|⟨w,m',rfl,c⟩
 ·simp[aA] at i
 simp only[aA,cE] at j i
 subst j i
 rw[p] at c;exact h<|brD bY.elem<|Option.some.inj c
def sA.fn{Y Y':ae}{e c:TypeId}{z m:Nat}{a i:AV}{r k:List (dM)}(j:sA Y c m i k)(F:Fx Y Y'<|aA a)(g:sA Y e z a r)(h:e≠c:=by decide):sA Y' c m i k:=j.fx F<|bcM g j h
section
variable{Y x y:ae}{s:I5}{a1 a2 a3 a4 a5 a6:AV}{KS:ae->Prop}
theorem SnL.keep(S:SnL Y x s a1 a2 a3 a4 a5 a6){Lw}(F:Fx x y Lw)(h:∀q∈Lw,q.1≠6/\q.1≠32/\q.1≠10/\q.1≠14):SnL Y y s a1 a2 a3 a4 a5 a6:=⟨S.g1.fx F λq a e=>(h q e).1 (S.p1 q a).2,S.g2.fx F λq a e=>(h q e).1 (S.p2 q a).2,S.g3.fx F λq a e=>(h q e).1 (S.p3 q a).2,S.g4.fx F λq a e=>(h q e).2.1 (S.p4 q a).2,S.g5.fx F λq a e=>(h q e).2.2.1 (S.p5 q a).2,S.g6.fx F λq a e=>(h q e).2.2.2 (S.p6 q a).2,S.p1,S.p2,S.p3,S.p4,S.p5,S.p6⟩
theorem SnL.old{a Lw}(S:SnL Y x s a1 a2 a3 a4 a5 a6)(F:Fx a Y Lw):SnL a x s a1 a2 a3 a4 a5 a6:=⟨S.g1,S.g2,S.g3,S.g4,S.g5,S.g6,λq h=>⟨(S.p1 q h).1.old F,(S.p1 q h).2⟩,λq h=>⟨(S.p2 q h).1.old F,(S.p2 q h).2⟩,λq h=>⟨(S.p3 q h).1.old F,(S.p3 q h).2⟩,λq h=>⟨(S.p4 q h).1.old F,(S.p4 q h).2⟩,λq h=>⟨(S.p5 q h).1.old F,(S.p5 q h).2⟩,λq h=>⟨(S.p6 q h).1.old F,(S.p6 q h).2⟩⟩
theorem a7V{α}[Inhabited α]{c e}{z:Nat}{a}{l:List α}(g:sA x e z a<|l.map c)(N:∀y,L (c y)=z){i:Int}(k:aF (L l) i){j:Nat}{v t}(G:j<z)(D:eY (nrm<|eR x v)=V [nrm<|eR x v])(E:eN (nrm<|eR x v)=U)(hI:eB v=[]){o:AV->be}(M:(c<|gd l i.toNat).set j (nrm<|eR x v)=c t)(A:∀p h y,Fx x y (aA a)->sA y e z a ((l.set i.toNat t).map c)->o p h y):rV (cz z x a<|iv i) λp=>rV (iQ j x p) λh=>sV (aK 1 x h v) (o p h):=by refine ixG g (by simpa using k) λb m C w=>?_;have H:i.toNat<L l:=(by have:=k.1;have:=k.2;omega);simp only[rR,w,df,aY,aj];refine aQz (r:=c<|gd l i.toNat) w (by grind [bT]) (by simp_all) D E hI λy F q=>?_;have n:(l.map c++m).set i.toNat ((c<|gd l i.toNat).set j<|nrm<|eR x v)=(l.set i.toNat t).map c++m:=(by simp_all);rw[n] at q;exact A _ _ y (by grind [aA]) (.inr ⟨b,m,by rw[C];simp,q⟩)
end
def sz5(s:I5):Prop:=L s.bW.ak=3/\L s.bW.done=1/\L s.bW.ay=4/\L s.cells=5/\L s.bU=1/\L s.count=4/\(∀q∈s.bW.ak,L q.bk<=1)/\∀c∈s.count,0<=c/\c<=400
structure Bg(Y x:ae)(b:Id)(l:d0)(a0 v4 v8:Nat)(a1 a2 a3 a4 a5 a6:AV):Prop where
 ex:∃s:I5,SnL Y x s a1 a2 a3 a4 a5 a6/\sz5 s/\box x (5,v8)=V ⟨40,7,U,U,[[a1,iv s.bW.tx,a2,a3,a4,a5,a6]]⟩
 b4:box x (4,v4)=V ⟨40,7,U,U,[BF]⟩
 tp:∃a',Tp x b l a'/\a0<=a'
 kx:Kx [14,15,16] Y x
 pb:b.1=14\/b.1=15\/b.1=16
 no:(∀z,box Y (4,v4)≠V z)/\∀z,box Y (5,v8)≠V z
section
variable{Y x y:ae}{b:Id}{l:d0}{a0 v4 v8 d:Nat}{a1 a2 a3 a4 a5 a6:AV}{K:be}{KS:ae->Prop}
theorem Bg.le(B:Bg Y x b l a0 v4 v8 a1 a2 a3 a4 a5 a6)(h:L Y=4096):L x=4096:=B.kx.len.trans h
theorem aPS(B:Bg Y x b l a0 v4 v8 a1 a2 a3 a4 a5 a6)(t:L Y=4096){n:Int}(r:∀(u:Int) y,0<=u->(1<=n->u<n)->Bg Y y b l a0 v4 v8 a1 a2 a3 a4 a5 a6->K (iv u) y):cV 115 [.p b 0 0,iv n] x d K:=by obtain⟨s,S,v,j⟩:=B.ex;obtain⟨w,T,A⟩:=B.tp;refine aS3 (aA a6) (B.le t) B.pb T (λq g=>⟨.inl (S.p6 q g).2,?_⟩) λu e y k o i z _ a kp=>r u y k o ⟨⟨s,⟨a.gr S.g1 λq h=>by rw[(S.p1 q h).2];decide,a.gr S.g2 λq h=>by rw[(S.p2 q h).2];decide,a.gr S.g3 λq h=>by rw[(S.p3 q h).2];decide,a.gr S.g4 λq h=>by rw[(S.p4 q h).2];decide,a.gr S.g5 λq h=>by rw[(S.p5 q h).2];decide,?_,S.p1,S.p2,S.p3,S.p4,S.p5,S.p6⟩,v,a.kq j⟩,a.kq B.b4,⟨e,i,by omega⟩,B.kx.kx a (by simp),B.pb,B.no⟩;rcases S.g6 with⟨_,rfl⟩|⟨c,m,rfl,h⟩;simp[aA] at g;grind [aA];rcases S.g6 with h|⟨c,m,rfl,h⟩;exact .inl h;exact .inr ⟨c,m,rfl,kp c (by simp[aA]) _ h⟩
theorem a5S(B:Bg Y x b l a0 v4 v8 a1 a2 a3 a4 a5 a6)(n:L Y=4096){t:Int}(m:∀(u:Int) y,(u= -1\/aF 4 u)->Bg Y y b l a0 v4 v8 a1 a2 a3 a4 a5 a6->K (iv u) y):cB 116 [.p b 0 0, .a [a1,iv t,a2,a3,a4,a5,a6]] x d K:=by obtain⟨s,S,j,A⟩:=B.ex;obtain⟨w,T,D⟩:=B.tp;have o:=B.pb;have v:=j.2.2.2.2.2.1;refine jH rfl (bdc (B.le n) T S.g6<|by omega) ?_;rintro _ y ⟨u,h,rfl,i,k,C,F⟩;rw[v] at i;have c:∀{a:AV} {e:TypeId} {z:Nat} {r:List (dM)},sA x e z a r->sA y e z a r:=λg=>g.fx F<|aTE T g;have E:∀{q:Id},q.1≠14->q.1≠15->q.1≠16->q∉[b]:=(by grind);exact⟨F.len,m u y i ⟨⟨s,⟨c S.g1,c S.g2,c S.g3,c S.g4,c S.g5,c S.g6,S.p1,S.p2,S.p3,S.p4,S.p5,S.p6⟩,j,by grind [Fx.keep]⟩,(by grind [Fx.keep,Bg.b4]),⟨h,k,by omega⟩,B.kx.fx F (by simp_all),o,B.no⟩⟩
theorem Bg.wr(B:Bg Y x b l a0 v4 v8 a1 a2 a3 a4 a5 a6){Lw}(F:Fx x y Lw)(h:∀q∈Lw,bK Y q/\(q.1=6\/q.1=32\/q.1=10\/q.1=14))(i:∀q∈Lw,∀z,box x q=V z->z.var=U->False){s}(S:SnL Y y s a1 a2 a3 a4 a5 a6)(k:sz5 s)(g:∃z,box x (5,v8)=V z/\z=⟨40,7,U,U,[[a1,iv s.bW.tx,a2,a3,a4,a5,a6]]⟩):Bg Y y b l a0 v4 v8 a1 a2 a3 a4 a5 a6:=by obtain⟨a,T,c⟩:=B.tp;obtain⟨z,j,rfl⟩:=g;exact⟨(by grind [Fx.keep]),(by grind [Fx.keep,Bg.b4]),⟨a,T.fx F λe=>i b e _ T.bx rfl,c⟩,B.kx.fx F (by grind [bK.no]),B.pb,B.no⟩
theorem baw(B:Bg Y x b l a0 v4 v8 a1 a2 a3 a4 a5 a6){i v}(o:aF 4 i)(n:0<=v/\v<=400){e:be}(k:∀p y,Bg Y y b l a0 v4 v8 a1 a2 a3 a4 a5 a6->e p y):rV (cz 1 x a6<|iv i) λp=>sV (aK 1 x p<|iv v) (e p):=by obtain⟨s,S,a,g⟩:=B.ex;have q:=a.2.2.2.2.2.1;refine aR5 S.g6 (by simp_all) λp y F j=>k p y (B.wr F (by grind [SnL.p6]) (aNO S.g6) (s:={s with count:=s.count.set i.toNat v}) ⟨S.g1.fn F S.g6,S.g2.fn F S.g6,S.g3.fn F S.g6,S.g4.fn F S.g6,S.g5.fn F S.g6,j,S.p1,S.p2,S.p3,S.p4,S.p5,S.p6⟩ ⟨a.1,a.2.1,a.2.2.1,a.2.2.2.1,a.2.2.2.2.1,by grind,a.2.2.2.2.2.2.1,λc m=>by rcases CC m with h|rfl;exact a.2.2.2.2.2.2.2 c h;exact n⟩ ⟨_,g,rfl⟩)
theorem bav(B:Bg Y x b l a0 v4 v8 a1 a2 a3 a4 a5 a6){i v}(m:aF 5 i){a:be}(j:∀p y,Bg Y y b l a0 v4 v8 a1 a2 a3 a4 a5 a6->a p y):rV (cz 1 x a4<|iv i) λp=>sV (aK 1 x p<|iv v) (a p):=by obtain⟨s,S,k,c⟩:=B.ex;have n:=k.2.2.2.1;refine aR5 S.g4 (by simp_all) λp y F e=>j p y (B.wr F (by grind [SnL.p4]) (aNO S.g4) (s:={s with cells:=s.cells.set i.toNat v}) ⟨S.g1.fn F S.g4,S.g2.fn F S.g4,S.g3.fn F S.g4,e,S.g5.fx F (λq h g=>by have:=(S.p5 q h).2;have:=(S.p4 q g).2;omega),S.g6.fn F S.g4,S.p1,S.p2,S.p3,S.p4,S.p5,S.p6⟩ (by grind [sz5]) ⟨_,c,rfl⟩)
theorem bay(B:Bg Y x b l a0 v4 v8 a1 a2 a3 a4 a5 a6){i v}(m:aF 1 i){a:be}(j:∀p y,Bg Y y b l a0 v4 v8 a1 a2 a3 a4 a5 a6->a p y):rV (cz 1 x a5<|iv i) λp=>sV (aK 1 x p<|iv v) (a p):=by obtain⟨s,S,k,c⟩:=B.ex;have n:=k.2.2.2.2.1;refine aR5 S.g5 (by simp_all) λp y F e=>j p y (B.wr F (by grind [SnL.p5]) (aNO S.g5) (s:={s with bU:=s.bU.set i.toNat v}) ⟨S.g1.fn F S.g5,S.g2.fn F S.g5,S.g3.fn F S.g5,S.g4.fx F (λq h g=>by have:=(S.p4 q h).2;have:=(S.p5 q g).2;omega),e,S.g6.fn F S.g5,S.p1,S.p2,S.p3,S.p4,S.p5,S.p6⟩ (by grind [sz5]) ⟨_,c,rfl⟩)
theorem a5T(B:Bg Y x b l a0 v4 v8 a1 a2 a3 a4 a5 a6){i}(e:aF 3 i){j v}(E:(j=0/\∃u:Int,v=iv u)\/(j=1/\∃(u:Int) (t o:Bool),v= .l [[iv u]] t o))(w:∀y,Bg Y y b l a0 v4 v8 a1 a2 a3 a4 a5 a6->KS y):rV (cz 2 x a1<|iv i) λp=>rV (iQ j x p) λG=>sV (aK 1 x G v) KS:=by obtain⟨s,S,a,g⟩:=B.ex;have H:=a.1;obtain⟨t,D,C,z,m,n,r⟩:∃t:cg,(cg.c<|gd s.bW.ak i.toNat).set j (nrm<|eR x v)=t.c/\L t.bk<=1/\j<2/\eY (nrm<|eR x v)=V [nrm<|eR x v]/\eN (nrm<|eR x v)=U/\eB v=[]:=(by rcases E with⟨rfl,u,rfl⟩|⟨rfl,u,t,o,rfl⟩;refine⟨⟨u,(gd s.bW.ak i.toNat).bk⟩,rfl,a.2.2.2.2.2.2.1 (gd s.bW.ak i.toNat) (dB ?_),by decide,rfl,rfl,rfl⟩;have:=e.1;have:=e.2;omega;exact⟨⟨(gd s.bW.ak i.toNat).aNN,[u]⟩,rfl,by simp,by decide,rfl,rfl,rfl⟩);refine a7V S.g1 (λ_=>rfl) (by simp_all) z m n r D λ_ _ y F k=>w y (B.wr F (by grind [SnL.p1]) (aNO S.g1) (s:={s with bW:={s.bW with ak:=s.bW.ak.set i.toNat t}}) ⟨k,S.g2.fn F S.g1,S.g3.fn F S.g1,S.g4.fn F S.g1,S.g5.fn F S.g1,S.g6.fn F S.g1,S.p1,S.p2,S.p3,S.p4,S.p5,S.p6⟩ ⟨by grind,a.2.1,a.2.2.1,a.2.2.2.1,a.2.2.2.2.1,a.2.2.2.2.2.1,λq A=>?_,a.2.2.2.2.2.2.2⟩ ⟨_,g,rfl⟩);rcases CC A with h|rfl;exact a.2.2.2.2.2.2.1 q h;exact C
theorem bfp{e}{z:Nat}{bA r q}{i:Nat}{cs}(c:box x q=V ⟨e,z,U,I,bA⟩)(g:bA[i]?=V r)(m:L r=z)(n:L cs=z)(o:cs.all eN=U)(k:nrm (eR x<|.a cs)= .a cs)(hI:eB (.a cs)=[])(j:∀Y',Fx x Y' [q]->box Y' q=V ⟨e,z,U,I,bA.set i cs⟩->KS Y'):sV (aK z x (.p q i 0)<|.a cs) KS:=by have h:aK z x (.p q i 0) (.a cs)=V (wr x q ⟨e,z,U,I,bA.set i cs⟩):=(by simp only[aK,aBG,c,eE,brP,hI,kills,List.foldl_nil,k,pW,eY,g];grind);rw[h];exact j _ (wc c)<|lO c
theorem baC(B:Bg Y x b l a0 v4 v8 a1 a2 a3 a4 a5 a6){i st}(j:aF 4 i)(n:∀y,Bg Y y b l a0 v4 v8 a1 a2 a3 a4 a5 a6->KS y):rV (cz 3 x a3<|iv i) λp=>sV (aK 3 x p<|.a [iv st,iv 0,bv I]) KS:=by obtain⟨s,S,v,k⟩:=B.ex;have z:=v.2.2.1;have w:i.toNat<L s.bW.ay:=(by have:=j.1;have:=j.2;omega);refine ixG S.g3 (by simp_all) λq m o t=>?_;refine bfp t (r:=aoC.c<|gd s.bW.ay i.toNat) (by grind [bT]) rfl rfl rfl rfl rfl λy F h=>?_;have e:Fx x y (aA a3):=(by grind [aA]);have g:(s.bW.ay.map aoC.c++m).set i.toNat [iv st,iv 0,bv I]=(s.bW.ay.set i.toNat ⟨st,0,I⟩).map aoC.c++m:=(by rw[List.set_append_left _ _ (by grind),vB];rfl);rw[g] at h;exact n y (B.wr e (by grind [SnL.p3]) (aNO S.g3) (s:={s with bW:={s.bW with ay:=s.bW.ay.set i.toNat ⟨st,0,I⟩}}) ⟨S.g1.fn e S.g3,S.g2.fn e S.g3, .inr ⟨q,m,by rw[o];simp,h⟩,S.g4.fn e S.g3,S.g5.fn e S.g3,S.g6.fn e S.g3,S.p1,S.p2,S.p3,S.p4,S.p5,S.p6⟩ (by grind [sz5]) ⟨_,k,rfl⟩)
end
section
variable{Y x y:ae}{b:Id}{l:d0}{a0 v4 v8 d:Nat}{a1 a2 a3 a4 a5 a6:AV}{K:be}{KS:ae->Prop}
theorem bat(B:Bg Y x b l a0 v4 v8 a1 a2 a3 a4 a5 a6){i f}(k:aF 4 i){c:AV->be}(h:∀p a y,Bg Y y b l a0 v4 v8 a1 a2 a3 a4 a5 a6->c p a y):rV (cz 3 x a3<|iv i) λp=>rV (iQ 2 x p) λa=>sV (aK 1 x a<|bv f) (c p a):=by obtain⟨s,S,j,e⟩:=B.ex;have m:=j.2.2.1;refine a7V S.g3 (λ_=>rfl) (by simp_all) (by decide) rfl rfl rfl (t:={gd s.bW.ay i.toNat with atomic:=f}) rfl λp a y F g=>h p a y (B.wr F (by grind [SnL.p3]) (aNO S.g3) (s:={s with bW:={s.bW with ay:=s.bW.ay.set i.toNat {gd s.bW.ay i.toNat with atomic:=f}}}) ⟨S.g1.fn F S.g3,S.g2.fn F S.g3,g,S.g4.fn F S.g3,S.g5.fn F S.g3,S.g6.fn F S.g3,S.p1,S.p2,S.p3,S.p4,S.p5,S.p6⟩ (by grind [sz5]) ⟨_,e,rfl⟩)
theorem bax(B:Bg Y x b l a0 v4 v8 a1 a2 a3 a4 a5 a6){i f}(g:aF 1 i)(j:∀y,Bg Y y b l a0 v4 v8 a1 a2 a3 a4 a5 a6->KS y):rV (cz 1 x a2<|iv i) λp=>sV (aK 1 x p<|bv f) KS:=by obtain⟨s,S,o,h⟩:=B.ex;have v:=o.2.1;have t:i.toNat<L s.bW.done:=(by have:=g.1;have:=g.2;omega);refine ixG S.g2 (by simp_all) λq m k n=>?_;refine aQz (x:=bv f) (r:=cb<|gd s.bW.done i.toNat) n (by grind [bT]) (by simp[cb]) rfl rfl rfl λy F e=>?_;have a:Fx x y (aA a2):=(by grind [aA]);have c:(s.bW.done.map cb++m).set i.toNat ((cb<|gd s.bW.done i.toNat).set 0<|nrm<|eR x<|bv f)=(s.bW.done.set i.toNat f).map cb++m:=(by rw[List.set_append_left _ _ (by grind),vB];rfl);rw[c] at e;exact j y (B.wr a (by grind [SnL.p2]) (aNO S.g2) (s:={s with bW:={s.bW with done:=s.bW.done.set i.toNat f}}) ⟨S.g1.fn a S.g2, .inr ⟨q,m,by rw[k];simp,e⟩,S.g3.fn a S.g2,S.g4.fn a S.g2,S.g5.fn a S.g2,S.g6.fn a S.g2,S.p1,S.p2,S.p3,S.p4,S.p5,S.p6⟩ (by grind [sz5]) ⟨_,h,rfl⟩)
theorem baD(B:Bg Y x b l a0 v4 v8 a1 a2 a3 a4 a5 a6){t}(h:∀y,Bg Y y b l a0 v4 v8 a1 a2 a3 a4 a5 a6->KS y):sV (aK 1 x (.p (5,v8) 0 1)<|iv t) KS:=by obtain⟨s,S,k,e⟩:=B.ex;obtain⟨c,T,i⟩:=B.tp;have j:=B.pb;refine stC e rfl (by simp) λy F g=>h y ⟨⟨{s with bW:={s.bW with tx:=t}},(by have a:=S.keep F (by simp);exact⟨a.g1,a.g2,a.g3,a.g4,a.g5,a.g6,a.p1,a.p2,a.p3,a.p4,a.p5,a.p6⟩),k,g⟩,F.kq B.b4,⟨c,(by grind [Tp.fx]),i⟩,B.kx.fx F (by grind [Bg.no]),j,B.no⟩
theorem baB(B:Bg Y x b l a0 v4 v8 a1 a2 a3 a4 a5 a6):∃st:Nat->Int,∀{i K},aF 4 i->K (iv<|st i.toNat)->rV (cz 3 x a3<|iv i) λp=>rV (iQ 0 x p) λn=>rV (Iy J x n) K:=by obtain⟨s,S,j,o⟩:=B.ex;have v:=j.2.2.1;refine⟨λk=>(gd s.bW.ay k).cQ,λ{i K} a h=>?_⟩;have t:i.toNat<L s.bW.ay:=(by have:=a.1;have:=a.2;omega);refine ixG S.g3 (by simp_all) λq m r e=>?_;have g:(s.bW.ay.map aoC.c++m)[i.toNat]?=V (aoC.c<|gd s.bW.ay i.toNat):=(by grind [bT]);simp only[rR,aC5,e,df,aPy,g,aY,aj,ip,aoC.c,k1A];exact h
theorem aN5(B:Bg Y x b l a0 v4 v8 a1 a2 a3 a4 a5 a6){j}:iQ j x (.p (5,v8) 0 0)=V (.p (5,v8) 0 j):=by grind [Bg.ex,rR]
theorem aRC(B:Bg Y x b l a0 v4 v8 a1 a2 a3 a4 a5 a6):Iy J x (.p (5,v8) 0 0)=V a1:=by grind [Bg.ex,aC5,k1A]
theorem baz(B:Bg Y x b l a0 v4 v8 a1 a2 a3 a4 a5 a6):Iy J x (.p (5,v8) 0 2)=V a2:=by grind [Bg.ex,aC5,k1A]
theorem aS0(B:Bg Y x b l a0 v4 v8 a1 a2 a3 a4 a5 a6):Iy J x (.p (5,v8) 0 3)=V a3:=by obtain⟨s,S,c,a⟩:=B.ex;grind [aC5,k1A]
def a5U(B:Bg Y x b l a0 v4 v8 a1 a2 a3 a4 a5 a6):Iy J x (.p (5,v8) 0 4)=V a4:=by obtain⟨s,S,c,a⟩:=B.ex;rw[aC5,a];simp[k1A]
def baA(B:Bg Y x b l a0 v4 v8 a1 a2 a3 a4 a5 a6):Iy J x (.p (5,v8) 0 5)=V a5:=by obtain⟨s,S,c,a⟩:=B.ex;rw[aC5,a];simp[k1A]
def a5V(B:Bg Y x b l a0 v4 v8 a1 a2 a3 a4 a5 a6):Iy J x (.p (5,v8) 0 6)=V a6:=by obtain⟨s,S,c,a⟩:=B.ex;rw[aC5,a];simp[k1A]
def a5W(B:Bg Y x b l a0 v4 v8 a1 a2 a3 a4 a5 a6):∃t:Int,Iy (V 7) x (.p (5,v8) 0 0)=V (.a [a1,iv t,a2,a3,a4,a5,a6]):=by obtain⟨s,S,e,c⟩:=B.ex;exact⟨s.bW.tx,by rw[aC5,c];rfl⟩
def aV3(B:Bg Y x b l a0 v4 v8 a1 a2 a3 a4 a5 a6):fS x a1=V (iv (3:Nat))/\fS x a4=V (iv (5:Nat))/\fS x a6=V (iv (4:Nat)):=by obtain⟨s,S,a,c⟩:=B.ex;refine⟨?_,?_,?_⟩;rw[S.g1.ln,bJ,a.1];rw[S.g4.ln,bJ,a.2.2.2.1];rw[S.g6.ln,bJ,a.2.2.2.2.2.1]
end
def baP{Y}:aX bH 9 Y [(0,iv 2),(1,iv 2),(2,iv 2),(3,iv 2),(4,iv 0),(5,iv 1),(6,iv 3),(7,iv 4),(8,iv 5)]=V (.l ([2,2,2,2,0,1,3,4,5].map ci) U U,Y):=by kernel_rfl
section
attribute[local irreducible] aX
def bdb{Y b l}{a:Nat}(m:L Y=4096)(hb:b.1=14\/b.1=15\/b.1=16)(T:Tp Y b l a):∃r Y1,(∃(s:I5) (E:Nat),r= .a s.c/\sz5 s/\Tp Y1 b l E/\a<=E/\Kx [14,15,16] Y Y1)/\cZ aS GG 55 [.p b 0 0, .a aNE.c] Y r Y1:=by generalize hQ:(λ(r:AV) (y:ae)=>∃(s:I5) (E:Nat),aOo y r= .a s.c/\sz5 s/\Tp (kills y<|aNW r) b l E/\a<=E/\Kx [14,15,16] Y (kills y<|aNW r))=Qq;refine aQR (R:=Qq) ?_ (by grind);refine bhw m rfl λs2 v3 K2 br nf b3=>?_;have F2:=K2.fx [];have aG:=F2.len.trans m;simp only[aSH];refine I7 aG λv4 s4 F4 N4 b4=>?_;have M:=F2.trans F4;have ah:=M.len.trans m;have c3:=F4.kq b3;have aP:aN (V 6) aNE.c=V (.a aNE.c):=rfl;simp only[qz 4,eQ,c3,aP,ip];refine jH rfl (aXI (w:=aNE) ah (by decide) (by decide) (by decide)<|by decide) ?_;rintro _ s7 ⟨a1,a2,a3,a4,a5,a6,rfl,S,F7⟩;refine⟨F7.len,?_⟩;have aJ:=F7.len.trans ah;simp only[qz 6,qy 8];refine I7 aJ λv8 s9 F9 N8 b8=>?_;refine stW b8 rfl rfl λaQ W c8=>?_;have az:Fx s4 s9 []:=F7.trans F9;have af:Fx Y s9 []:=M.trans az;have n8:=(N8.old<|M.trans F7).no;have n4:=(N4.old F2).no;have P:Bg Y aQ b l a v4 v8 a1 a2 a3 a4 a5 a6:=⟨⟨aH6 aNE,((S.keep F9<|by simp).keep W<|by simp).old M,⟨rfl,rfl,rfl,rfl,rfl,rfl,by decide,by decide⟩,c8⟩,(by grind [Fx.keep]),⟨a,(T.fx af<|by simp).fx W (by grind),dA _⟩,(af.kx<|by simp).fx W (by simp_all),hb,n4,n8⟩;have bi:=P.le m;have aC:∀{x:ae},Bg Y x b l a v4 v8 a1 a2 a3 a4 a5 a6->rV (Iy (V 7) x<|.p (5,v8) 0 0) λaw=>sV (aK 7 x (.p (4,v4) 0 0) aw) λab=>rV (Iy (V 7) ab<|.p (4,v4) 0 0) λax=>aNR Qq ab [ax]:=λ{x} B=>(by obtain⟨s,S,hz,b8⟩:=B.ex;obtain⟨E,T',ha⟩:=B.tp;have O:=@r7A;simp only[u1,b8,O,aY,ip];refine stW B.b4 rfl rfl λy F aB=>?_;simp only[u1,aB,O,aY];have S':=S.keep F (by simp);show Qq (.a [a1,iv s.bW.tx,a2,a3,a4,a5,a6]) y;rw[<-hQ];refine⟨s,E,?_,hz,(T'.fx F<|by grind).fx (aOp _ _)<|λe=>(S'.ids b e).1.no _ T.bx,ha,(B.kx.fx F<|by simp_all).fx (aOp _ _) λq hq=> .inr (S'.ids q hq).1.no⟩;show AV.a (List.map gK<|List.map (gi y) _)=_;rw[vA];exact brD AV.a S'.lz);have i4:∀{k:Nat},k<4->aF 4 (k:Int):=λh=>⟨by omega,by omega⟩;simp only[qz 10,aN5 P,a5V P,(aV3 P).2.2,aY];refine yV 4 (λ_ _ y=>Bg Y y b l a v4 v8 a1 a2 a3 a4 a5 a6) P ?_;rintro k _ x hk B;rcases t:Q ((k:Int)<((4:Nat):Int)) with _|_;simp only[qz 25,aI,au,av4,aY,t,↓iB,aN5 B,aRC B,(aV3 B).1];refine yV 3 (λ_ _ y=>Bg Y y b l a v4 v8 a1 a2 a3 a4 a5 a6) B ?_;rintro k _ x hk B;rcases t:Q ((k:Int)<((3:Nat):Int)) with _|_;simp only[qz 103,aI,au,av4,aY,t,↓iB];refine bpl (λg=>∀{x:ae},Bg Y x b l a v4 v8 a1 a2 a3 a4 a5 a6->g [] x) ?_ λg X=>?_;intro x B;simp only[qz 159,aI];refine bpl (λg=>∀{x:ae},Bg Y x b l a v4 v8 a1 a2 a3 a4 a5 a6->g [] x) ?_ λg Z=>?_;intro x B;simp only[qz 171,aI,aN5 B,a5U B,(aV3 B).2.1,aY];refine yV 5 (λ_ _ y=>Bg Y y b l a v4 v8 a1 a2 a3 a4 a5 a6) B ?_;rintro k _ x hk B;rcases t:Q ((k:Int)<((5:Nat):Int)) with _|_;simp only[qz 199,qy 54,aI,au,av4,aY,t,↓iB];exact aC B;have o:k<5:=(by grind);simp only[qz 199,qy 54,aI,au,av4,aY,t,↓iC,aN5 B,a5U B];refine aPS B m λu y N G i=>?_;simp only[qz 50,au];refine bav i ⟨by omega,by omega⟩ λp y2 j=>?_;simp only[qz 52];refine dT (by simp[eL,lb,lbV,zt,dC,dK]) ?_;simp only[au,cS,aY];exact yU o j;simp only[qz 173];refine aPS B m λu y N G i=>?_;rcases n:Q (u=2) with _|_;simp only[qz 42,iM,aY,n,↓iB];exact Z i;simp only[qz 42,iM,aY,n,↓iC,aN5 i,baz i];refine bax i ⟨by omega,by omega⟩ λy2 j=>?_;simp only[qz 44,aN5 j,baA j,aY];refine aPS j m λu2 y3 h2 h3 D=>?_;simp only[qz 46];refine bay D ⟨by omega,by omega⟩ λp y4 B5=>?_;simp only[qz 48];refine dT (by simp[eL,lb,lbV,zt,dC,dK]) ?_;exact Z B5;simp only[qz 161];refine aPS B m λu y N G i=>?_;rcases n:Q (u=2) with _|_;simp only[qz 36,iM,aY,n,↓iB];exact X i;obtain⟨t7,O⟩:=a5W i;simp only[qz 36,iM,aY,n,↓iC,O];refine a5S i m λu2 y2 _ j=>?_;simp only[qz 38,qy 40,aN5 j,aY];exact baD j λy3 D=>X D;have o:k<3:=(by grind);simp only[qz 103,aI,au,av4,aY,t,↓iC];refine bpl (λg=>∀y,Bg Y y b l a v4 v8 a1 a2 a3 a4 a5 a6->g [] y) ?_ λg v=>?_;intro y B;simp only[qz 123,aI,au,cS,aY];exact yU o B;obtain⟨t7,O⟩:=a5W B;simp only[qz 125,O,aY];refine a5S B m λu y hu i=>?_;have i3:aF 3 (k:Int):=⟨by omega,by omega⟩;rcases qu:Q (u<0) with _|_;have al:aF 4 u:=(by simp only[aNK] at qu;rcases hu with h|h;omega;exact h);have own:∀{z:ae},Bg Y z b l a v4 v8 a1 a2 a3 a4 a5 a6->rV (cz 2 z a1<|iv k) λp=>rV (iQ 0 z p) λp'=>sV (aK 1 z p'<|iv u) λav=>g [] av:=λ{z} Bz=>a5T Bz i3 (by simp) λy B=>v y B;rcases A:Q ((k:Int)=0) with _|_;rcases n:Q ((k:Int)=2) with _|_;simp only[qz 26,qy 34,au,u0,av4,iM,aOq,qu,A,n,↓jN,bcW,aN5 i,aRC i,bt];exact own i;simp only[qz 26,qy 34,au,u0,av4,iM,aPh,qu,n,↓jA,aRV,bt];refine aPS (d:=85) i m λu2 z N G j=>?_;rcases C:Q (u2=1) with _|_;simp only[u0,iM,C,A,↓jN,bcW,aN5 j,aRC j,bt];exact own j;simp only[au,u0,iM,C,A,aS1,↓jN,bcW,aN5 j,aRC j,qz 30,qy 32,bt];exact a5T j i3 (by simp) λy B=>v y B;have n:Q ((k:Int)=2)=I:=(by simp_all);obtain⟨st,ak⟩:=baB i;simp only[qz 26,qy 34,au,u0,av4,iM,aOq,qu,A,n,↓jA,↓jN,aRV,bcW,aN5 i,aRC i,aS0 i,bt];refine ak al ?_;rcases C:Q (st u.toNat=3) with _|_;simp only[u0,iM,C,↓jA,bcW,aN5 i,aS0 i];refine ak al ?_;rcases q4:Q (st u.toNat=4) with _|_;simp only[u0,iM,q4,bt];exact own i;simp only[u0,iM,q4,bt];exact v _ i;simp only[u0,iM,C,↓jN,aRV,bt];exact v _ i;simp only[qz 26,qy 34,au,u0,av4,iM,qu,bt];exact v _ i;have o:k<4:=(by grind);simp only[qz 25,aI,au,av4,aY,t,↓iC];refine bpl (λg=>∀y,Bg Y y b l a v4 v8 a1 a2 a3 a4 a5 a6->g [] y) ?_ λg v=>?_;intro y B;simp only[qz 45,aI,au,cS,aY];exact yU o B;simp only[qz 47,baP,bQ,qz 12];refine aPS B m λu y N G i=>?_;have ag:=G (by decide);simp only[qz 14,tf,ci,qM,aY];refine⟨⟨N,by simpa using ag⟩,?_⟩;refine btr (λg=>∀st:Int,g [iv st]) (λst=>?_) λg H=>?_;skip;have aD:bM btz aM7 [(0,iv st)]=V (.a [iv st,iv 0,bv I]):=rfl;simp only[qz 63,aI,au,aN5 i,aS0 i,aD,aY];refine baC i (i4 o) λy i=>?_;rcases A:Q (st≠0) with _|_;simp only[qz 16,au,u0,av6,A,↓jN,bcW,bt];exact v _ i;rcases t:Q (st≠1) with _|_;simp only[qz 16,au,u0,av6,A,t,↓jA,bt];exact v _ i;simp only[qz 16,au,u0,av6,A,t,aN5 i,a5V i,↓jA,bt];refine aPS i m λu y2 N G j=>?_;simp only[qz 18,au,cS,aY];have ag:=G (by decide);refine baw j (i4 o) (by grind [eM]) λp y3 D=>?_;simp only[qz 20];refine dT (by simp[eL,lb,lbV,zt,dC,dK]) ?_;simp only[aN5 D,aS0 D,aY];refine aPS D m λu2 y4 h2 h3 B5=>?_;simp only[qz 22,au,iM,aY];refine bat B5 (i4 o) λp p' y5 B6=>?_;simp only[qz 24];refine dT (by simp[eL,lb,lbV,zt,dC,dK]) ?_;exact v _ B6;simp only[qz 65,au];generalize gd ([2,2,2,2,0,1,3,4,5]:d0) u.toNat=st;rcases n:Q ((k:Int)=0) with _|_;simp only[u0,iM,n,↓jN,bcW,bt];exact H _;rcases C:Q (st=0) with _|_;simp only[u0,iM,n,C,↓jA,aRV,bt];exact H _;simp only[u0,iM,n,C,↓jA,aRV,bt];exact H _
end
def bfA:dO:=aR3
def bfy:eJ bfA:=aPL
def bcy:=@aPg
section
attribute[local irreducible] aX
def a91:=kW 23 [(5,([23],[0,3,4,6,7,11,12,22])),(8,([],[0,3,4,6,7,11,12,22,23])),(12,([11],[0,3,6,7,12])),(19,([],[0,3,6,7,11,12,14,15]))]
def bhB{d b c e f}:=yB2 40 7 6 31 6 7 bfy func56 a91 b c [d, .a b, .a c,e,f]
end
end Go.Ab
