/- Part of the proof of EncodeBase. -/
import Derived.Test.YtcceijpmabdflaaGreatDoorE
set_option linter.all false
set_option maxRecDepth 100000
open And renaming intro->ai
open Bool renaming and_eq_true->bN,false->I,false_eq_true->eE,not_eq_false'->fK,or_eq_false_iff->cP,or_true->wY,true->U
open Decidable renaming decide->Q,not_not->aNS
open Go.IntKind renaming i64->dq
open Go.Proofs.Tryz renaming prog->aS
open Int renaming toNat_natCast->bh
open List renaming all_eq_true->dV,append_nil->cL,cons_append->zn,drop_succ_cons->nM,drop_zero->iy,ext_getElem?->aqI,flatMap_cons->Cz,flatMap_nil->RN,getElem?_append_left->xe,getElem?_cons_zero->qh,getElem?_eq_getElem->eC,getElem?_map->bj9,getElem_of_mem->ou,length->L,length_append->a6G,length_cons->bZ,length_map->bJ,length_nil->aO1,map_append->dg,map_cons->ji,map_map->vA,map_nil->mU,map_set->vB,mem_append->dF,mem_cons->eW,mem_filter->jW,mem_map->dN,mem_map_of_mem->CA,mem_or_eq_of_mem_set->CC,mem_singleton->cE,nil_append->dW,nodup_append->xl,not_mem_nil->ql,range->aH,range_succ->qn,replicate->er,set_cons_zero->RY,set_eq_take_append_cons_drop->GP,take_length->gV,take_succ_eq_append_getElem->iJ,take_zero->CE
open Nat renaming eq_zero_or_pos->oD,le_refl->dA,lt_or_ge->jj,mul_le_mul_right->qo,zero_add->aj
open Ne renaming symm->Sa
open Option renaming bind_some->aQd,map_some->df,none->J,some->V
namespace Go.Ab
open Go Go.RowKit Go.Proofs
structure Tp(Y:ae)(b:Id)(l:List Int)(at':Nat):Prop where
 bx:box Y b=V ⟨117,2,U,U,[[sl cu l,iv at']]⟩
 le:at'<=L l
 ok:∀x∈l,0<=x/\x<256
 ll:L l<4611686018427387904
theorem Tp.fx{Y Y':ae}{b:Id}{l:List Int}{a:Nat}{ks:List Id}(T:Tp Y b l a)(F:Fx Y Y' ks)(h:b∉ks):Tp Y' b l a:=⟨F.keep _ _ h T.bx,T.le,T.ok,T.ll⟩
def a6S{Y:ae}{l:List Int}:fS Y (sl cu l)=V (iv<|L l):=cT
def aWF{Y:ae}{b:Id}{l:List Int}{a:Nat}(q:L Y=4096)(T:Tp Y b l a)(n:Int):∃r Y1,(∃(x:Int) (f:Nat),r=iv x/\0<=x/\(1<=n->x<n)/\Tp Y1 b l f/\a<=f/\(a<L l->1<=n->f=a+1)/\Fx Y Y1 [b])/\cZ aS GG 115 [.p b 0 0,iv n] Y r Y1:=by refine bgg q ?_;have i:=T.bx;have u:=T.ll;simp+contextual only[aUF,qb i,u0,u1,i,aRV,bfx,aRa,aj,↓uL];refine⟨λh=>?_,λh=>?_⟩;refine⟨0,a,rfl,by omega,λh=>by omega,T,by omega,λh1 h2=>?_,Fx.refl _ _⟩;grind;simp only[cP,j5] at h;have c:a<L l:=(by omega);rw[fX<|by omega];refine A0 i rfl (by simp) λY1 j g=>?_;have s:=T.ok _<|ig c;simp only[qz 2,qb g,u0,u1,g,aRV,bfx,aRa,aj,List.set_cons_succ,RY,a6E,cu,qM,aS6,aPR,aP1,↓uL];have k:dq.wrap (((a+1:Nat):Int)-1)=(a:Int):=(by grind [eM]);rw[k,bh,eM (x:=gd l a) (by omega)<|by omega];refine⟨dJ c,by omega,_,a+1,rfl,Int.tmod_nonneg _ s.1,λh1=>Int.tmod_lt_of_pos _ (by omega),⟨g,c,T.ok,T.ll⟩,by omega,λ_ _=>rfl,j⟩
def a55{Y:ae}{b:Id}{l:List Int}{a:Nat}(f:L Y=4096)(T:Tp Y b l a){n:Int}{d:Nat}{K:be}(g:∀(x:Int) (c:Nat) Y1,0<=x->(1<=n->x<n)->Tp Y1 b l c->a<=c->(a<L l->1<=n->c=a+1)->Fx Y Y1 [b]->K (iv x) Y1):cB 115 [.p b 0 0,iv n] Y d K:=by refine jH rfl (aWF f T n) ?_;grind [Fx.len]
structure J7(Y:ae)(m b:Id)(hs:List ByteArray)(h:AV):Prop where
 mx:∃(th lf:Int) (s tx at' lp:Bool),box Y m=V ⟨268,8,U,U,[[.p b 0 0,iv th,iv lf,bv s,bv tx,bv at',bv lp,h]]⟩
 tp:∃l a,Tp Y b l a
 gh:gp Y 9 1 h (hs.map cs)
 le:L Y=4096
 sm:m.1=16
 sb:b.1=14
 sh:∀q∈aA h,q.1=15
section
variable{Y Y':ae}{m b:Id}{hs:List ByteArray}{h:AV}{d:Nat}{K:be}
theorem J7.ne(M:J7 Y m b hs h):m≠b:=(by grind [J7.sm,J7.sb])
theorem J7.fx{ks:List Id}(M:J7 Y m b hs h)(F:Fx Y Y' ks)(h1:m∉ks)(h2:b∉ks)(c:∀q∈aA h,q∉ks):J7 Y' m b hs h:=by obtain⟨k,i,s,tx,f,j,g⟩:=M.mx;obtain⟨l,a,T⟩:=M.tp;exact⟨(by grind [Fx.keep]),⟨l,a,T.fx F h2⟩,M.gh.fx F c,F.len.trans M.le,M.sm,M.sb,M.sh⟩
theorem J7.fx0(M:J7 Y m b hs h)(F:Fx Y Y' []):J7 Y' m b hs h:=(by grind [J7.fx])
theorem J7.nb(M:J7 Y m b hs h):∀q∈aA h,q∉[b]:=(by grind [J7.sh,J7.sb])
theorem J7.nm(M:J7 Y m b hs h):∀q∈aA h,q∉[m]:=(by grind [J7.sh,J7.sm])
theorem aO4(M:J7 Y m b hs h){n:Int}(g:∀(x:Int) Y1,0<=x->(1<=n->x<n)->J7 Y1 m b hs h->Fx Y Y1 [b]->K (iv x) Y1):cB 115 [.p b 0 0,iv n] Y d K:=by obtain⟨r,k,s,tx,i,q,j⟩:=M.mx;obtain⟨l,a,T⟩:=M.tp;refine a55 M.le T λx c Y1 h1 h2 f _ _ F=>g x Y1 h1 h2 ⟨(by grind [Fx.keep,J7.ne]),⟨l,c,f⟩,M.gh.fx F M.nb,F.len.trans M.le,M.sm,M.sb,M.sh⟩ F
theorem aPJ(M:J7 Y m b hs h){j:Nat}{x:AV}{K:ae->Prop}(c:(j=1\/j=2)/\(∃n:Int,x=iv n)\/(3<=j/\j<=6)/\∃u:Bool,x=bv u)(f:∀Y1,J7 Y1 m b hs h->Fx Y Y1 [m]->K Y1):sV (aK 1 Y (.p m 0 j) x) K:=by obtain⟨w,r,s,tx,k,v,g⟩:=M.mx;obtain⟨l,a,T⟩:=M.tp;have i:eY x=V [x]:=(by rcases c with⟨_,n,rfl⟩|⟨_,u,rfl⟩<;>rfl);refine A0 g i (by simp;omega) λY1 F q=>f Y1 ⟨?_,⟨l,a,T.fx F<|by simpa using M.ne.symm⟩,M.gh.fx F M.nm,F.len.trans M.le,M.sm,M.sb,M.sh⟩ F;rcases c with⟨h1|h1,n,rfl⟩|⟨h1,u,rfl⟩;simp_all;simp_all;obtain rfl|rfl|rfl|rfl:j=3\/j=4\/j=5\/j=6:=(by omega);simp_all;simp_all;simp_all;simp_all
def bdh(M:J7 Y m b hs h)(g:L hs<1000)(s:ByteArray):∃r Y1,((∃v,r= .s v/\∃u:Bool,v= .bool u)/\Fx Y Y1 [])/\cZ aS GG 281 [.p m 0 0,st s] Y r Y1:=by refine bgo M.le ?_;obtain⟨k,i,s,tx,f,j,a⟩:=M.mx;have c:dG Y h=sl cs hs:=M.gh.ar;simp only[aUJ,qb a,u0,u1,a,aRV,bfx,aRa,aj,jM,kU,jt,c,tW,aD6,AL,ip,↓uL];exact⟨by omega,⟨_,rfl,_,rfl⟩,Fx.refl _ _⟩
theorem aQP(M:J7 Y m b hs h)(a:L hs<1000){s:ByteArray}(c:∀u:Bool,K (bv u) Y):cB 281 [.p m 0 0,st s] Y d K:=aV6 rfl (bdh M a s) (by simp_all)
def isE(k:Nat)(r:AV):Prop:=∃(e:kW) (t o:Bool),shE k e/\r= .a [iv e.op,iv e.n,st e.name, .l (e.l.map kW.c) t o]
theorem isE.mono{k n:Nat}{r:AV}(h:isE k r)(a:k<=n):isE n r:=by obtain⟨e,t,o,h1,h2⟩:=h;exact⟨e,t,o,h1.mono a,h2⟩
def ExR(Y:ae)(m b:Id)(hs:List ByteArray)(h:AV)(k:Nat)(r:AV)(Y1:ae):Prop:=isE k r/\J7 Y1 m b hs h/\Fx Y Y1 [b]
theorem aTx{q:Id}{T:TypeId}{z:Nat}{r cs:List AV}{R:be}(f:box Y q=V ⟨T,z,U,U,[r]⟩)(i:L r=z)(g:L cs=z)(c:∀Y1,Fx Y Y1 [q]->R (.a cs) Y1):sV (aK z Y (.p q 0 0)<|.a cs) λs=>rV (vl (V z) s<|.p q 0 0) λt=>aNN R s [t]:=by refine r9 f i g λY1 F j=>?_;have:vl (V z) Y1 (.p q 0 0)=V (.a cs):=(by grind [vl,iE,aN]);rw[this];exact c Y1 F
def baK{Y:ae}:aX zd9 7 Y [(0,sv [97]),(1,sv [98]),(2,sv [120]),(3,sv [121]),(4,sv [118]),(5,sv [120]),(6,sv [121])]=V (.l ([⟨#[97]⟩,⟨#[98]⟩,⟨#[120]⟩,⟨#[121]⟩,⟨#[118]⟩,⟨#[120]⟩,⟨#[121]⟩].map cs) U U,Y):=by kernel_rfl
def baN{Y:ae}:aX bH 6 Y [(0,iv 6),(1,iv 7),(2,iv 8),(3,iv 11),(4,iv 13),(5,iv 17)]=V (.l ([6,7,8,11,13,17].map ci) U U,Y):=by kernel_rfl
def aSY{e:kW}{t o:Bool}:dG Y (.a [iv e.op,iv e.n,st e.name, .l (e.l.map kW.c) t o])= .a e.c:=by rw[aoH];rfl
theorem aXO{x:Value}{c d:List AV}{r:AV}(h:eB (.a c)=[])(f:eB (.a d)=[]):lo Y [.s x, .a c, .a d] r=True:=by have e:eB (.s x)=[]:=rfl;grind [lo,nA]
def aXP{x:Value}{c:List AV}{r:AV}(h:eB (.a c)=[]):lo Y [.s x, .a c] r=True:=by have e:eB (.s x)=[]:=rfl;simp[lo,nA,h,e]
def a6T{x:Value}{r:AV}:lo Y [.s x] r=True:=by simp[lo,nA,eB,iR]
def aWC{k:Nat}{e:kW}(h:shE k e):isE k (.a e.c):=⟨e,I,I,h,by rw[aoH];rfl⟩
theorem a6K{n:Nat}(hn:n<=1)(ih:n=1->∀{Y:ae},J7 Y m b hs h->∃r Y1,ExR Y m b hs h 1 r Y1/\cZ aS GG 278 [.p m 0 0,iv 0] Y r Y1)(M:J7 Y m b hs h):
  ∃r Y1,ExR Y m b hs h (n+1) r Y1/\cZ aS GG 278 [.p m 0 0,iv n] Y r Y1:=by
 obtain⟨m1,F⟩:=m
 obtain rfl:m1=16:=M.sm
 obtain⟨b1,z⟩:=b
 obtain rfl:b1=14:=M.sb
 refine bgm M.le ?_
 simp only[aUI]
 refine ic M.le λv s1 R N1 q1=>?_
 simp only[qz 2,baK,bQ]
 have W:=M.fx0 R
 obtain⟨th,lf,s,tx,X,lp,N⟩:=W.mx
 simp only[qz 4,qb N,u0,u1,N,aRV,aRa,aj,↓uL]
 refine aO4 W λx s2 h1 h2 D S=>?_
 have h2:=h2 (by decide)
 obtain⟨th,lf,s,tx,X,lp,C⟩:=D.mx
 have H:=S.kq q1
 have G:Fx Y s2 [(14,z)]:=(R.trans S).mono (by simp)
 have B:∀{g k:ae} {r:AV},isE (n+1) r->J7 g (16,F) (14,z) hs h->Fx Y g [(14,z)]->Fx g k [(4,v)]->ExR Y (16,F) (14,z) hs h (n+1) r k:=λE j f i=>
  ⟨E,j.fx i (by simp) (by simp) (λq hq e=>by grind [J7.sh]),(f.trans i).mono<|by grind [bK.no]⟩
 have P:∀{g:ae} {d:Nat} {K:be},n=1->J7 g (16,F) (14,z) hs h->(∀r k,isE 1 r->J7 k (16,F) (14,z) hs h->Fx g k [(14,z)]->K r k)->cB 278 [.p (16,F) 0 0,iv 0] g d K:=λh1 j hK=>by
  refine jH rfl (ih h1 j) ?_
  rintro r k ⟨g1,u,g3⟩
  grind [Fx.len]
 simp+contextual only[qz 6,qy 16,qb C,u0,u1,C,aRV,aRa,aj,gT,↓uL]
 refine⟨λ_=>?_,λhc=>⟨λ_=>?_,λh7=>⟨λh8=>?_,λh8=>?_⟩⟩⟩
 ·refine aO4 D λy g g1 u j f=>?_
  have A:=f.kq H
  simp only[qz 8,qy 10,jM,kU,jt,tW,aD6,a6T,ip,↓uL]
  exact aTx A rfl aN9 λk i=>B (aWC ⟨.inl ⟨.inl rfl,rfl⟩,by simp[kW.l]⟩) j ((G.trans f).mono<|by simp) i
 ·refine aO4 D λy g g1 u j f=>?_
  have A:=f.kq H
  have u:=u (by decide)
  simp only[qz 12,qy 14,amZ,u0,u1,rk,pz,jM,kU,jt,tW,aD6,a6T,ip,↓uL]
  exact⟨⟨g1,u⟩,aTx A rfl aN9 λk i=>B (aWC ⟨.inl ⟨.inr rfl,rfl⟩,by simp[kW.l]⟩) j ((G.trans f).mono<|by simp) i⟩
 ·have w:n=1:=by grind
  refine P w D λr g E j f=>?_
  have A:=f.kq H
  obtain⟨e,t,o,he,rfl⟩:=E
  have aa:aX bts 1 g [(0, .a [iv e.op,iv e.n,st e.name, .l (e.l.map kW.c) t o])]=V (.l [e.c] U U,g):=aQm (by rw[aoH];rfl) aN9 (by decide) (by rw[aoH];rfl) (by decide)
  simp only[aa,bQ,qz 18,qy 20,↓uL]
  have Z:bM bth bmK [(0,iv 3),(2,sv [113]),(3, .l [e.c] U U)]=V (.a [iv 3,iv 0,sv [113], .l [e.c] U U]):=rfl
  simp only[Z,aY]
  refine aTx A rfl rfl λk i=>B ⟨kW.mk 3 0 ⟨#[113]⟩ [e],U,U,⟨.inr<|.inl ⟨rfl,rfl,rfl⟩,?_⟩,rfl⟩ j ((G.trans f).mono<|by simp) i
  grind [kW.l]
 ·have w:n=1:=by grind
  have e0:dq.wrap ((n:Int)-1)=0:=by subst w;rfl
  simp only[baN,bQ,qz 22,qb C,u0,u1,C,aRV,aRa,aj,gT,↓uL]
  refine aO4 D λy g g1 u j f=>?_
  have u:=u (by decide)
  have A:=f.kq H
  simp only[qz 24,tf,u0,u1,rk,pz,e0,↓uL]
  refine⟨⟨g1,u⟩,P w j λr k E M4 i=>?_⟩
  have q4:=i.kq A
  simp only[qz 26,u0,u1,e0,↓uL]
  refine P w M4 λr' s5 ab M5 T=>?_
  have q5:=T.kq q4
  obtain⟨e,t,o,he,rfl⟩:=E
  obtain⟨e',t',o',ax,rfl⟩:=ab
  have O:6<=gd [(6:Int),7,8,11,13,17] y.toNat:=by
   grind [ig]
  generalize gd [(6:Int),7,8,11,13,17] y.toNat=op at O
  simp only[qz 28,jM,kU,jt,tW,aSY,aD6]
  rw[aXO rfl rfl]
  refine⟨trivial,r9 q5 rfl aN9 λs6 F6 b6=>?_⟩
  refine dT (by simp[eL,lb,cq,Qh,gz,dC,dK]) ?_
  have:vl (V 4) s6 (.p (4,v) 0 0)=V (.a (kW.mk op 0 ⟨#[]⟩ [e,e']).c):=by grind [aC5,a69]
  (try rw[art]);rw[this]
  refine B (aWC ⟨.inr<|.inr ⟨O,rfl⟩,?_⟩) M5 ((((G.trans f).trans i).trans T).mono<|by simp) F6
  grind [kW.l]
def a6J(M:J7 Y m b hs h):∃r Y1,ExR Y m b hs h 1 r Y1/\cZ aS GG 278 [.p m 0 0,iv 0] Y r Y1:=a6K (n:=0) (by omega) (λh=>by omega) M
def bdg(M:J7 Y m b hs h):∃r Y1,ExR Y m b hs h 2 r Y1/\cZ aS GG 278 [.p m 0 0,iv 1] Y r Y1:=a6K (n:=1) (by omega) (λ_ {Y} M=>a6J M) M
theorem baU(M:J7 Y m b hs h)(f:∀r Y1,isE 2 r->J7 Y1 m b hs h->Fx Y Y1 [b]->K r Y1):cB 278 [.p m 0 0,iv 0] Y d K:=by refine jH rfl (a6J M) ?_;rintro r g ⟨g1,a,c⟩;grind [Fx.len,isE.mono]
theorem aQO(M:J7 Y m b hs h)(f:∀r Y1,isE 2 r->J7 Y1 m b hs h->Fx Y Y1 [b]->K r Y1):cB 278 [.p m 0 0,iv 1] Y d K:=by refine jH rfl (bdg M) ?_;rintro r g ⟨g1,a,c⟩;grind [Fx.len]
structure RH(m b:Id)(Y:ae)(h:AV)(Y1:ae)(h1:AV):Prop where
 f:Fx Y Y1 (m::b::aA h)
 i:∀q∈aA h1,q∈aA h\/bK Y q
section
variable{Y2 Y1:ae}{h1 h2:AV}
theorem RH.refl:RH m b Y h Y h:=⟨Fx.refl _ _,λ_ g=> .inl g⟩
theorem RH.trans(H:RH m b Y h Y1 h1)(a:RH m b Y1 h1 Y2 h2):RH m b Y h Y2 h2:=by refine⟨(H.f.trans a.f).mono λq c=>?_,λq c=>(a.i q c).elim (H.i q) λg=> .inr<|g.old H.f⟩;grind [RH.i,bK.no]
theorem RH.of{ks:List Id}(F:Fx Y Y1 ks)(a:∀q∈ks,q=m\/q=b\/bK Y q):RH m b Y h Y1 h:=⟨(by grind [Fx.mono,bK.no]),λ_ g=> .inl g⟩
theorem RH.ofb(F:Fx Y Y1 [b]):RH m b Y h Y1 h:= .of F (by simp)
def RH.ofm(F:Fx Y Y1 [m]):RH m b Y h Y1 h:= .of F (by simp)
def RH.of0(F:Fx Y Y1 []):RH m b Y h Y1 h:= .of F (by simp)
theorem RH.new(H:RH m b Y h Y1 h1){q:Id}(F:Fx Y1 Y2 [q])(a:bK Y q):RH m b Y h Y2 h1:=⟨(H.f.trans F).mono (by grind [bK.no]),H.i⟩
theorem J7.out(M:J7 Y m b hs h):∀q:Id,q.1≠14->q.1≠15->q.1≠16->q∉m::b::aA h:=λq g1 a c f=>by
 grind [J7.sm,J7.sb,J7.sh]
end
def aTj{x:NA}:eB (.a x.c)=[]:=by rw[a6X];rfl
def aYy{a:ae}{x:NA}:Lv a Y x.c x.c:=⟨by rw[a6X];rfl,by rw[aTj];simp⟩
def aPq{f:ae}{op:Int}{nm i:ByteArray}{index:List kW}{e:kW}{t o u o':Bool}{bd a:AV}{body els:List NA}(k:gp Y 274 11 bd<|body.map NA.c)(p:gp Y 274 11 a<|els.map NA.c)(r:∀q∈aA bd,bK f q)(s:∀q∈aA a,bK f q):Lv f Y [iv op,iv 0,st nm,st i, .l (index.map kW.c) u o',iv e.op,iv e.n,st e.name, .l (e.l.map kW.c) t o,bd,a] (NA.mk op 0 nm i index e body els).c:=by refine⟨?_,λq j=>?_⟩;rw[a6X];simp only[ji,mU,aOb k,aOb p,aQ5,aXQ];rfl;simp only[eB,Cz,RN,iR,dW,cL,dF] at j;rcases j with g|g;(exact r q<|by cases bd<;>first|exact g|simp[iR] at g);exact s q (by cases a<;>first|exact g|simp[iR] at g)
def aPB{op:Int}{nm j:ByteArray}{index:List kW}{e:kW}{t o r o':Bool}{bd f:AV}{P:Id->Prop}(k:∀q∈aA bd,P q)(p:∀q∈aA f,P q):∀q∈eB (.a [iv op,iv 0,st nm,st j, .l (index.map kW.c) r o',iv e.op,iv e.n,st e.name, .l (e.l.map kW.c) t o,bd,f]),P q:=λq i=>by
 simp only[eB,Cz,RN,iR,dW,cL,dF] at i
 rcases i with g|g
 ·exact k q (by cases bd<;>first|exact g|simp[iR] at g)
 ·exact p q (by cases f<;>first|exact g|simp[iR] at g)
def SmR(Y:ae)(m b:Id)(hs:List ByteArray)(h:AV)(d:Nat)(r:AV)(Y1:ae):Prop:=∃cs x f,r= .a cs/\Lv Y Y1 cs (NA.c x)/\(∀q∈eB (.a cs),q.1=30\/q.1=126)/\shS (d+1) x/\J7 Y1 m b hs f/\RH m b Y h Y1 f
def SsR(Y:ae)(m b:Id)(hs:List ByteArray)(h:AV)(d:Nat)(n:Int)(r:AV)(Y1:ae):Prop:=∃(l:List NA) (a:AV),gp Y1 274 11 r (l.map NA.c)/\L l<=n/\(∀x∈l,shS (d+1) x)/\(∀q∈aA r,bK Y q/\q.1=30)/\J7 Y1 m b hs a/\RH m b Y h Y1 a
def aQH(m b:Id)(d:Nat):Prop:=∀{Y:ae} {hs:List ByteArray} {h:AV} {n:Int},J7 Y m b hs h->L hs+d<=500->0<=n->n<=3->∃r Y1,SsR Y m b hs h d n r Y1/\cZ aS GG 194 [.p m 0 0,iv d,iv n] Y r Y1
theorem aQQ{D:Nat}(w:aQH m b D)(M:J7 Y m b hs h)(v:L hs+D<=500){i n:Int}(u:i=D)(k:0<=n)(s:n<=3)(C:∀(a:AV) (l:List NA) (g:AV) Y1,gp Y1 274 11 a (l.map NA.c)->(L l:Int)<=n->(∀x∈l,shS (D+1) x)->(∀q∈aA a,bK Y q/\q.1=30)->J7 Y1 m b hs g->RH m b Y h Y1 g->K a Y1):cB 194 [.p m 0 0,iv i,iv n] Y d K:=by subst u;refine jH rfl (w M v k s) ?_;rintro r Y1 ⟨l,g,g1,y,z,A,B,j⟩;exact⟨j.f.len,by grind⟩
def baO{Y:ae}{x:ByteArray}:aX zd9 1 Y [(0,st x)]=V (.l ([x].map cs) U U,Y):=iz
theorem bdS(M:J7 Y m b hs h){h1:AV}{c:List ByteArray}{K:ae->Prop}(g:gp Y 9 1 h1<|c.map cs)(j:∀q∈aA h1,q.1=15)(f:∀Y1,J7 Y1 m b c h1->Fx Y Y1 [m]->K Y1):sV (aK 1 Y (.p m 0 7) h1) K:=by obtain⟨v,r,s,tx,k,u,i⟩:=M.mx;obtain⟨l,a,T⟩:=M.tp;refine A0 i g.ce (by simp) λY1 F n=>f Y1 ⟨(by simp_all),⟨l,a,T.fx F<|by simpa using M.ne.symm⟩,(by grind [gp.fx,J7.sm]),F.len.trans M.le,M.sm,M.sb,j⟩ F
theorem bdd{D:Nat}(ih:aQH m b D)(M:J7 Y m b hs h)(hl:L hs+D+1<=500){s:ByteArray}{O:Int}(hd:O=D):∃r Y1,SsR Y m b hs h D 2 r Y1/\cZ aS GG 282 [.p m 0 0,st s,iv O] Y r Y1:=by refine bgl M.le ?_;obtain⟨G,B,s',tx,j,C,A⟩:=M.mx;simp only[aUH,qy 2,qb A,u0,u1,A,aRV,bfx,aRa,aj,baO,↓uL];refine apQ M.gh M.le (by simp) (by simp) (by simp) (by simp;omega) λy E z u N4=>?_;rw[<-dg] at z;have n:=u.keep _ _ (λc=>by have:=M.sh _ c;have:=M.sm;omega) A;have W:∀{Y':ae} {K:ae->Prop},(∀Y1,J7 Y1 m b (hs++[s]) y->Fx E Y1 [m]->K Y1)->sV (aK 1 E (.p m 0 7) y) K:=λ{Y' K} hK=>(by obtain⟨l,a,T⟩:=M.tp;refine A0 n z.p.ce (by simp) λY1 F b1=>hK Y1 ⟨⟨G,B,s',tx,j,C,b1⟩,⟨l,a,(T.fx u<|by grind [J7.sh,J7.sb]).fx F<|by simpa using M.ne.symm⟩,z.p.fx F (by grind [J7.sm]),F.len.trans<|u.len.trans M.le,M.sm,M.sb,λq c=>(N4 q c).2⟩ F);simp only[qz 4,qb n,u0,u1,n,aj,↓uL];refine W (Y':=E) λs5 N R=>?_;obtain⟨G,B,s',tx,j,C,v⟩:=N.mx;simp only[qz 6,qb v,u0,u1,v,aRV,aRa,aj,↓uL];refine aO4 N λx s6 h1 h2 X S=>?_;have h2:=h2 (by decide);simp only[qz 8,u0,u1,eM (x:=1+x) (by omega) (by omega),↓uL];refine aQQ ih X (by simp;omega) hd (by omega) (by omega) λa l h' s7 g1 g2 g3 k g R7=>?_;obtain⟨G,B,s',tx,j,C,w⟩:=g.mx;simp only[qz 10,qy 12,qb w,u0,u1,w,aRV,bfx,aRa,aj,g.gh.ln,bJ,a6G,bZ,aO1,↓uL];have e1:dq.wrap (((L hs+(0+1):Nat):Int)-1)=(L hs:Int):=(by grind [eM]);rw[e1];refine slP g.gh (by omega) (by simp;omega) λa8 P e8=>?_;rw[bh,dg,List.take_left'<|by simp] at P;refine bdS g P (λq c=>g.sh q<|e8▸c) λs9 Z H=>?_;have R4:RH m b Y h s6 y:=⟨((u.trans R).trans S).mono (by grind),by simp_all⟩;have R9:RH m b Y h s9 h':=(R4.trans R7).trans<|.ofm H;exact⟨l,a8,g1.fx H (λq c e=>by have:=(k q c).2;have:=M.sm;simp at e;subst e;omega),by omega,g3,λq c=>⟨(k q c).1.old R4.f,(k q c).2⟩,Z,⟨R9.f,by grind [RH.i]⟩⟩
def aPh{A:(be)->Prop}{K:be}:gF U A Y K=A K:=rfl
def aOq{A:(be)->Prop}{K:be}:gF I A Y K=K (.t []) Y:=rfl
def baJ:aX zd9 4 Y [(0,sv [120]),(1,sv [121]),(2,sv [120]),(3,sv [118])]=V (.l ([⟨#[120]⟩,⟨#[121]⟩,⟨#[120]⟩,⟨#[118]⟩].map cs) U U,Y):=by kernel_rfl
def aV4:aX zd9 2 Y [(0,sv [97]),(1,sv [98])]=V (.l ([⟨#[97]⟩,⟨#[98]⟩].map cs) U U,Y):=by kernel_rfl
def a5Z:aX zd9 2 Y [(0,sv [109]),(1,sv [110])]=V (.l ([⟨#[109]⟩,⟨#[110]⟩].map cs) U U,Y):=by kernel_rfl
def baH{e:kW}{t o:Bool}:aX bts 1 Y [(0, .a [iv e.op,iv e.n,st e.name, .l (e.l.map kW.c) t o])]=V (.l ([e].map kW.c) U U,Y):=aQm (by rw[aoH];rfl) aN9 (by decide) (by rw[aoH];rfl) (by decide)
def a50{x:NA}:aX brP 1 Y [(0, .a x.c)]=V (.l ([x].map NA.c) U U,Y):=ua (by rw[a6X];rfl) aTj bit (by decide) (by rw[a6X];rfl) (by decide)
section
variable{o:Int}{nm:ByteArray}{x:AV}{e:kW}{t o':Bool}{body:List NA}{bA:List (List AV)}
def a5O(f:gp Y 274 11 x bA):bM brG alz [(0,iv o),(5, .a [iv e.op,iv e.n,st e.name, .l (e.l.map kW.c) t o']),(6,x)]=V (.a [iv o,iv 0,st ⟨#[]⟩,st ⟨#[]⟩, .l (([]:List kW).map kW.c) U U,iv e.op,iv e.n,st e.name, .l (e.l.map kW.c) t o',x, .l [] U U]):=by rcases f with⟨_,rfl⟩|⟨q,m,rfl,_⟩<;>rfl
def aSZ(f:gp Y 274 11 x bA):bM brG alz [(0,iv o),(2,st nm),(6,x)]=V (.a [iv o,iv 0,st nm,st ⟨#[]⟩, .l (([]:List kW).map kW.c) U U,iv (kW.mk 0 0 ⟨#[]⟩ []).op,iv (kW.mk 0 0 ⟨#[]⟩ []).n,st (kW.mk 0 0 ⟨#[]⟩ []).name, .l ((kW.mk 0 0 ⟨#[]⟩ []).l.map kW.c) U U,x, .l [] U U]):=by rcases f with⟨_,rfl⟩|⟨q,m,rfl,_⟩<;>rfl
def a5P(f:gp Y 274 11 x bA):bM brG alz [(0,iv o),(6,x)]=V (.a [iv o,iv 0,st ⟨#[]⟩,st ⟨#[]⟩, .l (([]:List kW).map kW.c) U U,iv (kW.mk 0 0 ⟨#[]⟩ []).op,iv (kW.mk 0 0 ⟨#[]⟩ []).n,st (kW.mk 0 0 ⟨#[]⟩ []).name, .l ((kW.mk 0 0 ⟨#[]⟩ []).l.map kW.c) U U,x, .l [] U U]):=by rcases f with⟨_,rfl⟩|⟨q,m,rfl,_⟩<;>rfl
def bam{E:kW}(f:gp Y 274 11 x bA):bM brG alz [(0,iv o),(5, .a E.c),(6,x)]=V (.a [iv o,iv 0,st ⟨#[]⟩,st ⟨#[]⟩, .l (([]:List kW).map kW.c) U U,iv E.op,iv E.n,st E.name, .l (E.l.map kW.c) I I,x, .l [] U U]):=by rw[aoH];exact a5O f
def a5Q:bM brG alz [(0,iv o),(2,st nm),(6, .l (body.map NA.c) t o')]=V (.a [iv o,iv 0,st nm,st ⟨#[]⟩, .l (([]:List kW).map kW.c) U U,iv (kW.mk 0 0 ⟨#[]⟩ []).op,iv (kW.mk 0 0 ⟨#[]⟩ []).n,st (kW.mk 0 0 ⟨#[]⟩ []).name, .l ((kW.mk 0 0 ⟨#[]⟩ []).l.map kW.c) U U, .l (body.map NA.c) t o', .l (([]:List NA).map NA.c) U U]):=rfl
end
def aRm{f:ae}{op:Int}{nm a:ByteArray}{index:List kW}{e:kW}{t o j o' k i t3 o3:Bool}{body els:List NA}:Lv f Y [iv op,iv 0,st nm,st a, .l (index.map kW.c) j o',iv e.op,iv e.n,st e.name, .l (e.l.map kW.c) t o, .l (body.map NA.c) k i, .l (els.map NA.c) t3 o3] (NA.mk op 0 nm a index e body els).c:=by refine⟨?_,λq g=>?_⟩;rw[a6X];simp only[ji,mU,aQ5,aXQ];rfl;simp[eB,iR] at g
theorem aOJ{n:Nat}{op:Int}{nm f:ByteArray}{index:List kW}{e:kW}{body els:List NA}(h1:(op=1\/op=2\/op=3\/op=14)->shE 2 e)(h2:index=[]\/∃y,index=[y]/\shE 2 y/\nm=qN)(i:L e.l<=2)(j:L body<=4)(a:∀x∈body,shS n x)(k:L els<=4)(c:∀x∈els,shS n x)(p:1<=op/\op<=15):shS (n+1) (NA.mk op 0 nm f index e body els):=by refine⟨h1,?_,?_,?_,i,j,a,k,c,p⟩;show L index<=1;grind;show∀x∈index,shE 2 x;grind;intro h;rcases h2 with rfl|⟨y,rfl,_,g⟩;exact aNK rfl h;exact g
theorem aOI{n:Nat}{op:Int}{nm a:ByteArray}{index:List kW}{e:kW}(h1:(op=1\/op=2\/op=3\/op=14)->shE 2 e)(h2:index=[]\/∃y,index=[y]/\shE 2 y/\nm=qN)(c:L e.l<=2)(f:1<=op/\op<=15):shS (n+1) (NA.mk op 0 nm a index e [] []):=(by grind [aOJ])
theorem aS4{D:Nat}(u:aQH m b D)(M:J7 Y m b hs h)(n:L hs+D+1<=500){s:ByteArray}{i:Int}(k:i=D)(A:∀(a:AV) (l:List NA) (g:AV) Y1,gp Y1 274 11 a (l.map NA.c)->(L l:Int)<=2->(∀x∈l,shS (D+1) x)->(∀q∈aA a,bK Y q/\q.1=30)->J7 Y1 m b hs g->RH m b Y h Y1 g->K a Y1):cB 282 [.p m 0 0,st s,iv i] Y d K:=by refine jH rfl (bdd u M n k) ?_;rintro r Y1 ⟨l,g,g1,v,w,y,z,j⟩;exact⟨j.f.len,by grind⟩
theorem aEa{q:Id}{T:TypeId}{z:Nat}{o u:Bool}{r:List AV}(c:box Y q=V ⟨T,z,o,u,[r]⟩)(f:L r=z):vl (V z) Y (.p q 0 0)=V (.a r):=by grind [vl,iE,aN]
theorem aP2{D:Nat}(h:D+1<1000):dq.wrap (((D+1:Nat):Int)-1)=(D:Int):=by grind [eM]
def baQ:aX brP 2 Y [(0, .a [iv 9,iv 0,sv [99],sv [], .l [] U U,iv 0,iv 0,sv [], .l [] U U, .l [] U U, .l [] U U]),(1, .a (NA.mk 1 0 ⟨#[97]⟩ ⟨#[]⟩ [] (kW.mk 2 0 ⟨#[120]⟩ []) [] []).c)]=V (.l ([NA.mk 9 0 ⟨#[99]⟩ ⟨#[]⟩ [] (kW.mk 0 0 ⟨#[]⟩ []) [] [],NA.mk 1 0 ⟨#[97]⟩ ⟨#[]⟩ [] (kW.mk 2 0 ⟨#[120]⟩ []) [] []].map NA.c) U U,Y):=by kernel_rfl
def baL{o:Int}:aX brP 1 Y [(0, .a [iv o,iv 0,sv [99],sv [], .l [] U U,iv 0,iv 0,sv [], .l [] U U, .l [] U U, .l [] U U])]=V (.l ([NA.mk o 0 ⟨#[99]⟩ ⟨#[]⟩ [] (kW.mk 0 0 ⟨#[]⟩ []) [] []].map NA.c) U U,Y):=by kernel_rfl
theorem bdy{D:Nat}(ih:∀j,j<D->aQH m b j)(M:J7 Y m b hs h)(hl:L hs+D<=500):∃r Y1,SmR Y m b hs h D r Y1/\cZ aS GG 244 [.p m 0 0,iv D] Y r Y1:=by
 obtain⟨m1,X⟩:=m
 obtain rfl:m1=16:=M.sm
 obtain⟨b1,b2⟩:=b
 obtain rfl:b1=14:=M.sb
 refine bgp M.le ?_
 simp only[aUK]
 refine ic M.le λv s1 F1 N1 q1=>?_
 have M1:=M.fx0 F1
 obtain⟨th,lf,s,tx,aX,lp,ag⟩:=M1.mx
 simp only[qz 2,qb ag,u0,u1,ag,aRV,bfx,aRa,aj,↓uL]
 refine aPJ M1 (by simp) λs2 M2 F2=>?_
 have q2:=F2.kq q1
 obtain⟨th,lf,s,tx,aX,lp,bi⟩:=M2.mx
 simp only[qz 4,qb bi,u0,u1,bi,aRV,aRa,aj,↓uL]
 refine aO4 M2 λx s3 h1 h2 G F3=>?_
 have h2:=h2 (by decide)
 have q3:=F3.kq q2
 have O:RH (16,X) (14,b2) Y h s3 h:=((RH.of0 F1).trans<|.ofm F2).trans<|.ofb F3
 have N:∀{A:ae} {cs r:List AV} {x:NA} {h4:AV},J7 A (16,X) (14,b2) hs h4->RH (16,X) (14,b2) Y h A h4->box A (4,v)=V ⟨274,11,U,U,[r]⟩->L r=11->Lv Y A cs x.c->(∀q∈eB (.a cs),q.1=30\/q.1=126)->shS (D+1) x->
   sV (aK 11 A (.p (4,v) 0 0)<|.a cs) λs=>rV (vl (V 11) s<|.p (4,v) 0 0) λt=>aNN (SmR Y (16,X) (14,b2) hs h D) s [t]:=λ{A cs r x h4} B R4 S hr L4 hi a4=>
  aTx S hr (by have:=brv L L4.eq;grind [bit]) λs5 T=>⟨cs,x,h4,rfl,L4.fx T (by grind) aS7,hi,a4,B.fx T (by simp) (by simp) (λq w e=>by grind [J7.sh]),R4.new T N1⟩
 have aa:∀{A s5:ae} {h4 h5:AV} {q:Id} {x:bY},J7 A (16,X) (14,b2) hs h4->RH (16,X) (14,b2) A h4 s5 h5->(q.1≠14/\q.1≠15/\q.1≠16)->box A q=V x->box s5 q=V x:=λB R g w=>R.f.keep _ _ (B.out _ g.1 g.2.1 g.2.2) w
 have a3:∀{A s6:ae} {x:NA} {h4:AV},J7 A (16,X) (14,b2) hs h4->RH (16,X) (14,b2) Y h A h4->Fx A s6 [(4,v)]->box s6 (4,v)=V ⟨274,11,U,U,[x.c]⟩->shS (D+1) x->aw 11 s6 (.p (4,v) 0 0) λt=>aNN (SmR Y (16,X) (14,b2) hs h D) s6 [t]:=λ{A s6 x h4} B R4 F b6 a4=>by
  rw[art,aEa b6 bit]
  exact⟨_,x,h4,rfl,aYy,by rw[aTj];simp,a4,B.fx F (by simp) (by simp) (λq w e=>by grind [J7.sh]),R4.new F N1⟩
 simp only[qz 6,qy 22,qy 126,↓uL]
 generalize hE:@qp _ 128 ⟨_⟩=E
 have bg:∀{A:ae} {d:Nat},J7 A (16,X) (14,b2) hs h->RH (16,X) (14,b2) Y h A h->box A (4,v)=V ⟨274,11,U,U,[brG]⟩->cB 278 [.p (16,X) 0 0,iv 1] A d E:=λ{A d} B R4 S=>by
  refine aQO B λr s5 hr H T=>?_
  obtain⟨e,t,o,he,rfl⟩:=hr
  have q5:=T.kq S
  simp only[<-hE,qz 128,qy 130,jM,kU,jt,tW,aSY,aD6,art,↓uL]
  refine⟨by simp[lo,nA,eB,iR],N H (R4.trans<|.ofb T) q5 rfl aYy (by rw[aTj];simp) ?_⟩
  exact⟨λ_=>he,by simp[NA.index],by simp[NA.index],by simp[NA.index],he.len,by simp[NA.body],by simp[NA.body],by simp[NA.els],by simp[NA.els],by simp[NA.op],by simp[NA.op]⟩
 obtain⟨th,lf,s,tx,aX,lp,k⟩:=G.mx
 have hx:(x<4/\0<=x)\/x=4\/x=5\/x=6\/x=7\/x=8\/x=9\/x=10\/x=11\/x=12\/x=13\/x=14\/x=15\/x=16\/x=17:=by omega
 have bx:∀K:cC,(∀nb:Bool,(nb=U->0<D)->K (bv nb))->aO .gtr (iv D) (iv 0) λaJ=>Qct aJ (.p (16,X) 0 0) λcd=>Qot aJ (rV<|cO s3 cd) λcg=>aT aJ 2 s3 cg λch=>Qot aJ (aO .gtr ch<|iv 0) λci=>aD aJ ci (bv I) λaL=>Qct aL (.p (16,X) 0 0) λcj=>Qot aL (rV<|cO s3 cj) λck=>aT aL 4 s3 ck λcl=>Qot aL (cf cl) λcm=>aD aL cm (bv I) λcn=>K cn:=by
  intro K hK
  rcases oD D with h0|h0
  ·have e:Q ((0:Int)<(D:Int))=I:=by simp[h0]
   simp only[e,u0,u1,↓jN,a7c,↓uL]
   grind
  ·have e:Q ((0:Int)<(D:Int))=U:=by simp[h0]
   rcases bl:Q (0<lf) with _|_
   ·simp only[e,qb k,u0,u1,k,aRV,bfx,aRa,aj,bl,↓jN,↓jA,a7c,aUw,↓uL]
    grind
   ·simp only[e,qb k,u0,u1,k,aRV,bfx,aRa,aj,bl,↓jA,aUw,↓uL]
    grind
 refine bx _ λnb cG=>?_
 have P:∀{d:Nat},cB 278 [.p (16,X) 0 0,iv 1] s3 d E:=bg G O q3
 rcases hx with hx|rfl|rfl|rfl|rfl|rfl|rfl|rfl|rfl|rfl|rfl|rfl|rfl|rfl|rfl
 all_goals
  simp only[qb k,u0,u1,k,aRV,bfx,aRa,aj,bj5,boY,Int.reduceEq,Int.reduceLT,↓iC,↓iB,↓jA,↓jN,↓aOq,aUw,a7c,Bool.false_or,↓uL]
 ·refine⟨λ_=>?_,λg=>aNK hx.1<|by simpa using g⟩
  simp only[baJ,bQ,qz 8,amZ,u0,rk,pz,↓uL]
  refine⟨⟨hx.2,hx.1⟩,aQO G λr s5 hr H T=>?_⟩
  obtain⟨e,t,o,he,rfl⟩:=hr
  have q5:=T.kq q3
  simp only[qz 10,jM,kU,jt,tW,aSY,aD6]
  refine⟨by simp[lo,nA,eB,iR],r9 q5 rfl bit λs6 F6 b6=>?_⟩
  refine dT (by simp[eL,lb,cq,Qh,gz,dC,dK]) ?_
  exact a3 H (O.trans<|.ofb T) F6 b6 (aOI (λ_=>he) (.inl rfl) he.len<|by decide)
 ·simp only[aV4,bQ,qz 14,qb k,u0,u1,k,aRV,aRa,aj,↓uL]
  refine aO4 G λy A y1 y2 B C=>?_
  have y2:=y2 (by decide)
  have S:=C.kq q3
  simp only[qz 16,amZ,u0,rk,pz,↓uL]
  refine⟨⟨y1,y2⟩,aQO B λr s5 hr H T=>?_⟩
  obtain⟨e,t,o,he,rfl⟩:=hr
  have q5:=T.kq S
  simp only[qz 18,jM,kU,jt,tW,aSY,aD6]
  refine⟨by simp[lo,nA,eB,iR],r9 q5 rfl bit λs6 F6 b6=>?_⟩
  refine dT (by simp[eL,lb,cq,Qh,gz,dC,dK]) ?_
  exact a3 H ((O.trans<|.ofb C).trans<|.ofb T) F6 b6 (by grind [aOI,shE.len])
 ·refine baU G λr A hr B C=>?_
  obtain⟨e,t,o,he,rfl⟩:=hr
  have S:=C.kq q3
  simp only[baH,bQ,qz 24]
  refine aQO B λr s5 hr H T=>?_
  obtain⟨e',t',o',cF,rfl⟩:=hr
  have q5:=T.kq S
  have bU:bM brG alz [(0,iv 1),(2,sv [113]),(4, .l ([e].map kW.c) U U),(5, .a [iv e'.op,iv e'.n,st e'.name, .l (e'.l.map kW.c) t' o'])]=V (.a [iv 1,iv 0,st qN,st ⟨#[]⟩, .l ([e].map kW.c) U U,iv e'.op,iv e'.n,st e'.name, .l (e'.l.map kW.c) t' o', .l (([]:List NA).map NA.c) U U, .l (([]:List NA).map NA.c) U U]):=rfl
  simp only[qz 26,qy 28,bU,aY,↓uL]
  exact N H ((O.trans<|.ofb C).trans<|.ofb T) q5 rfl aRm (by simp[eB,iR]) (by grind [aOI,shE.len])
 ·refine⟨λhD=>?_,λ_=>P⟩
  obtain⟨j,rfl⟩:∃j,D=j+1:=⟨D-1,by grind⟩
  refine aQO G λr A hr B C=>?_
  obtain⟨e,t,o,he,rfl⟩:=hr
  have S:=C.kq q3
  simp only[qz 30,u0,u1,aP2 (D:=j) (by omega),↓uL]
  refine aQQ (ih j<|by omega) B (by omega) rfl (by omega) (by omega) λa l h' s5 g1 g2 g3 g4 H W=>?_
  have q5:=aa B W (by simp) S
  simp only[qz 32,qy 34,a5O g1,aY]
  refine anu H.le λv7 s7 Z N7 b7=>?_
  have M7:=H.fx0 Z
  have q7:=Z.kq q5
  have G7:=g1.fx Z (by simp)
  have R7:RH (16,X) (14,b2) Y h s7 h':=((O.trans<|.ofb C).trans W).trans<|.of0 Z
  have na:∀q∈aA a,bK Y q:=(by grind [bK.old])
  obtain⟨cp,b0,s',cr,br,b3,bk⟩:=M7.mx
  simp only[qz 36,di,qz 83,qb bk,u0,u1,bk,aRV,aRa,aj,↓uL]
  refine aO4 M7 λy s8 y1 y2 M8 F8=>?_
  have q8:=F8.kq q7
  have b8:=F8.kq b7
  have G8:=G7.fx F8 (λq w e=>by have:=(g4 q w).2;simp at e;subst e;simp at this)
  have R8:=R7.trans<|.ofb F8
  simp only[qz 38,u0,u1,aP2 (D:=j) (by omega),↓uL]
  refine⟨λ_=>?_,λ_=>?_⟩
  ·refine aQQ (ih j<|by omega) M8 (by omega) rfl (by omega) (by omega) λa' l' h9 s9 k1 k2 k3 k4 M9 R9=>?_
   have q9:=aa M8 R9 (by simp) q8
   have b9:=aa M8 R9 (by simp) b8
   have G9:=G8.fx R9.f (by grind [J7.out])
   simp only[qz 40,qy 42,u0,u1,b9,aj,↓uL]
   refine A0 b9 k1.ce (by simp) λcH aB bS=>?_
   have b4:∀q∈aA a',bK Y q:=λq w=>(k4 q w).1.old R8.f
   have ca:=aB.kq q9
   simp only[qz 81,qy 44,aI,aEa bS rfl,aY,↓uL]
   have p9:∀{q:Id},q.1=30->q∉[((7,v7):Id)]:=λh e=>by simp at e;grind
   refine N (M9.fx aB (by simp) (by simp) (λq w e=>by have:=M9.sh q w;simp at e;grind)) ((R8.trans R9).new aB<|((N7.old W.f).old C).old O.f) ca rfl
    (aPq (index:=[]) (e:=e) (G9.fx aB λq w=>p9 (g4 q w).2) (k1.fx aB λq w=>p9 (k4 q w).2) na b4) (aPB (index:=[]) (by grind)<|by grind) ?_
   exact aOJ (λ_=>he) (.inl rfl) he.len (by omega) g3 (by omega) k3 (by decide)
  ·simp only[qz 81,qy 44,aI,aEa b8 rfl,aY,↓uL]
   exact N M8 R8 q8 rfl (aPq (index:=[]) (e:=e) (els:=[]) G8 (.inl ⟨rfl,rfl⟩) na<|by simp[aA]) (aPB (index:=[]) (by grind)<|by simp[aA]) (aOJ (λ_=>he) (.inl rfl) he.len (by omega) g3 (by simp) (by simp)<|by decide)
 ·refine⟨λhD=>?_,λ_=>P⟩
  obtain⟨j,rfl⟩:∃j,D=j+1:=⟨D-1,by grind⟩
  refine aPJ G (by simp) λA B C=>?_
  have S:=C.kq q3
  simp only[qz 46,jM,kU,jt,tW,aD6,Fa,u0,u1,aP2 (D:=j) (by omega),↓uL]
  refine⟨by simp[lo,nA,eB,iR],by simp[lo,nA,eB,iR],by rw[aXO rfl rfl];trivial,?_⟩
  refine aQQ (ih j<|by omega) B (by omega) rfl (by omega) (by omega) λa l h' s5 g1 g2 g3 g4 H W=>?_
  have q5:=aa B W (by simp) S
  simp only[qz 48,qy 50,jM,kU,jt,tW,aD6,Fa,a50,u0,↓uL]
  refine⟨by simp[lo,nA,eB,iR],by simp[lo,nA,eB,iR],by rw[aXO rfl rfl];trivial,by rw[aXP rfl];trivial,?_⟩
  have na:∀q∈aA a,q.1=30:=λq w=>(g4 q w).2
  refine apQ g1 H.le (by grind [bit]) (by grind [bit]) (by simp) (by simp;omega) λa' s6 g6 F6 N6=>?_
  rw[<-dg] at g6
  have q6:=F6.keep _ _ (λw=>by have:=na _ w;simp at this) q5
  have M6:=H.fx F6 (by grind) (by grind) (λq w e=>by grind [J7.sh])
  have a0:RH (16,X) (14,b2) Y h A h:=O.trans<|.ofm C
  have R6:RH (16,X) (14,b2) Y h s6 h':=⟨((a0.trans W).f.trans F6).mono (by grind [bK.no,bK.old]),(a0.trans W).i⟩
  simp only[qz 52,qy 54,bam g6.p,aY]
  refine anu M6.le λv7 s7 Z N7 b7=>?_
  have M7:=M6.fx0 Z
  have q7:=Z.kq q6
  have G7:=g6.p.fx Z (by simp)
  obtain⟨bo,bm,s8,bp,bf,bn,ao⟩:=M7.mx
  simp only[qz 56,qb ao,u0,u1,ao,aj,↓uL]
  refine aPJ M7 (by simp) λs9 M9 F9=>?_
  have q9:=F9.kq q7
  have b9:=F9.kq b7
  have G9:=G7.fx F9 (λq w e=>by have:=(N6 q w).2;simp at e;subst e;simp at this)
  simp only[qz 58,qy 60,aEa b9 rfl,aY,↓uL]
  refine N M9 ((R6.trans<|.of0 Z).trans<|.ofm F9) q9 rfl (aPq (index:=[]) (els:=[]) G9 (.inl ⟨rfl,rfl⟩) (λq w=>(N6 q w).1.old (a0.trans W).f)<|by simp[aA]) (aPB (index:=[]) (by grind)<|by simp[aA]) ?_
  have e1:∀{z:Int} {s:ByteArray},shE 1 (kW.mk 2 z s []):=λ{z s}=>⟨.inl ⟨.inr rfl,rfl⟩,by simp[kW.l]⟩
  have e2:∀{z:Int} {s:ByteArray},shE 1 (kW.mk 1 z s []):=λ{z s}=>⟨.inl ⟨.inl rfl,rfl⟩,by simp[kW.l]⟩
  refine aOJ (λ_=>⟨.inr (.inr ⟨by decide,rfl⟩),?_⟩) (.inl rfl) (by decide) (by simp;omega) ?_ (by simp) (by simp) (by decide)
  ·grind [kW.l]
  ·intro y hy
   rcases dF.1 hy with hy|hy
   ·exact g3 y hy
   ·simp only[cE] at hy
    subst hy
    refine aOI (λ_=>⟨.inr (.inr ⟨by decide,rfl⟩),?_⟩) (.inl rfl) (by decide) (by decide)
    grind [kW.l]
 ·cases nb
  ·simp only[u0,aOq,↓jN,a7c,↓iB,↓uL]
   exact P
  obtain⟨j,rfl⟩:∃j,D=j+1:=⟨D-1,by grind⟩
  simp only[a5Z,amZ,rk,pz,u0,u1,aPh,↓jA,aUw,↓uL]
  refine⟨⟨by decide,by decide⟩,aQP G (by omega) λu=>?_⟩
  cases u
  ·simp only[u0,u1,↓iC,↓uL]
   simp only[qz 66,amZ,rk,pz,aP2 (D:=j) (by omega),u0,u1,↓uL]
   refine⟨⟨by decide,by decide⟩,aS4 (ih j<|by omega) G (by omega) rfl λa l h' s5 g1 g2 g3 g4 H W=>?_⟩
   simp only[qz 68,qy 70,aSZ g1,aY,↓uL]
   exact N H (O.trans W) (aa G W (by simp) q3) rfl (aPq (index:=[]) (els:=[]) g1 (.inl ⟨rfl,rfl⟩) (λq w=>(g4 q w).1.old O.f)<|by simp[aA]) (aPB (index:=[]) (by grind)<|by simp[aA]) (aOJ (by omega) (.inl rfl) (by decide) (by omega) g3 (by simp) (by simp)<|by decide)
  ·simp only[u0,u1,↓iB,↓uL]
   exact P
 ·cases nb
  ·simp only[u0,aOq,↓jN,a7c,↓iB,↓uL]
   exact P
  obtain⟨j,rfl⟩:∃j,D=j+1:=⟨D-1,by grind⟩
  simp only[a5Z,amZ,rk,pz,u0,u1,aPh,↓jA,aUw,↓uL]
  refine⟨⟨by decide,by decide⟩,aQP G (by omega) λu=>?_⟩
  cases u
  ·simp only[u0,u1,↓iC,↓uL]
   simp only[qz 66,amZ,rk,pz,aP2 (D:=j) (by omega),u0,u1,↓uL]
   refine⟨⟨by decide,by decide⟩,aS4 (ih j<|by omega) G (by omega) rfl λa l h' s5 g1 g2 g3 g4 H W=>?_⟩
   simp only[qz 68,qy 70,aSZ g1,aY,↓uL]
   exact N H (O.trans W) (aa G W (by simp) q3) rfl (aPq (index:=[]) (els:=[]) g1 (.inl ⟨rfl,rfl⟩) (λq w=>(g4 q w).1.old O.f)<|by simp[aA]) (aPB (index:=[]) (by grind)<|by simp[aA]) (aOJ (by omega) (.inl rfl) (by decide) (by omega) g3 (by simp) (by simp)<|by decide)
  ·simp only[u0,u1,↓iB,↓uL]
   exact P
 ·cases nb
  ·simp only[u0,aOq,↓jN,a7c,↓iB,↓uL]
   exact P
  obtain⟨j,rfl⟩:∃j,D=j+1:=⟨D-1,by grind⟩
  simp only[u0,aPh,↓jA,aUw,↓uL]
  refine aQP G (by omega) λu=>?_
  cases u
  ·simp only[aP2 (D:=j) (by omega),u0,u1,↓iC,↓uL]
   refine aS4 (ih j<|by omega) G (by omega) rfl λa l h' s5 g1 g2 g3 g4 H W=>?_
   simp only[qz 74,qy 76,aSZ g1,aY,↓uL]
   exact N H (O.trans W) (aa G W (by simp) q3) rfl (aPq (index:=[]) (els:=[]) g1 (.inl ⟨rfl,rfl⟩) (λq w=>(g4 q w).1.old O.f)<|by simp[aA]) (aPB (index:=[]) (by grind)<|by simp[aA]) (aOJ (λh=>aNK h<|by decide) (.inl rfl) (by decide) (by omega) g3 (by simp) (by simp)<|by decide)
  ·simp only[u0,u1,↓iB,↓uL]
   exact P
 ·cases nb
  ·simp only[u0,aOq,↓jN,a7c,↓iB,↓uL]
   exact P
  obtain⟨j,rfl⟩:∃j,D=j+1:=⟨D-1,by grind⟩
  simp only[u0,aPh,↓jA,aUw,↓uL]
  refine aQP G (by omega) λu=>?_
  cases u
  ·simp only[aP2 (D:=j) (by omega),u0,u1,↓iC,↓uL]
   refine aS4 (ih j<|by omega) G (by omega) rfl λa l h' s5 g1 g2 g3 g4 H W=>?_
   simp only[qz 74,qy 76,aSZ g1,aY,↓uL]
   exact N H (O.trans W) (aa G W (by simp) q3) rfl (aPq (index:=[]) (els:=[]) g1 (.inl ⟨rfl,rfl⟩) (λq w=>(g4 q w).1.old O.f)<|by simp[aA]) (aPB (index:=[]) (by grind)<|by simp[aA]) (aOJ (λh=>aNK h<|by decide) (.inl rfl) (by decide) (by omega) g3 (by simp) (by simp)<|by decide)
  ·simp only[u0,u1,↓iB,↓uL]
   exact P
 ·refine⟨λhn=>?_,λ_=>P⟩
  obtain⟨j,rfl⟩:∃j,D=j+1:=⟨D-1,by grind⟩
  refine aPJ G (by simp) λA B C=>?_
  have S:=C.kq q3
  obtain⟨cp,b0,s',cr,br,b3,bj⟩:=B.mx
  simp only[qz 78,qb bj,u0,u1,bj,aRV,aRa,aj,↓uL]
  refine aO4 B λy s5 y1 y2 H T=>?_
  have y2:=y2 (by decide)
  have q5:=T.kq S
  simp only[qz 80,u0,u1,eM (x:=1+y) (by omega) (by omega),↓uL]
  refine aQQ (ih 0<|by omega) H (by omega) rfl (by omega) (by omega) λa l h' s6 g1 g2 g3 g4 M6 R6=>?_
  have q6:=aa H R6 (by simp) q5
  simp only[qz 82,qy 84,a5P g1,aY]
  refine anu M6.le λv7 s7 Z N7 b7=>?_
  have M7:=M6.fx0 Z
  have q7:=Z.kq q6
  have G7:=g1.fx Z (by simp)
  have a1:RH (16,X) (14,b2) Y h s5 h:=(O.trans<|.ofm C).trans<|.ofb T
  obtain⟨bo,bm,s8,bp,bf,bn,ao⟩:=M7.mx
  simp only[qz 86,qb ao,u0,u1,ao,aj,↓uL]
  refine aPJ M7 (by simp) λs9 M9 F9=>?_
  have q9:=F9.kq q7
  have b9:=F9.kq b7
  have G9:=G7.fx F9 (λq w e=>by have:=(g4 q w).2;simp at e;subst e;simp at this)
  simp only[qz 88,qy 90,aEa b9 rfl,aY,↓uL]
  exact N M9 (((a1.trans R6).trans<|.of0 Z).trans<|.ofm F9) q9 rfl (aPq (index:=[]) (els:=[]) G9 (.inl ⟨rfl,rfl⟩) (by grind [bK.old])<|by simp[aA]) (aPB (index:=[]) (by grind)<|by simp[aA]) (aOJ (by omega) (.inl rfl) (by decide) (by omega) (by grind [shS.mono]) (by simp) (by simp)<|by decide)
 ·cases nb
  ·simp only[u0,↓jN,a7c,↓iB,↓uL]
   exact P
  cases aX
  ·obtain⟨j,rfl⟩:∃j,D=j+1:=⟨D-1,by grind⟩
   simp only[qb k,u0,u1,k,aRV,bfx,aRa,aj,↓jA,aUw,↓iC,↓uL]
   refine aPJ G (by simp) λA B C=>?_
   have S:=C.kq q3
   simp only[qz 92,u0,u1,aP2 (D:=j) (by omega),↓uL]
   refine aQQ (ih j<|by omega) B (by omega) rfl (by omega) (by omega) λa l h' s6 g1 g2 g3 g4 M6 R6=>?_
   have q6:=aa B R6 (by simp) S
   simp only[qz 94,qy 96,a5P g1,aY]
   refine anu M6.le λv7 s7 Z N7 b7=>?_
   have M7:=M6.fx0 Z
   have q7:=Z.kq q6
   have G7:=g1.fx Z (by simp)
   have a1:RH (16,X) (14,b2) Y h A h:=O.trans<|.ofm C
   obtain⟨bo,bm,s8,bp,bf,bn,ao⟩:=M7.mx
   simp only[qz 98,qb ao,u0,u1,ao,aj,↓uL]
   refine aPJ M7 (by simp) λs9 M9 F9=>?_
   have q9:=F9.kq q7
   have b9:=F9.kq b7
   have G9:=G7.fx F9 (λq w e=>by have:=(g4 q w).2;simp at e;subst e;simp at this)
   simp only[qz 100,qy 102,aEa b9 rfl,aY,↓uL]
   exact N M9 (((a1.trans R6).trans<|.of0 Z).trans<|.ofm F9) q9 rfl (aPq (index:=[]) (els:=[]) G9 (.inl ⟨rfl,rfl⟩) (by grind [bK.old])<|by simp[aA]) (aPB (index:=[]) (by grind)<|by simp[aA]) (aOJ (by omega) (.inl rfl) (by decide) (by omega) g3 (by simp) (by simp)<|by decide)
  ·simp only[qb k,u0,u1,k,aRV,bfx,aRa,aj,↓jA,aUw,↓iB,↓uL]
   exact P
 ·cases nb
  ·simp only[u0,aOq,↓jN,a7c,↓iB,↓uL]
   exact P
  cases aX
  ·simp only[qb k,u0,u1,k,aRV,bfx,aRa,aj,aPh,↓jA,aUw,↓uL]
   refine aQP G (by omega) λu=>?_
   cases u
   ·have ag:bM brG alz [(0,iv 9),(2,sv [99])]=V (.a [iv 9,iv 0,sv [99],sv [], .l [] U U,iv 0,iv 0,sv [], .l [] U U, .l [] U U, .l [] U U]):=rfl
    simp only[ag,jM,kU,jt,tW,aD6,Fa,u0,u1,↓iC,↓uL]
    simp only[baQ,bQ,qz 106,qy 108,a5Q,aY,↓uL]
    refine⟨by simp[lo,nA,eB,iR],by rw[aXP rfl];trivial,N G O q3 rfl aRm (by simp[eB,iR])<|aOJ (by omega) (.inl rfl) (by decide) (by decide) ?_ (by simp) (by simp)<|by decide⟩
    obtain⟨j,rfl⟩:∃j,D=j+1:=⟨D-1,by grind⟩
    intro y hy
    simp only[eW,ql,bie] at hy
    rcases hy with rfl|rfl
    ·exact aOI (by omega) (.inl rfl) (by decide) (by decide)
    ·exact aOI (λ_=>⟨.inl ⟨.inr rfl,rfl⟩,by simp[kW.l]⟩) (.inl rfl) (by decide) (by decide)
   ·simp only[u0,u1,↓iB,↓uL]
    exact P
  ·simp only[qb k,u0,u1,k,aRV,bfx,aRa,aj,aOq,↓jA,↓jN,aUw,a7c,↓iB,↓uL]
   exact P
 ·cases nb
  ·simp only[qb k,u0,u1,k,aRV,aRa,aj,aOq,↓jN,a7c,↓iB,↓uL]
   exact P
  simp only[u0,aPh,↓jA,aUw,↓uL]
  refine aQP G (by omega) λu=>?_
  cases u
  ·simp only[qb k,u0,u1,k,aRV,aRa,aj,↓iC,↓uL]
   refine aO4 G λy A y1 y2 B C=>?_
   have y2:=y2 (by decide)
   have S:=C.kq q3
   have ag:∀o:Int,bM brG alz [(0,iv o),(2,sv [99])]=V (.a [iv o,iv 0,sv [99],sv [], .l [] U U,iv 0,iv 0,sv [], .l [] U U, .l [] U U, .l [] U U]):=λ_=>rfl
   simp only[qz 112,ag,baL,bQ,qz 114,qy 116,a5Q,eM (x:=10+y) (by omega) (by omega),u0,u1,↓uL]
   refine N B (O.trans<|.ofb C) S rfl aRm (by simp[eB,iR]) (aOJ (by omega) (.inl rfl) (by decide) (by simp) ?_ (by simp) (by simp)<|by decide)
   obtain⟨j,rfl⟩:∃j,D=j+1:=⟨D-1,by grind⟩
   intro z hz
   simp only[eW,ql,bie] at hz
   subst hz
   exact aOI (λh=>by omega) (.inl rfl) (by decide) (by omega)
  ·simp only[u0,u1,↓iB,↓uL]
   exact P
 ·cases tx
  ·cases lp
   ·cases s
    ·simp only[qb k,u0,u1,k,aRV,bfx,aRa,aj,↓jA,aUw,Bool.and_self,↓iC,↓uL]
     refine aPJ G (by simp) λA B C=>?_
     have S:=C.kq q3
     simp only[qz 118]
     refine aQO B λr s5 hr H T=>?_
     obtain⟨e,t,o,he,rfl⟩:=hr
     have q5:=T.kq S
     have ag:bM brG alz [(0,iv 14),(2,sv [102]),(5, .a [iv e.op,iv e.n,st e.name, .l (e.l.map kW.c) t o])]=V (.a [iv 14,iv 0,st ⟨#[102]⟩,st ⟨#[]⟩, .l (([]:List kW).map kW.c) U U,iv e.op,iv e.n,st e.name, .l (e.l.map kW.c) t o, .l (([]:List NA).map NA.c) U U, .l (([]:List NA).map NA.c) U U]):=rfl
     simp only[qz 120,qy 122,ag,aY,↓uL]
     exact N H ((O.trans<|.ofm C).trans<|.ofb T) q5 rfl aRm (by simp[eB,iR]) (by grind [aOI,shE.len])
    ·simp only[qb k,u0,u1,k,aRV,bfx,aRa,aj,↓jA,aUw,Bool.and_self,↓iB,↓uL]
     exact P
   ·simp only[qb k,u0,u1,k,aRV,bfx,aRa,aj,↓jN,a7c,Bool.and_false,↓iB,↓uL]
    exact P
  ·simp only[u0,↓jN,a7c,↓iB,↓uL]
   exact P
 ·cases tx
  ·simp only[qb k,u0,u1,k,aRV,aRa,aj,aPh,↓jA,aUw,↓uL]
   refine aO4 G λy A y1 y2 B C=>?_
   have S:=C.kq q3
   have ag:bM brG alz [(0,iv 15),(2,sv [97]),(3,sv [102])]=V (.a [iv 15,iv 0,st ⟨#[97]⟩,st ⟨#[102]⟩, .l (([]:List kW).map kW.c) U U,iv (kW.mk 0 0 ⟨#[]⟩ []).op,iv (kW.mk 0 0 ⟨#[]⟩ []).n,st (kW.mk 0 0 ⟨#[]⟩ []).name, .l ((kW.mk 0 0 ⟨#[]⟩ []).l.map kW.c) U U, .l (([]:List NA).map NA.c) U U, .l (([]:List NA).map NA.c) U U]):=rfl
   simp only[ag,u0,u1,↓uL]
   exact⟨λ_=>N B (O.trans<|.ofb C) S rfl aRm (by simp[eB,iR])<|aOI (by omega) (.inl rfl) (by decide)<|by decide,λ_=>bg B (O.trans<|.ofb C) S⟩
  ·simp only[u0,aOq,↓jN,a7c,↓iB,↓uL]
   exact P
theorem ba1{D:Nat}(l:∀i,i<D->aQH m b i)(M:J7 Y m b hs h)(k:L hs+D<=500)(w:∀cs x g Y1,Lv Y Y1 cs (NA.c x)->(∀q∈eB (.a cs),q.1=30\/q.1=126)->shS (D+1) x->J7 Y1 m b hs g->RH m b Y h Y1 g->K (.a cs) Y1):cB 244 [.p m 0 0,iv D] Y d K:=by refine jH rfl (bdy l M k) ?_;rintro r Y1 ⟨cs,x,g,rfl,n,s,u,v,j⟩;exact⟨j.f.len,by grind⟩
theorem gp.bx{e:TypeId}{z:Nat}{a:AV}{bA:List (List AV)}(g:gp Y e z a bA):∀q∈aA a,∃x,box Y q=V x:=by rcases g with⟨_,rfl⟩|⟨b,m,rfl,c⟩;simp[aA];grind [aA]
theorem bdw:∀D,aQH m b D:=by
 intro D
 induction D using Nat.strongRecOn with
 |ind D ih=>
 intro Y hs h n M hl H h3
 have hm:=M.sm
 have aq:=M.sb
 refine bgq M.le ?_
 simp only[aUP]
 refine jD (α:=AV×List NA×AV) (λx i=>[x.1,iv i]) 1 n.toNat (λk x Y'=>gp Y' 274 11 x.1 (x.2.1.map NA.c)/\L x.2.1<=k/\(∀y∈x.2.1,shS (D+1) y)/\(∀q∈aA x.1,bK Y q/\q.1=30)/\J7 Y' m b hs x.2.2/\RH m b Y h Y' x.2.2)
  (s0:=(.l [] U U,[],h)) ⟨.inl ⟨rfl,rfl⟩,by simp,by simp,by simp[aA],M,RH.refl⟩ ?_
 rintro k ⟨a1,l1,h1⟩ Y1 hk ⟨g1,g2,S,T,B,v⟩
 simp only at g1 g2 S T B v
 obtain⟨th,lf,s,tx,ap,lp,r⟩:=B.mx
 have F:aNN (SsR Y m b hs h D n) Y1 [a1]:=⟨l1,h1,g1,by omega,S,T,B,v⟩
 have E:k<n.toNat->∀d I1 m1 vs,vs=[a1,iv k]->(I1=yI (λ(x:AV×List NA×AV) i=>[x.1,iv i]) n.toNat λk x Y'=>gp Y' 274 11 x.1 (x.2.1.map NA.c)/\L x.2.1<=k/\(∀y∈x.2.1,shS (D+1) y)/\(∀q∈aA x.1,bK Y q/\q.1=30)/\J7 Y' m b hs x.2.2/\RH m b Y h Y' x.2.2)->m1=gM 1 n.toNat->cB 244 [.p m 0 0,iv D] Y1 d (aUQ vs I1 m1 Y1):=by
  rintro j d I1 m1 vs rfl rfl rfl
  refine ba1 ih B hl λcs x X O Lw k1 k2 M2 C=>?_
  have ah:L cs=11:=by have:=brv L Lw.eq;grind [bit]
  have Z:aX brP 1 O [(0, .a cs)]=V (.l ([x].map NA.c) U U,kills O<|eB<|.a cs):=aQm Lw.eq bit (by decide) aS7 (by decide)
  simp only[aUQ,Z,bQ,au]
  have A:=aOp (eB<|.a cs) O
  have ka:∀q∈aA a1,q∉eB (.a cs):=λq z N=>by
   obtain⟨x,hx⟩:=g1.bx q z
   exact(Lw.nw q N).ne hx rfl
  have G3:=(g1.fx C.f<|by grind [J7.out]).fx A ka
  have R:=M2.fx A (by grind) (by grind) (λq z N=>by grind [J7.sh])
  refine apQ G3 R.le (by grind [bit]) (by grind [bit]) (by simp) (by simp;omega) λa' s6 W P N6=>?_
  rw[<-dg] at W
  have M6:=R.fx P (by grind) (by grind) (λq z N=>by grind [J7.sh])
  have FA:=(v.f.trans C.f).trans A
  have R6:RH m b Y h s6 X:=⟨((v.trans C).f.trans<|A.trans P).mono λq z=>by
   rcases dF.1 z with g|g
   ·exact .inl g
   rcases dF.1 g with g|g
   ·exact .inr ((Lw.nw q g).old v.f).no
   grind [bK.no],(v.trans C).i⟩
  simp only[aZ9,au,u0,u1,↓uL]
  refine dR (mk:=λ(x:AV×List NA×AV) i=>[x.1,iv i]) (p:=1) (s:=(a1,l1,h1)) (s':=(a',l1++[x],X)) (λ_ _=>rfl) j (by omega) ⟨W.p,by simp;omega,?_,(by grind [bK.old]),M6,R6⟩
  grind
 rcases Decidable.em ((k:Int)<n) with j|j
 ·have w:Q ((k:Int)<n)=U:=brS j
  have E:=E (by omega)
  rcases oD k with H|H
  ·have u:Q ((k:Int)=0)=U:=by simp[H]
   simp only[aRp,aI,au,w,u,u0,u1,↓jA,↓jN,aUw,↓iC,↓uL]
   exact E _ _ _ _ rfl rfl rfl
  ·have u:Q ((k:Int)=0)=I:=by simp;omega
   rcases G:Q (0<lf) with _|_
   ·simp only[aRp,aI,au,w,u,G,qb r,u0,u1,r,aRV,bfx,aRa,aj,↓jA,aUw,a7c,↓iB,↓uL]
    exact F
   ·simp only[aRp,aI,au,w,u,G,qb r,u0,u1,r,aRV,bfx,aRa,aj,↓jA,aUw,a7c,↓iC,↓uL]
    exact E _ _ _ _ rfl rfl rfl
 ·have w:Q ((k:Int)<n)=I:=bqL j
  simp only[aRp,aI,au,w,u0,u1,↓jN,a7c,↓iB,↓uL]
  exact F
end
section
attribute[local irreducible] aX
def aU7 b a c R:=(.mk _:NS a7x at1 Tryz.f191 [b, .u] [a] c R).p
def bg4{c:AV}{b:List AV}{s0:ae}{R:be}(hs:L s0=4096)(l1:L b=6)(h:HB1 264 6 3 b s0 λe d=>aU7 c e d R):EB 191 [c, .a b] s0 R:=zB1 at1 aNH Tryz.func191 hs l1 h
def aQI b a c d R:=(.mk _:NS a7x atB Tryz.f277 [b, .u,c] [a] d R).p
def bg6{c:AV}{b:List AV}{d:AV}{s0:ae}{R:be}(hs:L s0=4096)(l1:L b=4)(h:HB1 272 4 4 b s0 λf e=>aQI c f d e R):EB 277 [c, .a b,d] s0 R:=zB1 atB aNH Tryz.func277 hs l1 h
def a9t:=I5 11 []
def aU4 b a c R:=(.mk _:NS a7x a9t Tryz.f273 [b, .u] [a] c R).p
def bg1{c:AV}{b:List AV}{s0:ae}{R:be}(hs:L s0=4096)(l1:L b=11)(h:HB1 274 11 3 b s0 λe d=>aU4 c e d R):EB 273 [c, .a b] s0 R:=zB1 a9t aNH Tryz.func273 hs l1 h
def a9u:=I5 19 []
def aU5 b a c R:=(.mk _:NS a7x a9u Tryz.f274 [b, .u] [a] c R).p
def bg2{c:AV}{b:List AV}{s0:ae}{R:be}(hs:L s0=4096)(l1:L b=11)(h:HB1 274 11 3 b s0 λe d=>aU5 c e d R):EB 274 [c, .a b] s0 R:=zB1 a9u aNH Tryz.func274 hs l1 h
def aU3 b a c d e f R:=(.mk _:NS a7x auF Tryz.f275 [b, .u,c,d,e] [a] f R).p
def bg0{c:AV}{b:List AV}{d e f:AV}{s0:ae}{R:be}(hs:L s0=4096)(l1:L b=11)(h:HB1 274 11 6 b s0 λi g=>aU3 c i d e f g R):EB 275 [c, .a b,d,e,f] s0 R:=zB1 auF aNH Tryz.func275 hs l1 h
def a9x:=I5 21 [(6,([31],[0,3,4,25]))]
def aU8 b a c R:=(.mk _:NS a7x a9x Tryz.f243 [b, .u] [a] c R).p
def bg5{c:AV}{b:List AV}{s0:ae}{R:be}(hs:L s0=4096)(l1:L b=11)(h:HB1 274 11 3 b s0 λe d=>aU8 c e d R):EB 243 [c, .a b] s0 R:=zB1 a9x aNH Tryz.func243 hs l1 h
def a9y:=I5 5 [(1,([4],[0,1]))]
def aSu a a1 s0 R:=(.mk _:NS a7x a9y Tryz.f190 [a,a1] [] s0 R).p
def a7T{a a1:AV}{s0:ae}{R:be}(hs:L s0=4096)(h:aSu a a1 s0 R):EB 190 [a,a1] s0 R:=zB a9y aNH Tryz.func190 h
end
structure Gn(κ:Int)(Y:ae)(b:Id)(w:J9)(loc:List ByteArray)(a:AV)(n:Nat):Prop where
 bx0:∃s nx:Int,(0<=nx/\nx<=n+κ)/\box Y b=V ⟨260,10,U,U,[[sl cA.c w.cells,sl dS.c w.ak,sl aOw.c w.bC,sl cs w.bU,sl cs w.ay,sl dL.c w.dU,sl cs loc,a,iv s,iv nx]]⟩
 ga:∃out:List aNZ,gp Y 264 6 a (out.map aNZ.c)/\L out=n
 le:L Y=4096
 sb:b.1=45
 sa:∀q∈aA a,q.1=16
 wb:WBd w
 lb:L loc<1000
 hq:∃c∈w.cells,c.name=qN
theorem Gn.bx{κ:Int}{Y:ae}{b:Id}{w:J9}{loc:List ByteArray}{a:AV}{n:Nat}(G:Gn κ Y b w loc a n):∃s nx:Int,box Y b=V ⟨260,10,U,U,[[sl cA.c w.cells,sl dS.c w.ak,sl aOw.c w.bC,sl cs w.bU,sl cs w.ay,sl dL.c w.dU,sl cs loc,a,iv s,iv nx]]⟩:=by grind [Gn.bx0]
def aRZ{w:J9}{l:List AV}:aN (V 6) (sl cA.c w.cells::sl dS.c w.ak::sl aOw.c w.bC::sl cs w.bU::sl cs w.ay::sl dL.c w.dU::l)=V (.a w.c):=rfl
structure R4(b:Id)(Y:ae)(a:AV)(Y1:ae)(a1:AV):Prop where
 f:Fx Y Y1 (b::aA a)
 i:∀q∈aA a1,q∈aA a\/bK Y q
section
variable{κ:Int}{Y Y0 Y1 Y2:ae}{b:Id}{w:J9}{loc:List ByteArray}{a a0 a1 a2:AV}{n N:Nat}{d:Nat}{K:be}{ol:List aNZ}
theorem R4.refl:R4 b Y a Y a:=⟨Fx.refl _ _,λ_ h=> .inl h⟩
theorem R4.trans(h:R4 b Y a Y1 a1)(c:R4 b Y1 a1 Y2 a2):R4 b Y a Y2 a2:=by refine⟨(h.f.trans c.f).mono λq e=>?_,λq e=>(c.i q e).elim (h.i q) λg=> .inr<|g.old h.f⟩;grind [R4.i,bK.no]
def R4.of0(F:Fx Y Y1 []):R4 b Y a Y1 a:=⟨F.mono (by simp),λ_ h=> .inl h⟩
theorem R4.ofb(F:Fx Y Y1 [b]):R4 b Y a Y1 a:=⟨(by grind [Fx.mono]),λ_ h=> .inl h⟩
theorem Gn.fx(G:Gn κ Y b w loc a n){ks:List Id}(F:Fx Y Y1 ks)(h:b∉ks)(e:∀q∈aA a,q∉ks):Gn κ Y1 b w loc a n:=by obtain⟨s,nx,j,i⟩:=G.bx0;obtain⟨c,g,f⟩:=G.ga;exact⟨(by grind [Fx.keep]),⟨c,g.fx F e,f⟩,F.len.trans G.le,G.sb,G.sa,G.wb,G.lb,G.hq⟩
theorem Gn.mono(G:Gn κ Y b w loc a n){κ':Int}(h:κ<=κ'):Gn κ' Y b w loc a n:=by obtain⟨s,nx,e,c⟩:=G.bx0;exact⟨(by grind),G.ga,G.le,G.sb,G.sa,G.wb,G.lb,G.hq⟩
theorem Gn.fx0(G:Gn κ Y b w loc a n)(F:Fx Y Y1 []):Gn κ Y1 b w loc a n:=G.fx F (by simp) (by simp)
theorem Gn.out(G:Gn κ Y b w loc a n):∀q:Id,q.1≠45->q.1≠16->q∉b::aA a:=λq c e f=>by
 grind [Gn.sb,Gn.sa]
def GR(κ:Int)(N:Nat)(Y:ae)(b:Id)(w:J9)(loc:List ByteArray)(a:AV)(n:Nat)(r:AV)(Y1:ae):Prop:=∃e c,r= .t []/\Gn κ Y1 b w loc e c/\n<=c/\c<=n+N/\R4 b Y a Y1 e
theorem aPv{fn:Nat}{xs:List AV}(i:uQ.elem fn=I)(h:∃r Y1,GR κ N Y b w loc a n r Y1/\cZ aS GG fn xs Y r Y1)(m:∀e c Y1,Gn κ Y1 b w loc e c->n<=c->c<=n+N->R4 b Y a Y1 e->K (.t []) Y1):cB fn xs Y d K:=by refine jH i h ?_;rintro r Y1 ⟨e,c,rfl,j,k,l,g⟩;exact⟨g.f.len,by grind⟩
theorem bdp(G:Gn κ Y b w loc a n)(hn:n<100000)(x:aNZ):∃r Y1,(∃h,r= .t []/\Gn (κ-1) Y1 b w loc h (n+1)/\R4 b Y a Y1 h)/\cZ aS GG 191 [.p b 0 0, .a x.c] Y r Y1:=by obtain⟨S,T⟩:=b;obtain rfl:S=45:=G.sb;refine bg4 G.le rfl λs2 v3 P ad nf2 M=>?_;have A:Fx Y s2 []:=P.fx [];have G2:=G.fx0 A;obtain⟨s,nx,D⟩:=G2.bx;simp only[aU7,qb D,u0,u1,D,M,aRV,bfx,aRa,aj,↓uL];refine A0 M rfl (by show 5<6;decide) λy B q3=>?_;have O:box y (3,v3)=V ⟨264,6,U,U,[aNZ.c {x with site:=s}]⟩:=q3;have j:=G2.fx B (by simp) (λq i e=>by grind [Gn.sa]);obtain⟨s',ae,F,k⟩:=j.bx0;have E:∀{x:aNZ},aX buW 1 y [(0, .a<|aNZ.c x)]=V (.l ([x].map aNZ.c) U U,y):=λ{x}=>ua rfl rfl rfl (by decide) rfl (by decide);simp only[qz 4,qy 6,qb k,u0,u1,k,O,pz,aj,E,↓uL];obtain⟨H,g,X⟩:=j.ga;refine apQ g j.le (qW (f:=aNZ.c) (z:=6) λ_=>rfl) (by grind [aNZ.c]) (by simp) (by simp;omega) λh s4 v o R=>?_;rw[<-dg] at v;have m:=o.keep _ _ (λi=>by have:=j.sa _ i;simp at this) k;simp only[qz 8,qb m,u0,u1,m,aj,↓uL];refine A0 m v.p.ce (by simp) λs5 u W=>?_;refine dT (by first|rfl|(simp[eL,okT,tok,lb,cq,Qh,gz,dC,pP,dK,aNZ.c];done)) ?_;have C:∀q∈aA h,q∉[((45,T):Id)]:=(by grind);have Z:∀q∈aA h,bK Y q:=(by grind [bK.old]);refine⟨h,rfl,⟨⟨_,_,⟨F.1,by omega⟩,W⟩,⟨H++[_],v.p.fx u C,by simp[X]⟩,u.len.trans<|o.len.trans j.le,rfl,λq i=>(R q i).2,G.wb,G.lb,G.hq⟩,⟨(((A.trans B).trans o).trans u).mono λq i=>?_,by simp_all⟩⟩;grind
theorem aPw(G:Gn κ Y b w loc a n)(i:n<100000){x:aNZ}(k:∀e Y1 g,Gn (κ-1) Y1 b w loc e g->n+1<=g->g<=n+1->R4 b Y a Y1 e->K (.t []) Y1):cB 191 [.p b 0 0, .a x.c] Y d K:=by refine jH rfl (bdp G i x) ?_;rintro r Y1 ⟨e,rfl,j,h⟩;exact⟨h.f.len,by grind⟩
theorem a58(h:∃c∈w.cells,c.name=qN):aF (L w.cells) (uo (λi=>Q<|(gd w.cells i).name=qN)<|L w.cells):=by obtain⟨c,f,k⟩:=h;obtain⟨j,g,rfl⟩:=ou f;have e:=aTb (p:=λi=>Q<|(gd w.cells i).name=qN) (n:=L w.cells);refine⟨?_,e.2⟩;unfold uo;split;omega;simp_all [bT]
def bV:Nat->Nat|0=>0|m+1=>1+2*bV m
def ban{o x y:Int}:bM bsS aM7 [(0,iv o),(1,iv x),(4,iv y)]=V (.a<|aNZ.c ⟨o,x,0,0,y,0⟩):=rfl
def bao{o x y:Int}:bM bsS aM7 [(0,iv o),(1,iv x),(2,iv y)]=V (.a<|aNZ.c ⟨o,x,y,0,0,0⟩):=rfl
def bap{o x y z u:Int}:bM bsS aM7 [(0,iv o),(1,iv x),(2,iv y),(3,iv z),(4,iv u)]=V (.a<|aNZ.c ⟨o,x,y,z,u,0⟩):=rfl
def baq{o x:Int}:bM bsS aM7 [(0,iv o),(1,iv x)]=V (.a<|aNZ.c ⟨o,x,0,0,0,0⟩):=rfl
def bar{o:Int}:bM bsS aM7 [(0,iv o)]=V (.a<|aNZ.c ⟨o,0,0,0,0,0⟩):=rfl
def bdI:=ai @ban<|ai @bao<|ai @bap<|ai @baq<|@bar
theorem GR.mono{N M:Nat}{r:AV}(h:GR κ N Y b w loc a n r Y1)(l:N<=M):GR κ M Y b w loc a n r Y1:=by obtain⟨c,j,e,f,g,k,i⟩:=h;exact⟨c,j,e,f,g,by omega,i⟩
theorem bdC:∀(m:Nat) {Y:ae} {a:AV} {n:Nat} {e:kW} {dd:Int},Gn κ Y b w loc a n->n+bV m<100000->shE m e->∃r Y1,GR (κ-1) (bV m) Y b w loc a n r Y1/\cZ aS GG 277 [.p b 0 0, .a e.c,iv dd] Y r Y1:=by
 intro m
 induction m with
 |zero=>intro Y a n e dd G hn D;exact D.elim
 |succ m ih=>
  intro Y a n e dd G hn D
  obtain⟨b1,g⟩:=b
  obtain rfl:b1=45:=G.sb
  have ar:bV (m+1)=1+2*bV m:=rfl
  refine bg6 G.le aN9 λH v4 K2 aw nf2 y=>?_
  have M:Fx Y H []:=K2.fx []
  have G2:=G.fx0 M
  have z:R4 (45,g) Y a H a:=R4.of0 M
  obtain⟨s,nx,W⟩:=G2.bx
  have T:=G.wb
  have hL:=G.lb
  have q4:∀q:Id,q.1=4->q∉((45,g):Id)::aA a:=(by grind [Gn.out])
  have j:∀{u:ae} {v:AV} {h:Nat} {x:aNZ} {d:Nat},Gn κ u (45,g) w loc v h->n<=h->h<=n+2*bV m->R4 (45,g) Y a u v->cB 191 [.p (45,g) 0 0, .a x.c] u d λay ad=>aNN (GR (κ-1) (bV<|m+1) Y (45,g) w loc a n) ad []:=λi k h2 o=>
   aPw i (by omega) λC Y1 B G' g1 S R'=>⟨C,B,rfl,G',by omega,by omega,o.trans R'⟩
  have val:∀{u:ae} {v:AV} {h:Nat} {R:kW} {P:Int} {d:Nat} {K:be},Gn κ u (45,g) w loc v h->h<=n+bV m->shE m R->(∀C B Y1,Gn κ Y1 (45,g) w loc C B->h<=B->B<=h+bV m->R4 (45,g) u v Y1 C->K (.t []) Y1)->cB 277 [.p (45,g) 0 0, .a R.c,iv P] u d K:=λi k X hK=>aPv rfl (ih i (by omega) X) (by grind [Gn.mono])
  have an:=D.2
  rcases D.1 with⟨k|k,au⟩|⟨k,aa,av⟩|⟨k,Z⟩
  ·simp only[aQI,qy 4,qy 6,qy 8,u0,u1,y,pz,aj,k,bj5,↓iC,bdI,↓uL]
   exact j G2 (by omega) (by omega) z
  ·have A:dG H (.a w.c)= .a w.c:=rfl
   simp only[aQI,qy 4,qy 6,qy 8,qb W,u0,u1,W,y,pz,aRZ,aj,k,bj5,boY,Int.reduceEq,↓iC,↓iB,jM,kU,jt,A,tW,alg,aD6,AL,bdI,ip,↓uL]
   exact⟨by omega,λ_=>j G2 (by omega) (by omega) z,λ_=>⟨by have:=T.1;omega,j G2 (by omega) (by omega) z⟩⟩
  ·simp only[aQI,qy 4,qy 6,qy 8,u0,u1,y,pz,aj,k,bj5,boY,Int.reduceEq,↓iC,↓iB,ixv,rr,↓uL]
   refine⟨⟨by omega,by omega⟩,val G2 (by omega) (by grind [ig]) λv h s3 i g1 S o=>?_⟩
   have E:=o.f.keep _ _ (q4 _ rfl) y
   obtain⟨s',ax,F⟩:=i.bx
   have A:dG s3 (.a w.c)= .a w.c:=rfl
   simp only[qz 10,qy 12,qb F,u0,u1,F,E,pz,aRZ,aj,aa,jM,kU,jt,A,tW,aD6,AL,ix,bdI,rk,ip,↓uL]
   exact⟨by have:=T.1;omega,a58 G.hq,j i (by omega) (by omega)<|z.trans o⟩
  ·have o1:e.op≠1:=by omega
   have o2:e.op≠2:=by omega
   have o3:e.op≠3:=by omega
   have ol:Q ((L e.l:Int)=1)=I:=by simp[Z]
   simp only[aQI,qy 4,qy 6,qy 8,u0,u1,y,pz,aj,o1,o2,o3,ol,boY,↓iB,ixv,rr,↓uL]
   refine⟨⟨by omega,by omega⟩,val G2 (by omega) (by grind [ig]) λv h s3 i g1 S o=>?_⟩
   have E:=o.f.keep _ _ (q4 _ rfl) y
   simp only[qz 18,u0,u1,E,pz,aj,ixv,rr,↓uL]
   refine⟨⟨by omega,by omega⟩,val i (by omega) (by grind [ig]) λa5 n5 s5 G5 g3 g4 O=>?_⟩
   have q5:=O.f.keep _ _ (by grind [Gn.out]) E
   simp only[qz 20,qy 22,u0,u1,q5,pz,aj,bdI,↓uL]
   exact j G5 (by omega) (by omega)<|(z.trans o).trans O
theorem aRF(G:Gn κ Y b w loc a n)(j:n<90000){e:kW}(i:shE 2 e){dd:Int}(h:∀g f Y1,Gn (κ-1) Y1 b w loc g f->n<=f->f<=n+3->R4 b Y a Y1 g->K (.t []) Y1):cB 277 [.p b 0 0, .a e.c,iv dd] Y d K:=aPv rfl (bdC 2 G (by grind [bV]) i) h
theorem bda(G:Gn κ Y b w loc a n)(hn:n<80000){x:NA}(H:shE 2 x.expr)(hI:∀y∈x.index,shE 2 y)(O:x.index≠[]->x.name=qN)(ah:L x.index<=1):∃r Y1,GR (κ-1) 7 Y b w loc a n r Y1/\cZ aS GG 273 [.p b 0 0, .a x.c] Y r Y1:=by
 obtain⟨b1,i⟩:=b
 obtain rfl:b1=45:=G.sb
 refine bg1 G.le bit λR v3 X ak nf2 z=>?_
 have A:Fx Y R []:=X.fx []
 have G2:=G.fx0 A
 have u:R4 (45,i) Y a R a:=R4.of0 A
 obtain⟨s,nx,F⟩:=G2.bx
 have E:=G.wb
 have hL:=G.lb
 have j:∀{v:ae} {m:AV} {l:Nat} {x:aNZ} {d:Nat},Gn κ v (45,i) w loc m l->n<=l->l<=n+6->R4 (45,i) Y a v m->cB 191 [.p (45,i) 0 0, .a x.c] v d λal T=>aNN (GR (κ-1) 7 Y (45,i) w loc a n) T []:=λg h1 h2 e=>
  aPw g (by omega) λa' Y1 n' W g1 D Z=>⟨a',n',rfl,W,by omega,by omega,e.trans Z⟩
 simp only[aU4,qb F,u0,u1,F,z,pz,aj,ixv,rr,↓uL]
 refine⟨λh=>?_,λh=>?_⟩
 ·have ac:0<L x.index:=by simpa using h
  have M:x.index≠[]:=(by grind)
  refine⟨⟨by omega,by omega⟩,aRF G2 (by omega) (by grind [ig]) λm l S g g1 D e=>?_⟩
  have o:=e.f.keep _ _ (by grind [Gn.out]) z
  simp only[qz 4,u0,u1,o,pz,aj,↓uL]
  refine aRF g (by omega) H λa5 n5 s5 B g3 g4 C=>?_
  have q5:=C.f.keep _ _ (by grind [Gn.out]) o
  obtain⟨s',P,t⟩:=B.bx
  have k:dG s5 (.a w.c)= .a w.c:=rfl
  simp only[qz 6,qy 8,qb t,u0,u1,t,q5,pz,aRZ,aj,O M,jM,kU,jt,k,tW,aD6,AL,ix,bdI,rk,ip,↓uL]
  exact⟨by have:=E.1;omega,a58 G.hq,j (B.mono<|by omega) (by omega) (by omega)<|(u.trans e).trans C⟩
 ·refine aRF G2 (by omega) H λm l S g g1 D e=>?_
  have o:=e.f.keep _ _ (by grind [Gn.out]) z
  obtain⟨s',P,q⟩:=g.bx
  have k:dG S (.a w.c)= .a w.c:=rfl
  simp only[qz 10,qy 12,qy 14,qb q,u0,u1,q,o,pz,aRZ,aj,jM,kU,jt,k,tW,alg,aD6,AL,bdI,ip,↓uL]
  exact⟨by omega,λ_=>j (g.mono<|by omega) (by omega) (by omega)<|u.trans e,λ_=>⟨by have:=E.1;omega,j (g.mono<|by omega) (by omega) (by omega)<|u.trans e⟩⟩
theorem bcN(g:gp Y 264 6 a<|ol.map aNZ.c){i:Nat}(u:i<L ol){j:Nat}(z:j=1\/j=2){v:Int}{K:ae->Prop}(t:∀(Y':ae) (e:List aNZ),L e=L ol->gp Y' 264 6 a (e.map aNZ.c)->Fx Y Y' (aA a)->K Y'):rV (cz 6 Y a<|iv i) λk=>rV (iQ j Y k) λl=>sV (aK 1 Y l<|iv v) K:=by rcases g with⟨h,rfl⟩|⟨q,m,rfl,f⟩;simp_all;have r:cz 6 Y (.m q<|L<|ol.map aNZ.c) (iv i)=V (.p q i 0):=(by simp[cz,f,u]);have s:iQ j Y (.p q i 0)=V (.p q i j):=(by simp[iQ,f]);simp only[r,s,aY];have A:(ol.map aNZ.c++m)[i]?=V (aNZ.c<|gd ol i):=(by grind [bT]);refine aQz (x:=iv v) f A (by show j<6;omega) rfl rfl rfl λY' F o=>?_;obtain⟨y,B⟩:∃y:aNZ,(aNZ.c<|gd ol i).set j (iv v)=y.c:=(by rcases z with rfl|rfl;exact⟨{gd ol i with a:=v},rfl⟩;exact⟨{gd ol i with b:=v},rfl⟩);have hs:(ol.map aNZ.c++m).set i ((aNZ.c<|gd ol i).set j<|iv v)=(ol.set i y).map aNZ.c++m:=(by simp_all);refine t Y' (ol.set i y) (by simp) (.inr ⟨q,m,by simp,?_⟩) (by grind [aA]);rw[o,<-hs];rfl
theorem Gn.patch(G:Gn κ Y b w loc a n){i:Nat}(q:i<n){j:Nat}(k:j=1\/j=2){v:Int}{K:ae->Prop}(f:∀Y',Gn κ Y' b w loc a n->R4 b Y a Y' a->K Y'):rV (cz 6 Y a<|iv i) λc=>rV (iQ j Y c) λe=>sV (aK 1 Y e<|iv v) K:=by obtain⟨s,nx,t,p⟩:=G.bx0;obtain⟨m,g,r⟩:=G.ga;refine bcN g (by omega) k λY' out' l o F=>f Y' ⟨(by grind [Fx.keep,Gn.sa,Gn.sb]),(by grind),F.len.trans G.le,G.sb,G.sa,G.wb,G.lb,G.hq⟩ ⟨(by grind [Fx.mono]),λ_ h=> .inl h⟩
theorem Gn.set(G:Gn κ Y b w loc a n){v:Int}{K:ae->Prop}(e:∀Y',Gn κ Y' b w loc a n->Fx Y Y' [b]->K Y'):sV (aK 1 Y (.p b 0 8)<|iv v) K:=by obtain⟨s,nx,h,f⟩:=G.bx0;obtain⟨i,g,j⟩:=G.ga;exact A0 f rfl (by simp) λY' F c=>e Y' ⟨⟨v,nx,h,c⟩,(by grind [gp.fx,Gn.sa,Gn.sb]),F.len.trans G.le,G.sb,G.sa,G.wb,G.lb,G.hq⟩ F
theorem Gn.nxt(G:Gn κ Y b w loc a n){v:Int}(i:0<=v)(j:v<=n+κ){K:ae->Prop}(c:∀Y',Gn κ Y' b w loc a n->Fx Y Y' [b]->K Y'):sV (aK 1 Y (.p b 0 9)<|iv v) K:=by obtain⟨s,nx,l,e⟩:=G.bx0;obtain⟨f,g,k⟩:=G.ga;exact A0 e rfl (by simp) λY' F h=>c Y' ⟨(by simp_all),(by grind [gp.fx,Gn.sa,Gn.sb]),F.len.trans G.le,G.sb,G.sa,G.wb,G.lb,G.hq⟩ F
def bG:Nat->Nat|0=>0|m+1=>10+8*bG m
def aRo(b:Id)(w:J9)(loc:List ByteArray)(m:Nat):Prop:=∀{κ:Int} {Y:ae} {a:AV} {n:Nat} {l:List NA},Gn κ Y b w loc a n->κ<=1000000->shL m 8 l->n+L l*bG m<60000->∃r Y1,GR κ (L l*bG m) Y b w loc a n r Y1/\cZ aS GG 190 [.p b 0 0,sl NA.c l] Y r Y1
theorem aV7{m:Nat}(i:aRo b w loc m)(G:Gn κ Y b w loc a n)(h:κ<=1000000){l:List NA}(e:shL m 4 l)(o:n+4*bG m<60000)(k:∀g f Y1,Gn κ Y1 b w loc g f->n<=f->f<=n+4*bG m->R4 b Y a Y1 g->K (.t []) Y1):cB 190 [.p b 0 0,sl NA.c l] Y d K:=by have j:L l*bG m<=4*bG m:=qo _ e.1;exact aPv rfl (i G h ⟨by have:=e.1;omega,e.2⟩<|by omega) (by grind)
theorem bc9{m:Nat}(F:aRo b w loc m)(G:Gn κ Y b w loc a n){x:NA}(E:shS (m+1) x)(hn:n+bG (m+1)<60000)(T:κ<=1000001)(o1 M y:Int):∃r Y1,GR (κ-1) (bG<|m+1) Y b w loc a n r Y1/\cZ aS GG 275 [.p b 0 0, .a x.c,iv o1,iv M,iv y] Y r Y1:=by obtain⟨m',S,g1,g2⟩:=E.body;obtain rfl:m=m':=(by omega);have R:bG (m+1)=10+8*bG m:=rfl;obtain⟨C,D⟩:=b;obtain rfl:C=45:=G.sb;refine bg0 G.le bit λl v3 v W nf2 O=>?_;have g:Fx Y l []:=v.fx [];have G2:=G.fx0 g;have z:R4 (45,D) Y a l a:=R4.of0 g;obtain⟨s,nx,k⟩:=G2.bx;simp only[aU3,qb k,u0,u1,k,aRV,bfx,aRa,aj,bdI,↓uL];refine aPw G2 (by omega) λZ s3 n3 q h1 h2 i=>?_;have P:=i.f.keep _ _ (by grind [Gn.out]) O;simp only[qz 4,u0,u1,P,pz,aj,↓uL];refine aV7 F q (by omega) g1 (by omega) λa4 n4 s4 h h3 h4 j=>?_;obtain⟨s',X,e⟩:=h.bx;simp only[qz 6,qb e,u0,u1,e,aj,↓uL];refine h.set λs5 t o=>?_;simp only[qz 8,qy 10,bdI,aY];refine aPw t (by omega) λB s6 H u h5 h6 A=>⟨B,H,rfl,u.mono (by omega),by omega,by omega,(((z.trans i).trans j).trans<|R4.ofb o).trans A⟩
theorem a6I{m:Nat}(ih:aRo b w loc m)(G:Gn κ Y b w loc a n){x:NA}(hx:shS (m+1) x)(he:shE 2 x.expr)(hn:n+bG (m+1)<60000)(aU:κ<=1000001):∃r Y1,GR (κ-1) (bG<|m+1) Y b w loc a n r Y1/\cZ aS GG 274 [.p b 0 0, .a x.c] Y r Y1:=by obtain⟨m',aQ,g1,g2⟩:=hx.body;obtain rfl:m=m':=(by omega);have aP:bG (m+1)=10+8*bG m:=rfl;obtain⟨b1,O⟩:=b;obtain rfl:b1=45:=G.sb;refine bg2 G.le bit λs2 v3 K2 aV nf2 q2=>?_;have B:Fx Y s2 []:=K2.fx [];have G2:=G.fx0 B;have R2:R4 (45,O) Y a s2 a:=R4.of0 B;obtain⟨s,nx,W⟩:=G2.bx;obtain⟨o2,P,aR⟩:=G2.ga;simp only[aU5,qb W,u0,u1,W,q2,pz,aj,P.ln,↓uL];refine aRF G2 (by omega) he λa3 n3 s3 u h1 h2 R3=>?_;have q3:=R3.f.keep _ _ (by grind [Gn.out]) q2;obtain⟨s',aW,l⟩:=u.bx;obtain⟨o3,R,X⟩:=u.ga;simp only[qz 4,qb l,u0,u1,l,aRV,bfx,aRa,aj,R.ln,bdI,↓uL];refine aPw u (by omega) λa4 s4 n4 G4 h3 h4 E=>?_;have q4:=E.f.keep _ _ (by grind [Gn.out]) q3;simp only[qz 6,u0,u1,q4,pz,aj,↓uL];refine aV7 ih G4 (by omega) g1 (by omega) λH n5 s5 D h5 h6 R5=>?_;have q5:=R5.f.keep _ _ (by grind [Gn.out]) q4;obtain⟨aZ,aD,o⟩:=D.bx;simp only[qz 8,qb o,u0,u1,o,aj,↓uL];refine D.set λs6 h F6=>?_;have q6:=F6.kq q5;have F:R4 (45,O) Y a s6 H:=(by grind [R4.trans,R4.ofb]);obtain⟨a8,aX,q⟩:=h.bx;obtain⟨o6,S,Z⟩:=h.ga;have z:L (o3.map aNZ.c)=n3:=(by simp[X]);simp only[qz 10,qy 16,qb q,u0,u1,q,q6,pz,aj,S.ln,bdI,z,↓uL];refine⟨λ_=>?_,λ_=>⟨λ_=>?_,λ_=>?_⟩⟩;refine aPw h (by omega) λM s7 n7 g h7 h8 y=>?_;obtain⟨al,ae,e⟩:=g.bx;obtain⟨o7,k,aa⟩:=g.ga;simp only[qz 12,qy 14,qb e,u0,u1,e,aRV,bfx,aRa,aj,k.ln,↓uL];refine g.patch (by omega) (.inr rfl) λs8 i j=>?_;exact⟨M,n7,rfl,i.mono (by omega),by omega,by omega,(F.trans y).trans j⟩;refine h.patch (by omega) (.inr rfl) λs8 i j=>?_;exact⟨H,n5,rfl,i.mono (by omega),by omega,by omega,F.trans j⟩;refine aPw h (by omega) λM s7 n7 g h7 h8 y=>?_;have q7:=y.f.keep _ _ (by grind [Gn.out]) q6;obtain⟨al,ae,e⟩:=g.bx;obtain⟨o7,k,aa⟩:=g.ga;simp only[qz 18,qb e,u0,u1,e,aRV,bfx,aRa,aj,k.ln,↓uL];refine g.patch (by omega) (.inr rfl) λs8 i j=>?_;have q8:=j.f.keep _ _ (by grind [Gn.out]) q7;simp only[qz 20,u0,u1,q8,pz,aj,↓uL];refine aV7 ih i (by omega) g2 (by omega) λa9 n9 s9 v h9 aO R9=>?_;obtain⟨ba,aY,t⟩:=v.bx;obtain⟨o9,T,aT⟩:=v.ga;have A:L (o6.map aNZ.c)=n5:=(by simp[Z]);simp only[qz 22,qy 24,qb t,u0,u1,t,aRV,bfx,aRa,aj,T.ln,A,↓uL];refine v.patch (by omega) (.inl rfl) λa6 C aN=>?_;exact⟨a9,n9,rfl,C.mono (by omega),by omega,by omega,by grind [R4.trans]⟩
theorem bde(G:Gn κ Y b w loc a n)(h:ByteArray):∃r Y1,((∃v,r= .s v/\∃u:Int,AV.s v=iv u)/\Fx Y Y1 [])/\cZ aS GG 276 [.p b 0 0,st h] Y r Y1:=by refine bg3 G.le ?_;obtain⟨s,nx,e⟩:=G.bx;have i:=G.wb.2.2.1;simp only[aU6];refine bhZ (L w.bC) (λk=>True) trivial λk l j=>?_;have g:∀u:Int,aNN (λr Y1=>(∃v,r= .s v/\∃u:Int,AV.s v=iv u)/\Fx Y Y1 []) Y [iv u]:=λu=>⟨⟨_,rfl,u,rfl⟩,Fx.refl _ _⟩;simp+contextual only[qz 19,aI,au,qb e,u0,u1,e,aRV,bfx,aRa,rk,aj,aBz (f:=aOw.c) (z:=2)<|λ_=>rfl,bh,g,↓uL];grind [dJ,gS]
theorem baW(G:Gn κ Y b w loc a n){c:ByteArray}(e:∀u:Int,K (iv u) Y):cB 276 [.p b 0 0,st c] Y d K:=aV6 rfl (bde G c) (by simp_all)
theorem bdx{m:Nat}(X:aRo b w loc m)(G:Gn κ Y b w loc a n){x:NA}(H:shS (m+1) x)(W:n+bG (m+1)<60000)(aK:κ<=1000000):∃r Y1,GR κ (bG<|m+1) Y b w loc a n r Y1/\cZ aS GG 243 [.p b 0 0, .a x.c] Y r Y1:=by
 have B:=H.at
 have ho:=H.ops
 have aG:bG (m+1)=10+8*bG m:=rfl
 obtain⟨b1,i⟩:=b
 obtain rfl:b1=45:=G.sb
 refine bg5 G.le bit λs2 v3 K2 aL nf2 q2=>?_
 have F2:Fx Y s2 []:=K2.fx []
 have G2:=G.fx0 F2
 obtain⟨s,nx,hb⟩:=G2.bx
 simp only[aU8,qb hb,u0,u1,hb,aRV,bfx,aRa,aj,↓uL]
 refine G2.set λs3 M F3=>?_
 have q3:=F3.kq q2
 obtain⟨s',am,aJ,P⟩:=M.bx0
 simp only[qz 4,qb P,u0,u1,P,aRV,bfx,aRa,aj,eM (x:=am+1) (by omega) (by omega),↓uL]
 refine(M.mono (κ':=κ+1)<|by omega).nxt (by omega) (by omega) λE g F4=>?_
 have q4:=F4.kq q3
 have j:R4 (45,i) Y a E a:=((R4.of0 F2).trans<|R4.ofb F3).trans<|R4.ofb F4
 obtain⟨aN,az,C⟩:=g.bx
 have A:=g.wb
 have hL:=g.lb
 have O:∀{T:ae} {a3:AV} {Z:Nat} {x:aNZ} {d:Nat},Gn (κ+1) T (45,i) w loc a3 Z->n<=Z->Z<=n+3->R4 (45,i) Y a T a3->cB 191 [.p (45,i) 0 0, .a x.c] T d λS v=>aNN (GR κ (bG<|m+1) Y (45,i) w loc a n) v []:=λM l o R3=>
  aPw M (by omega) λk Y1 q G' g1 g2 R'=>⟨k,q,rfl,G'.mono (by omega),by omega,by omega,R3.trans R'⟩
 have t:∀{o1 o2 y:Int} {d:Nat},cB 275 [.p (45,i) 0 0, .a x.c,iv o1,iv o2,iv y] E d λS v=>aNN (GR κ (bG<|m+1) Y (45,i) w loc a n) v []:=λ{o1 o2 y d}=>
  aPv rfl (bc9 X g H W (by omega) o1 o2 y) λk q Y1 l o D z=>⟨k,q,rfl,l.mono (by omega),o,D,j.trans z⟩
 have F:∀{nm:ByteArray} {d:Nat} {K:be},(∀u:Int,K (iv u) E)->cB 276 [.p (45,i) 0 0,st nm] E d K:=λhK=>baW g hK
 have e:∀{x:aNZ} {d:Nat},cB 191 [.p (45,i) 0 0, .a x.c] E d λS v=>aNN (GR κ (bG<|m+1) Y (45,i) w loc a n) v []:=λ{x d}=>O g (by omega) (by omega) j
 have aF:dG E (.a w.c)= .a w.c:=rfl
 simp only[qz 6,qy 8,qb C,u0,u1,C,q4,pz,aj,↓uL]
 have hc:x.op=1\/x.op=2\/x.op=3\/x.op=4\/x.op=5\/x.op=6\/x.op=7\/x.op=8\/x.op=9\/x.op=10\/x.op=11\/x.op=12\/x.op=13\/x.op=14\/x.op=15:=by omega
 rcases hc with h|h|h|h|h|h|h|h|h|h|h|h|h|h|h
 all_goals
  simp only[h,aI,au,qz 41,qz 39,qy 10,qy 12,qy 14,qy 16,qy 18,qy 20,qy 34,qy 36,qy 42,qb C,u0,u1,C,q4,pz,aj,bj5,boY,Int.reduceEq,↓iC,↓iB,jM,kU,jt,tW,alg,aD6,rr,bdI,ip,aYF,Bool.true_eq_false,eE,aPy,zp,↓uL]
 ·exact aPv rfl (bda g (by omega) (B.1<|.inl h) B.2.2.1 B.2.2.2.1 B.2.1) λk q Y1 l o D z=>⟨k,q,rfl,l.mono (by omega),o,by omega,j.trans z⟩
 ·exact aPv rfl (a6I X g H (B.1<|by omega) W<|by omega) λk q Y1 l o D z=>⟨k,q,rfl,l.mono (by omega),o,D,j.trans z⟩
 ·exact aPv rfl (a6I X g H (B.1<|by omega) W<|by omega) λk q Y1 l o D z=>⟨k,q,rfl,l.mono (by omega),o,D,j.trans z⟩
 ·exact⟨by have:=A.2.1;omega,λ_=>t⟩
 ·exact⟨by have:=A.2.1;omega,λ_=>t⟩
 ·exact⟨by have:=A.2.1;omega,λ_=>t⟩
 ·exact t
 ·exact t
 ·exact F λu=>by simp only[qz 22,qy 24,bdI,aY];exact e
 ·exact F λu=>by simp only[qz 26,qy 28,bdI,aY];exact e
 ·exact F λu=>by simp only[qz 30,qy 32,bdI,aY];exact e
 ·exact⟨by have:=A.2.2.2.2.1;omega,e⟩
 ·exact⟨by have:=A.2.2.2.2.1;omega,e⟩
 ·refine aRF g (by omega) (B.1<|by omega) λa5 n5 s5 G5 l o R5=>?_
  have q5:=R5.f.keep _ _ (by grind [Gn.out]) q4
  obtain⟨aO,aM,R⟩:=G5.bx
  have aw:dG s5 (.a w.c)= .a w.c:=rfl
  simp only[qz 38,qy 40,qb R,u0,u1,R,q5,pz,aj,jM,kU,jt,tW,alg,aD6,AL,bdI,ip,↓uL]
  exact⟨by have:=A.2.2.2.1;omega,O (G5.mono<|by omega) (by omega) (by omega)<|j.trans R5⟩
 ·exact⟨by omega,by have:=A.2.2.2.1;omega,e⟩
theorem bdz(m:Nat):m<=4->aRo b w loc m:=by induction m with|zero=>intro _ κ Y a n l G o e u;have j:l=[]:=(by cases l with|nil=>rfl|cons x l=>exact(e.2 x<|by simp).elim);subst j;refine a7T G.le ?_;simp only[aSu];refine yV 0 (λ_ _ Y'=>Y'=Y) rfl ?_;rintro k _ Y1 g rfl;obtain rfl:k=0:=(by omega);simp only[qz 7,aI,au,u0,u1,aO1,↓uL];exact⟨λh=>by simp at h,λ_=>⟨a,n,rfl,G,by omega,by omega,R4.refl⟩⟩|succ m v=>intro F κ Y a n l G o e u;have E:=G.le;have z:bG (m+1)<=46810:=(by have:m=0\/m=1\/m=2\/m=3:=(by omega);rcases this with rfl|rfl|rfl|rfl<;>decide);refine a7T G.le ?_;simp only[aSu];refine jD (α:=AV×Nat) (λ_ i=>[iv i]) 0 (L l) (λi x Y'=>Gn κ Y' b w loc x.1 x.2/\n<=x.2/\x.2<=n+i*bG (m+1)/\R4 b Y a Y' x.1) (s0:=(a,n)) (by grind [R4.refl]) ?_;rintro k ⟨a1,p⟩ Y1 g ⟨f,r,D,q⟩;have A:k*bG (m+1)<=L l*bG (m+1):=qo _ g;simp only[qz 7,aI,au,u0,u1,ixv,bh,rr,pz,↓uL];refine⟨λh=>⟨u7 h,?_⟩,λ_=>⟨a1,p,rfl,f,r,by omega,q⟩⟩;have c:=aL h;have hs:(k+1)*bG (m+1)=k*bG (m+1)+bG (m+1):=Nat.succ_mul _ _;have t:(k+1)*bG (m+1)<=L l*bG (m+1):=qo _ c;refine aPv rfl (bdx (v<|by omega) f (e.2 _<|ig c) (by omega)<|by omega) λa2 y Y2 G2 g1 C B=>?_;simp only[qz 2,au,u0,u1,↓uL];exact dR (mk:=λ(_:AV×Nat) i=>[iv i]) (s:=(a1,p)) (s':=(a2,y)) (λ_ _=>rfl) c (by have:=e.1;omega) (by grind [R4.trans])
theorem ba2(G:Gn κ Y b w loc a 0){l:List NA}(f:shL 4 8 l)(g:κ<=1000000)(k:∀e h Y1,Gn κ Y1 b w loc e h->h<=50000->R4 b Y a Y1 e->K (.t []) Y1):cB 190 [.p b 0 0,sl NA.c l] Y d K:=by have j:L l*bG 4<=8*bG 4:=qo _ f.1;have i:bG 4=5850:=rfl;exact aPv rfl (bdz 4 (by omega) G g f<|by omega) (by grind)
end
def aQN{fn:FuncId}{xs:List AV}{Y:ae}{d:Nat}{K R:be}{ks:List Nat}(k:uQ.elem fn=I)(i:fps.lookup fn=V ks)(l:List Id)(a:∀x∈xs,okX ks l x)(b:okB ks l<|bim ks l Y)(h:∃r Y1,R r Y1/\cZ aS GG fn xs (bim ks l Y) r Y1)(g:∀r Y1,R r Y1->L Y1=L Y/\∃l':List Id,okB ks l' Y1/\okX ks l' r/\K r (avs ks l' Y Y1)):cV fn xs Y d K:=by obtain⟨r,Y1,c,f⟩:=h;obtain⟨j,l',m,n,o⟩:=g r Y1 c;have e:aPf GGV fn=V ks:=(by have p:GGV.fp fn=V ks:=i;have q:GGV.rd fn=I:=k;grind [aPf]);unfold cV tR;rw[e];exact⟨l,l',r,Y1,f,j,a,b,m,n,o⟩
section
variable{ks:List Nat}{l:List Id}{Y Y1:ae}
def aQw{e:TypeId}{z:Nat}{a:AV}{bA:List (List AV)}(g:gp Y1 e z a bA)(h:∀q∈aA a,okI ks l q):okC ks l a:=by rcases g with⟨_,rfl⟩|⟨q,m,rfl,_⟩;exact .inr rfl;exact h q (by simp[aA])
theorem a6y{e:TypeId}{z:Nat}{a:AV}{bA:List (List AV)}(g:gp Y e z a bA)(h:∀q∈aA a,okI ks l q):gp (bim ks l Y) e z a bA:=by rcases g with g|⟨q,r,rfl,g⟩;exact .inl g;have b:=h q (by simp[aA]);exact .inr ⟨q,r,rfl,by rw[aOV b.1,f8 b.2];exact g⟩
theorem aRR(c:L Y1=L Y){e:TypeId}{z:Nat}{a:AV}{bA:List (List AV)}(g:gp Y1 e z a bA)(h:∀q∈aA a,okI ks l q):gp (avs ks l Y Y1) e z a bA:=by rcases g with g|⟨q,r,rfl,g⟩;exact .inl g;have b:=h q (by simp[aA]);exact .inr ⟨q,r,rfl,by rw[aPT c b.1,f8 b.2];exact g⟩
theorem aNO{e:TypeId}{z:Nat}{a:AV}{bA:List (List AV)}(g:gp Y e z a bA):∀p∈aA a,∀x,box Y p=V x->x.var=U->False:=by rcases g with⟨_,rfl⟩|⟨b,r,rfl,g⟩;simp[aA];grind [aA,cE]
end
structure Kx(ks:List Nat)(Y Y':ae):Prop where
 len:L Y'=L Y
 keep:∀b x,b.1∉ks->box Y b=V x->box Y' b=V x
theorem Kx.mix{ks:List Nat}{l:List Id}{Y Y1:ae}:Kx ks Y (avs ks l Y Y1):=⟨aPl,by grind [aPt]⟩
def Kx.kq{ks:List Nat}{Y Y':ae}(k:Kx ks Y Y'){b:Id}{x:bY}(c:box Y b=V x)(a:b.1∉ks:=by simp):box Y' b=V x:=k.keep b x a c
section
variable{ks:List Nat}{Y Y' Y1:ae}{m b:Id}{hs:List ByteArray}{h:AV}{d:Nat}{K:be}{l:List Id}
theorem Kx.gr(k:Kx ks Y Y'){e:TypeId}{z:Nat}{a:AV}{bA:List (List AV)}(g:gp Y e z a bA)(c:∀q∈aA a,q.1∉ks):gp Y' e z a bA:=by rcases g with g|⟨b,m,rfl,g⟩;exact .inl g;exact .inr ⟨b,m,rfl,k.keep _ _ (c b<|by simp[aA]) g⟩
theorem Fx.kx{Lw:List Id}(F:Fx Y Y' Lw)(c:∀q∈Lw,q.1∈ks):Kx ks Y Y':=⟨F.len,by grind [Fx.keep]⟩
theorem J7.mix(M:J7 Y1 m b hs h)(c:L Y1=L Y)(g:okI ks l m)(f:okI ks l b)(i:∀q∈aA h,okI ks l q):J7 (avs ks l Y Y1) m b hs h:=by obtain⟨o,k,s,tx,e,n,j⟩:=M.mx;obtain⟨Lw,a,T⟩:=M.tp;refine⟨⟨o,k,s,tx,e,n,?_⟩,⟨Lw,a,⟨?_,T.le,T.ok,T.ll⟩⟩,aRR c M.gh i,by grind [aPl,J7.le],M.sm,M.sb,M.sh⟩;rw[aPT c g.1,f8 g.2];exact j;rw[aPT c f.1,f8 f.2];exact T.bx
def J7.cut(M:J7 Y m b hs h)(f:okI ks l m)(e:okI ks l b)(g:∀q∈aA h,okI ks l q):J7 (bim ks l Y) m b hs h:=by obtain⟨n,j,s,tx,c,k,i⟩:=M.mx;obtain⟨Lw,a,T⟩:=M.tp;refine⟨⟨n,j,s,tx,c,k,?_⟩,⟨Lw,a,⟨?_,T.le,T.ok,T.ll⟩⟩,a6y M.gh g,by rw[aOr];exact M.le,M.sm,M.sb,M.sh⟩;rw[aOV f.1,f8 f.2];exact i;rw[aOV e.1,f8 e.2];exact T.bx
theorem J7.bA(M:J7 Y1 m b hs h)(g:okI ks l b)(i:∀q∈aA h,okI ks l q):∀p,p=m\/p=b\/p∈aA h->∀x,box Y1 p=V x->x.var=U->∀q∈x.bA,∀y∈q,okC ks l y:=by obtain⟨u,r,s,tx,o,t,n⟩:=M.mx;obtain⟨Lw,a,T⟩:=M.tp;rintro p (rfl|rfl|j) x c k q e y f;rw[n] at c;cases c;simp only[cE] at e;subst e;simp only[eW,ql,bie] at f;rcases f with rfl|rfl|rfl|rfl|rfl|rfl|rfl|rfl;exact g;trivial;trivial;trivial;trivial;trivial;trivial;exact aQw M.gh i;rw[T.bx] at c;cases c;simp only[cE] at e;subst e;simp only[eW,ql,bie] at f;rcases f with rfl|rfl;exact .inl rfl;trivial;exact(aNO M.gh p j x c k).elim
theorem aXR(M:J7 Y m b hs h){n:Int}(E:∀(x:Int) Y1,0<=x->(1<=n->x<n)->J7 Y1 m b hs h->Kx [14,15,16] Y Y1->K (iv x) Y1):cV 115 [.p b 0 0,iv n] Y d K:=by have o:=M.sm;have k:=M.sb;have z:okI [14,15,16] (m::b::aA h) m:=⟨by simp[o],by simp⟩;have e:okI [14,15,16] (m::b::aA h) b:=⟨by simp[k],by simp⟩;have g:∀q∈aA h,okI [14,15,16] (m::b::aA h) q:=λq j=>⟨by simp[M.sh q j],by simp[j]⟩;have c:=M.cut z e g;obtain⟨Lw,a,T⟩:=c.tp;refine aQN rfl rfl (m::b::aA h) (λx t=>?_) (λp f=>c.bA e g p<|by simpa using f) (aWF c.le T n) ?_;simp only[eW,ql,bie] at t;rcases t with rfl|rfl;exact e;trivial;rintro r Y1 ⟨x,u,rfl,B,C,w,D,_,F⟩;have i:J7 Y1 m b hs h:=(by obtain⟨O,H,s,tx,A,N,G⟩:=c.mx;exact⟨(by grind [Fx.keep]),⟨Lw,u,w⟩,c.gh.fx F M.nb,F.len.trans c.le,M.sm,M.sb,M.sh⟩);have y:L Y1=L Y:=i.le.trans M.le.symm;exact⟨y,m::b::aA h,λp f=>i.bA e g p (by simpa using f),trivial,by grind [J7.mix,Kx.mix]⟩
theorem baZ{D:Nat}(M:J7 Y m b hs h)(T:L hs+D<=500){t n:Int}(S:t=D)(N:0<=n)(O:n<=3)(P:∀(a:AV) (l:List NA) (h':AV) Y1,gp Y1 274 11 a (l.map NA.c)->(L l:Int)<=n->(∀x∈l,shS (D+1) x)->(∀q∈aA a,q.1=30)->J7 Y1 m b hs h'->Kx [14,15,16,30] Y Y1->K a Y1):cV 194 [.p m 0 0,iv t,iv n] Y d K:=by subst S;have j:=M.sm;have i:=M.sb;have B:okI [14,15,16,30] (m::b::aA h) m:=⟨by simp[j],by simp⟩;have u:okI [14,15,16,30] (m::b::aA h) b:=⟨by simp[i],by simp⟩;have z:∀q∈aA h,okI [14,15,16,30] (m::b::aA h) q:=λq e=>⟨by simp[M.sh q e],by simp[e]⟩;have s:=M.cut B u z;refine aQN rfl rfl (m::b::aA h) (λx o=>?_) (λp f=>s.bA u z p<|by simpa using f) (bdw D s T N O) ?_;simp only[eW,ql,bie] at o;rcases o with rfl|rfl|rfl;exact B;trivial;trivial;rintro r Y1 ⟨l,h',g1,F,G,H,k,R⟩;have g:L Y1=L Y:=k.le.trans M.le.symm;have C:okI [14,15,16,30] (m::b::(aA h'++aA r)) m:=⟨by simp[j],by simp⟩;have w:okI [14,15,16,30] (m::b::(aA h'++aA r)) b:=⟨by simp[i],by simp⟩;have A:∀q∈aA h',okI [14,15,16,30] (m::b::(aA h'++aA r)) q:=λq e=>⟨by simp[k.sh q e],by simp[e]⟩;have E:∀q∈aA r,okI [14,15,16,30] (m::b::(aA h'++aA r)) q:=λq e=>⟨by simp[(H q e).2],by simp[e]⟩;refine⟨g,m::b::(aA h'++aA r),?_,?_,P r l h' _ (aRR g g1 E) F G (by grind) (k.mix g C w A) Kx.mix⟩;intro p f x o W q e y X;simp only[eW,dF] at f;rcases f with f|f|f|f;grind [J7.bA];grind [J7.bA];grind [J7.bA];grind [aNO];have:=aQw (ks:=[14,15,16,30]) (l:=m::b::(aA h'++aA r)) g1 E;rcases g1 with⟨_,rfl⟩|⟨q,Z,rfl,_⟩<;>exact this
end
def apX{Y:ae}{e:TypeId}{z d by':Nat}{zs:List AV}{a x:AV}{bA new:List (List AV)}{K:be}(g:gp Y e z a bA)(t:gp Y e z x new)(B:L zs=z)(u:0<z)(w:d<L Y)(A:∀r∈bA,L r=z)(y:∀r∈new,L r=z)(i:(L bA+L new)*(by'+1)<=1099511627776)(s:∀c Y',gp Y' e z c (bA++new)->Fx Y Y' (aA a)->(∀b∈aA c,b∈aA a\/b.1=d)->K c Y'):eV (Gy e zs by' Y d a x) K:=by have n:gL Y x=V new:=(by rcases t with⟨rfl,rfl⟩|⟨q,m,rfl,f⟩;rfl;simp[gL,f]);have o:Gy e zs by' Y d a x=Gy e zs by' Y d a (.l new U U):=(by have j:gL Y (.l new U U)=V new:=rfl;unfold Gy;rw[n,j]);rw[o];by_cases k:new=[];subst k;have:Gy e zs by' Y d a (.l [] U U)=V (a,Y):=(by unfold Gy;simp only[gL];rw[f8<|by simp];rcases g with⟨_,rfl⟩|⟨q,m,rfl,f⟩;rfl;simp[f]);rw[this];exact s a Y (by simpa using g) (Fx.refl _ _) λb i=> .inl i;grind [qs,bc.p]
structure MPs(Y:ae)(m b:Id)(v1 v4:Nat)(h:AV)(ts:List aO6)(a:AV):Prop where
 M:J7 Y m b [] h
 p:box Y (4,v4)=V ⟨196,2,U,U,[[sl w6.c aNF,a]]⟩
 ga:gp Y 258 4 a (ts.map aO6.c)
 pa:∀q∈aA a,q.1=93
 r:box Y (2,v1)=V ⟨196,2,U,U,[aoD]⟩
 ht:∀t∈ts,shT t
structure TB(Y:ae)(v:Nat)(nm:ByteArray)(a:AV)(l:List NA):Prop where
 p:box Y (8,v)=V ⟨258,4,U,U,[[st nm,iv 0, .l ([⟨#[97]⟩,⟨#[98]⟩].map cs) U U,a]]⟩
 ga:gp Y 274 11 a (l.map NA.c)
 pa:∀q∈aA a,q.1=56\/q.1=68\/q.1=87
 hs:∀s∈l,shS 4 s
section
variable{ks:List Nat}{Y Y':ae}{m b:Id}{v1 v4 v:Nat}{h h' a:AV}{ts:List aO6}{nm:ByteArray}{l:List NA}{Lw:List Id}
theorem MPs.kx(S:MPs Y m b v1 v4 h ts a)(k:Kx ks Y Y')(M:J7 Y' m b [] h')(c:4∉ks)(e:2∉ks)(f:93∉ks):MPs Y' m b v1 v4 h' ts a:=⟨M,k.keep _ _ c S.p,k.gr S.ga λq g=>by grind [MPs.pa],S.pa,k.keep _ _ e S.r,S.ht⟩
theorem MPs.fx(S:MPs Y m b v1 v4 h ts a)(F:Fx Y Y' Lw)(e:∀q∈Lw,q.1=8\/q.1=56\/q.1=68\/q.1=87):MPs Y' m b v1 v4 h ts a:=by have i:=S.M.sm;have f:=S.M.sb;refine⟨S.M.fx F (by grind) (by grind) (λq c g=>by have:=e _ g;have:=S.M.sh q c;omega),(by grind [Fx.keep,MPs.p]),S.ga.fx F (λq c g=>by grind [MPs.pa]),S.pa,(by grind [Fx.keep,MPs.r]),S.ht⟩
theorem TB.kx(S:TB Y v nm a l)(k:Kx ks Y Y')(c:8∉ks)(e:56∉ks)(f:68∉ks)(g:87∉ks):TB Y' v nm a l:=⟨k.keep _ _ c S.p,k.gr S.ga (λq i=>by grind [TB.pa]),S.pa,S.hs⟩
theorem TB.fx0(S:TB Y v nm a l)(F:Fx Y Y' Lw)(c:∀q∈Lw,q.1≠8/\q.1≠56/\q.1≠68/\q.1≠87):TB Y' v nm a l:=⟨(by grind [Fx.keep,TB.p]),S.ga.fx F (λq e g=>by grind [TB.pa]),S.pa,S.hs⟩
theorem TB.set{i:AV}(n:box Y (8,v)=V ⟨258,4,U,U,[[st nm,iv 0, .l ([⟨#[97]⟩,⟨#[98]⟩].map cs) U U,i]]⟩){e:AV}{l':List NA}(g:gp Y 274 11 e<|l'.map NA.c)(o:∀q∈aA e,q.1=56\/q.1=68\/q.1=87)(f:∀s∈l',shS 4 s){K:ae->Prop}(k:∀Y1,TB Y1 v nm e l'->Fx Y Y1 [(8,v)]->K Y1):sV (aK 1 Y (.p (8,v) 0 3) e) K:=A0 n g.ce (by simp) λY1 F j=>k Y1 ⟨j,(by grind [gp.fx]),o,f⟩ F
end
def baI{Y:ae}:aX zd9 4 Y [(0,sv [109,97,105,110]),(1,sv [116,49]),(2,sv [116,50]),(3,sv [116,51])]=V (.l ([⟨#[109,97,105,110]⟩,⟨#[116,49]⟩,⟨#[116,50]⟩,⟨#[116,51]⟩].map cs) U U,Y):=by kernel_rfl
def bas{nm:ByteArray}:bM bt2 bmK [(0,st nm),(2, .l ([⟨#[97]⟩,⟨#[98]⟩].map cs) U U)]=V (.a [st nm,iv 0, .l ([⟨#[97]⟩,⟨#[98]⟩].map cs) U U, .l [] U U]):=rfl
def a5R{o:Int}{nm:ByteArray}:bM brG alz [(0,iv o),(2,st nm)]=V (.a [iv o,iv 0,st nm,sv [], .l [] U U,iv 0,iv 0,sv [], .l [] U U, .l [] U U, .l [] U U]):=rfl
def a51{Y:ae}{o:Int}{nm:ByteArray}:aX brP 1 Y [(0, .a [iv o,iv 0,st nm,sv [], .l [] U U,iv 0,iv 0,sv [], .l [] U U, .l [] U U, .l [] U U])]=V (.l ([NA.mk o 0 nm ⟨#[]⟩ [] (kW.mk 0 0 ⟨#[]⟩ []) [] []].map NA.c) U U,Y):=aQm (tgt:=(NA.mk o 0 nm ⟨#[]⟩ [] (kW.mk 0 0 ⟨#[]⟩ []) [] []).c) (by rw[a6X];rfl) bit (by decide) (aS7 (x:=NA.mk o 0 nm ⟨#[]⟩ [] (kW.mk 0 0 ⟨#[]⟩ []) [] [])) (by decide)
def aWJ(l:List Int)(hp:(∀x∈l,0<=x/\x<256)/\L l<4611686018427387904):Ct 123 [sl cu l] (λr=>∃p:aQl,r= .a p.c/\shP p/\p.bm0=aNF):=by refine aDq (bgf λs0 hl h0=>?_);simp only[aUA];refine ic hl λv1 s1 F1 N1 q1=>?_;have bu:=F1.len.trans hl;have ac:bM btZ brF [(0,sl cu l)]=V (.a [sl cu l,iv 0]):=rfl;simp only[qz 2,qy 8,ac,aY];refine bxL rfl (by decide) (by omega) λE s2 F2 N2 q2=>?_;have bw:=F2.len.trans bu;have bp:bM bu0 [(0,1),(1,1),(2,1),(3,1),(4,1),(5,1),(6,1),(7,1)] [(0, .p (14,E) 0 0),(2,iv 20)]=V (.a [.p (14,E) 0 0,iv 0,iv 20,bv I,bv I,bv I,bv I, .l [] U U]):=rfl;simp only[bp,aY];refine bxL rfl (by decide) (by omega) λZ s3 F3 N3 q3=>?_;have aL:=F3.len.trans bw;have T3:Tp s3 (14,E) l 0:=⟨F3.kq q2,by omega,hp.1,hp.2⟩;have M3:J7 s3 (16,Z) (14,E) [] (.l [] U U):=⟨(by simp_all),⟨l,0,T3⟩, .inl ⟨rfl,rfl⟩,aL,rfl,rfl,by simp[aA]⟩;have bq:bM aoD brF [(0,sl w6.c aNF)]=V (.a [sl w6.c aNF, .l [] U U]):=rfl;simp only[jM,jt,aQV,bq,u0,↓uL];refine⟨by simp[lo,nA,uN,yv,wD],?_⟩;refine anu aL λv4 s4 F4 N4 q4=>?_;have S4:MPs s4 (16,Z) (14,E) v1 v4 (.l [] U U) [] (.l [] U U):=⟨M3.fx0 F4,q4, .inl ⟨rfl,rfl⟩,by simp[aA],F4.kq<|F3.kq<|F2.kq q1,by simp⟩;obtain⟨th,lf,s,tx,ab,lp,aK⟩:=S4.M.mx;simp only[qz 10,qb aK,u0,u1,aK,aRV,aRa,aj,↓uL];refine aXR S4.M λy s5 y0 y1 M5 K5=>?_;have y1:=y1 (by decide);have S5:=S4.kx K5 M5 (by decide) (by decide) (by decide);simp only[qz 12,qy 14,u0,u1,baI,eM (x:=2+y) (by omega) (by omega),↓uL];obtain⟨n,hn⟩:∃n:Nat,2+y=n:=(by grind);rw[hn];have cn:n<=4:=(by omega);refine yV n (λk _ Y=>∃h ts a,MPs Y (16,Z) (14,E) v1 v4 h ts a/\L ts=k) ⟨_,_,_,S5,rfl⟩ ?_;rintro k _ Y hk ⟨h,ts,a,S,bB⟩;have aM:=S.M.le;obtain⟨th,lf,s,tx,ab,lp,hb⟩:=S.M.mx;simp only[qz 43,qy 60,aI,au,qb hb,u0,u1,hb,aRa,aj,↓uL];refine⟨λad=>?_,λad=>?_⟩;have a5:k<n:=(by grind);refine aPJ S.M (by simp) λs6 M6 F6=>?_;have S6:MPs s6 (16,Z) (14,E) v1 v4 h ts a:=S.kx (ks:=[16]) (F6.kx<|by simp) M6 (by decide) (by decide) (by decide);simp only[qz 16,au,amZ,u0,rk,pz,aV4,↓uL];refine⟨⟨by omega,by simp;omega⟩,?_⟩;generalize gd ([⟨#[109,97,105,110]⟩,⟨#[116,49]⟩,⟨#[116,50]⟩,⟨#[116,51]⟩]:List ByteArray) (k:Int).toNat=nm;simp only[qz 18,qy 20,bas,aY];refine anu S6.M.le λv8 s7 F7 N7 q7=>?_;have S7:=S6.fx F7 (by simp);have B7:TB s7 v8 nm (.l [] U U) []:=⟨q7, .inl ⟨rfl,rfl⟩,by simp[aA],by simp⟩;simp only[qz 22,↓uL];refine bpD (λo=>∀(Y1:ae) (h1 a8:AV) (w:List NA),MPs Y1 (16,Z) (14,E) v1 v4 h1 ts a->TB Y1 v8 nm a8 w->L w<=3->o [] Y1) ?_ λo az=>?_;intro Y1 h1 a8 w A B ax;obtain⟨th,lf,s,tx,ab,lp,ac⟩:=A.M.mx;simp only[qz 81,aI,qb ac,u0,u1,ac,B.p,aRV,bfx,aRa,aj,↓uL];refine aXR A.M λy s8 y0 y1 M8 K8=>?_;have y1:=y1 (by decide);have A8:=A.kx K8 M8 (by decide) (by decide) (by decide);have B8:=B.kx K8 (by decide) (by decide) (by decide) (by decide);simp only[qz 30,u0,u1,eM (x:=1+y) (by omega) (by omega),↓uL];refine baZ (D:=2) A8.M (by simp) rfl (by omega) (by omega) λa9 l9 h9 s9 g9 cm co p9 M9 K9=>?_;have A9:=A8.kx K9 M9 (by decide) (by decide) (by decide);have B9:=B8.kx K9 (by decide) (by decide) (by decide) (by decide);simp only[qz 32];refine apX B9.ga g9 rfl (by decide) (by rw[A9.M.le];decide) (qW (f:=NA.c) (z:=11) λ_=>bit) (by grind [bit]) (by simp;omega) λck cr av aG cq=>?_;rw[<-dg] at av;have G:=B9.pa;have a7:=A9.fx aG (λq u=>by have:=G q u;omega);have aB:=aG.keep _ _ (λu=>by have:=G _ u;simp at this) B9.p;simp only[qz 34,u0,u1,aB,aj,↓uL];refine TB.set aB av (by grind) (λs af=>?_) λbF an bc=>?_;grind [TB.hs,shS.mono];have aa:=a7.fx bc (by simp);refine dT (by simp[eL,lb,lbV,gz,dC,dK]) ?_;have a3:L (w++l9)<=6:=(by simp;omega);generalize w++l9=bR at an a3;clear av aB;refine bpD (λo=>∀(T:ae) (h2 W:AV) (bd:List NA),MPs T (16,Z) (14,E) v1 v4 h2 ts a->TB T v8 nm W bd->L bd<=8->o [] T) ?_ λo X=>?_;intro T h2 W bd A B ax;have ay:aX btU 1 T [(0, .a [st nm,iv 0, .l ([⟨#[97]⟩,⟨#[98]⟩].map cs) U U,W])]=V (.l ([(⟨nm,0,[⟨#[97]⟩,⟨#[98]⟩],bd⟩:aO6)].map aO6.c) U U,kills T<|eB<|.a [st nm,iv 0, .l ([⟨#[97]⟩,⟨#[98]⟩].map cs) U U,W]):=aQm (tgt:=(⟨nm,0,[⟨#[97]⟩,⟨#[98]⟩],bd⟩:aO6).c) (by simp only[ji,mU,aQ5,aXQ,aOb B.ga];rfl) rfl (by decide) rfl (by decide);have a1:∀q∈eB (.a [st nm,iv 0, .l ([⟨#[97]⟩,⟨#[98]⟩].map cs) U U,W]),q.1=56\/q.1=68\/q.1=87:=λq u=>(by simp only[eB,Cz,RN,iR,dW,cL] at u;exact B.pa q<|by cases W<;>first|exact u|simp[iR] at u);have FK:=aOp (eB<|.a [st nm,iv 0, .l ([⟨#[97]⟩,⟨#[98]⟩].map cs) U U,W]) T;simp only[qz 129,qy 46,aI,u0,u1,A.p,aEa B.p rfl,aRV,bfx,aRa,aj,ay,↓uL];have C:=A.fx FK (λq u=>by have:=a1 q u;omega);refine apQ C.ga C.M.le (qW (f:=aO6.c) (z:=4) λ_=>rfl) (by grind [aO6.c]) (by simp) (by simp;omega) λa4 s4 g4 F4 N4=>?_;rw[<-dg] at g4;have bA:=C.pa;have p4:=F4.keep _ _ (by grind) C.p;simp only[qz 48,u0,u1,p4,aj,↓uL];refine A0 p4 g4.p.ce (by simp) λs5 F5 b5=>?_;have hm:=C.M.sm;have hb:=C.M.sb;have M5:=(C.M.fx F4 (by grind) (by grind) (λq u g=>by have:=bA _ g;have:=C.M.sh q u;omega)).fx F5 (by simp) (by simp) (λq u g=>by simp at g;subst g;have:=C.M.sh _ u;simp at this);simp only[qz 50,au,u0,u1,↓uL];refine dR (mk:=λ(_:Unit) i=>[iv i]) (s:=()) (s':=()) (λ_ _=>rfl) a5 (by omega) ⟨h2,ts++[⟨nm,0,[⟨#[97]⟩,⟨#[98]⟩],bd⟩],a4,⟨M5,b5,g4.p.fx F5 (by grind),λq u=>(N4 q u).2,?_,?_⟩,by simp[bB]⟩;exact F5.kq (F4.keep _ _ (by grind) C.r);intro t H;rcases dF.1 H with g|g;exact A.ht t g;simp only[cE] at g;subst g;exact⟨by simp,ax,B.hs⟩;obtain⟨th,lf,s,tx,ab,lp,aw⟩:=aa.M.mx;rcases P:Q ((k:Int)=0) with _|_;simp only[qz 131,qy 40,au,P,u0,u1,aj,aOq,↓jN,a7c,↓iB,↓uL];exact X bF _ _ _ aa an (by omega);simp only[qz 131,qy 40,au,P,qb aw,aw,u0,u1,aRV,aRa,aj,aPh,↓jA,aUw,↓uL];refine aXR aa.M λy bG y0 y1 bi aJ=>?_;have al:=aa.kx aJ bi (by decide) (by decide) (by decide);have F:=an.kx aJ (by decide) (by decide) (by decide) (by decide);simp only[F.p,amZ,rk,pz,a5R,a51,u0,u1,↓uL];refine⟨λ_=>⟨⟨by decide,by decide⟩,?_⟩,λ_=>X bG _ _ _ al F<|by omega⟩;refine apQ F.ga al.M.le (by grind [bit]) (by grind [bit]) (by simp) (by simp;omega) λbn bH O N bj=>?_;rw[<-dg] at O;have G:=F.pa;have am:=al.fx N (λq u=>by have:=G q u;omega);have R:=N.keep _ _ (by grind) F.p;simp only[qz 42,R,u0,u1,aj,↓uL];refine TB.set R O.p (by grind) (λs af=>?_) λaQ ao ap=>?_;rcases dF.1 af with g|g;exact F.hs s g;simp only[cE] at g;subst g;exact aOI (by omega) (.inl rfl) (by decide) (by decide);refine dT (by simp[eL,lb,lbV,gz,dC,dK]) ?_;exact X aQ _ _ _ (am.fx ap<|by simp) ao (by simp;omega);obtain⟨th,lf,s,tx,ab,lp,cl⟩:=S7.M.mx;rcases P:Q ((k:Int)=0) with _|_;simp only[qz 83,au,P,u0,u1,↓iB,↓uL];exact az s7 _ _ _ S7 B7 (by simp);simp only[qz 83,au,P,u0,u1,↓iC,↓uL];refine AI (α:=Unit) (λ_ i=>[iv i]) 0 n 1 (by omega) (λj _ Y=>∃a8 w,MPs Y (16,Z) (14,E) v1 v4 h ts a/\TB Y v8 nm a8 w/\L w+1=j) (s0:=()) (by grind) ?_;rintro j _ Y1 hj ⟨a8,w,A,B,ax⟩;simp only[qz 97,qy 24,aI,au,B.p,amZ,rk,pz,a5R,a51,bh,u0,u1,aj,↓uL];refine⟨λad=>⟨⟨by omega,by have:j<n:=(by simpa using ad);simp;omega⟩,?_⟩,λad=>az Y1 _ _ _ A B<|by omega⟩;have bx:j<n:=(by grind);refine apQ B.ga A.M.le (by grind [bit]) (by grind [bit]) (by simp) (by simp;omega) λbn bH O N bj=>?_;rw[<-dg] at O;have G:=B.pa;have am:=A.fx N (λq u=>by have:=G q u;omega);have R:=N.keep _ _ (by grind) B.p;simp only[qz 26,R,u0,u1,aj,↓uL];refine TB.set R O.p (by grind) (λs af=>?_) λaQ ao ap=>?_;rcases dF.1 af with g|g;exact B.hs s g;simp only[cE] at g;subst g;exact aOI (by omega) (.inl rfl) (by decide) (by decide);refine dT (by simp[eL,lb,lbV,gz,dC,dK]) ?_;simp only[au,u0,u1,↓uL];exact dR (mk:=λ(_:Unit) i=>[iv i]) (s:=()) (s':=()) (λ_ _=>rfl) bx (by omega) ⟨_,_,am.fx ap (by simp),ao,by simp;omega⟩;have ha:dG Y (.a [sl w6.c aNF,a])= .a (⟨aNF,ts⟩:aQl).c:=(by simp only[dG,eR,nrm,ji,mU];have e1:gK (gi Y a)=sl aO6.c ts:=aOb S.ga;rw[e1];rfl);have aP:∀x y:AV,aN (V 2) [x,y]=V (.a [x,y]):=λ_ _=>rfl;have aM:L ts<=4:=(by omega);have aO:shP ⟨aNF,ts⟩:=⟨⟨by show L aNF<1000;decide,by grind,λt H=>by have:=(S.ht t H).1;omega⟩,aM,S.ht⟩;simp only[S.p,aQd,qh,df,aP,jM,kU,jt,ha,u0,aQV,↓uL];refine⟨aO,by simp[lo,uN,yv,wD],?_⟩;simp only[oJ,pG,u0,u1,↓uL];refine⟨λhc=>?_,λhc=>?_⟩;refine⟨by simp[lo,nA,uN,yv,wD],?_⟩;simp only[aV4,bQ,qz 52,jM,kU,jt,tW,Fa,aQV];refine⟨by simp[lo,nA,eB,iR],by rw[aXP rfl];trivial,?_⟩;have cp:shS 4 (NA.mk 1 0 ⟨#[120]⟩ ⟨#[]⟩ [] (kW.mk 1 1 ⟨#[]⟩ []) [] []):=aOI (λ_=>⟨.inl ⟨.inl rfl,rfl⟩,by simp[kW.l]⟩) (.inl rfl) (by decide) (by decide);have br:∀x:NA,bM bt2 bmK [(0,sv [109,97,105,110]),(2, .l ([⟨#[97]⟩,⟨#[98]⟩].map cs) U U),(3, .l ([x].map NA.c) U U)]=V (.a [sv [109,97,105,110],iv 0, .l ([⟨#[97]⟩,⟨#[98]⟩].map cs) U U, .l ([x].map NA.c) U U]):=λ_=>rfl;have ay:∀(s:ae) (x:NA),aX btU 1 s [(0, .a [sv [109,97,105,110],iv 0, .l ([⟨#[97]⟩,⟨#[98]⟩].map cs) U U, .l ([x].map NA.c) U U])]=V (.l ([(⟨⟨#[109,97,105,110]⟩,0,[⟨#[97]⟩,⟨#[98]⟩],[x]⟩:aO6)].map aO6.c) U U,s):=λs x=>aQm (tgt:=(⟨⟨#[109,97,105,110]⟩,0,[⟨#[97]⟩,⟨#[98]⟩],[x]⟩:aO6).c) rfl rfl (by decide) rfl (by decide);have bs:∀t:aO6,bM aoD brF [(0,sl w6.c aNF),(1, .l ([t].map aO6.c) U U)]=V (.a [sl w6.c aNF, .l ([t].map aO6.c) U U]):=λ_=>rfl;simp only[a50,bQ,qz 54,br,ay,aY,qz 56,qy 58,bs,↓uL];refine r9 S.r rfl rfl λs5 F5 b5=>?_;rw[aEa b5 rfl];refine aOv (v':= .a (⟨aNF,[⟨⟨#[109,97,105,110]⟩,0,[⟨#[97]⟩,⟨#[98]⟩],[NA.mk 1 0 ⟨#[120]⟩ ⟨#[]⟩ [] (kW.mk 1 1 ⟨#[]⟩ []) [] []]⟩]⟩:aQl).c) (Q:=λr=>∃p:aQl,r= .a p.c/\shP p/\p.bm0=aNF) rfl rfl ⟨_,rfl,⟨⟨by decide,by decide,by simp⟩,by decide,?_⟩,rfl⟩;intro t H;simp only[cE] at H;subst H;exact⟨by decide,by decide,by simp_all⟩;refine r9 S.r rfl rfl λs5 F5 b5=>?_;have g5:=S.ga.fx F5 (λq u e=>by grind [MPs.pa]);simp only[b5,aQd,qh,df,aP,aY];refine aOv (v':= .a (⟨aNF,ts⟩:aQl).c) (Q:=λr=>∃p:aQl,r= .a p.c/\shP p/\p.bm0=aNF) ?_ (by simp[iX,aQl.c,eN,sl]) ⟨_,rfl,aO,rfl⟩;simp only[fzT,ji,mU,aBr g5];rfl
def aTV:FT:=om aWJ
def bbr{l Lw K}:=f111 aTV aWJ l Lw K (j:=by simp+contextual only[ij,aQZ])
theorem a64(i:aNZ):L (a6z i)<=3:=by grind [a6z]
structure RP(Y:ae)(v1 v7:Nat)(p:aQl)(w:J9)(ts:List aTo)(a:AV):Prop where
 p:box Y (1,1)=V ⟨196,2,U,U,[p.c]⟩
 c:box Y (7,v7)=V ⟨129,7,U,U,[[sl cA.c w.cells,sl dS.c w.ak,sl aOw.c w.bC,sl cs w.bU,sl cs w.ay,sl dL.c w.dU,a]]⟩
 ga:gp Y 247 2 a (ts.map aTo.c)
 pa:∀q∈aA a,q.1=110
 r:box Y (2,v1)=V ⟨129,7,U,U,[tH]⟩
 ht:∀t∈ts,L t.bid<1000000
 le:L Y=4096
theorem RP.fx{Y Y':ae}{v1 e:Nat}{p:aQl}{w:J9}{ts:List aTo}{a:AV}{Lw:List Id}(S:RP Y v1 e p w ts a)(F:Fx Y Y' Lw)(f:∀q∈Lw,q.1≠1/\q.1≠2/\q.1≠7/\q.1≠110):RP Y' v1 e p w ts a:=⟨(by grind [Fx.keep,RP.p]),(by grind [Fx.keep,RP.c]),S.ga.fx F<|λq i g=>(f q g).2.2.2<|S.pa q i,S.pa,(by grind [Fx.keep,RP.r]),S.ht,F.len.trans S.le⟩
def aXe(p:aQl)(M:shP p/\p.bm0=aNF):Ct 122 [.a p.c] (λr=>∃(c:aBY) (e l:Int),r= .t [.a c.c,iv e,iv l]/\aOc c):=by obtain⟨M,hd⟩:=M;refine aDq (bgU rfl λs2 hl b1 h0=>?_);simp only[a1t];refine ic hl λv1 s3 F3 N3 q3=>?_;have ae:=F3.len.trans hl;have b3:=F3.kq b1;have aK:bM tH [(0,6),(6,1)] []=V (.a tH):=rfl;simp only[qz 4,qy 6,qy 8,qy 10,u0,u1,b3,pz,jM,kU,jt,Fa,aQV,rr,aK,↓uL];refine⟨M,trivial,λ_=>?_,λhc=>⟨⟨M,hd⟩,?_⟩⟩;refine r9 q3 rfl rfl λZ W b5=>?_;have:aN (V 7) tH=V (.a tH):=rfl;simp only[b5,aQd,qh,df,this,aY];exact aOH (vs':=[.a (⟨⟨[],[],[],[],[],[]⟩,[]⟩:aBY).c,iv (chk p).1,iv (chk p).2]) (Q:=λr=>∃(c:aBY) (e l:Int),r= .t [.a c.c,iv e,iv l]/\aOc c) rfl rfl ⟨_,_,_,rfl,by simp[aOc]⟩;rintro r ⟨w,rfl,hw,R⟩;have R:=R (by grind);have aJ:bM tH [(0,6),(6,1)] [(0, .a w.c)]=V (.a [sl cA.c w.cells,sl dS.c w.ak,sl aOw.c w.bC,sl cs w.bU,sl cs w.ay,sl dL.c w.dU, .l [] U U]):=rfl;simp only[aJ,aY];refine⟨by simp[lo,nA,eB,iR,aQl.c,sl],?_⟩;refine anu ae λv7 s4 F4 N4 q4=>?_;have S4:RP s4 v1 v7 p w [] (.l [] U U):=⟨F4.kq b3,q4, .inl ⟨rfl,rfl⟩,by simp[aA],F4.kq q3,by simp,F4.len.trans ae⟩;have aU:=M.2.2;have bH:=M.2.1;refine jD (α:=Int) (λnx i=>[iv nx,iv i]) 1 (L p.ay) (λk nx Y=>0<=nx/\nx<=k*60000/\∃ts a,RP Y v1 v7 p w ts a/\L ts=k) (s0:=0) (by grind) ?_;rintro k nx Y hk ⟨bI,bK,ts,a,S,aV⟩;simp only[qz 55,aI,au,u0,u1,S.p,S.c,rk,pz,aRZ,aj,ixv,bh,↓uL];refine⟨λB=>⟨u7 B,?_⟩,λB=>?_⟩;rotate_left;refine r9 S.r rfl rfl λZ W b5=>?_;have g5:=S.ga.fx W (λq R e=>by grind [RP.pa]);simp only[qz 32,aEa b5 rfl,aY,↓uL];refine aOH (vs':=[.a (⟨w,ts⟩:aBY).c,iv 0,iv 0]) (Q:=λr=>∃(c:aBY) (e l:Int),r= .t [.a c.c,iv e,iv l]/\aOc c) ?_ (by simp[iX,aBY.c,J9.c,eN,sl]) ⟨_,_,_,rfl,?_,S.ht⟩;have e1:fz Z a=sl aTo.c ts:=aBr g5;simp only[ji,mU,fzT,List.take_succ_cons,CE,e1];rfl;grind;have D:=aL B;have X:=aU _<|ig D;have aE:bM buZ [(0,6),(6,1),(7,1),(8,1),(9,1)] [(0, .a w.c),(1,sl cs (gd p.ay k).locs),(4,iv nx)]=V (.a [sl cA.c w.cells,sl dS.c w.ak,sl aOw.c w.bC,sl cs w.bU,sl cs w.ay,sl dL.c w.dU,sl cs (gd p.ay k).locs, .l [] U U,iv 0,iv nx]):=rfl;simp only[aE,aY];refine bxL rfl (by decide) (by rw[S.le];decide) λv Z W N5 q5=>?_;have S5:=S.fx W (by simp);have bA:k<4:=(by omega);have G5:Gn nx Z (45,v) w (gd p.ay k).locs (.l [] U U) 0:=⟨(by simp_all),⟨[], .inl ⟨rfl,rfl⟩,rfl⟩,S5.le,rfl,by simp[aA],hw,by have:=X.1;omega,R⟩;simp only[S5.p,rk,pz,ixv,u0,u1,bh,↓uL];refine⟨dJ D,?_⟩;refine ba2 G5 X.2 (by omega) λa6 n6 s6 G6 bB R6=>?_;have a0:∀q∈((45,v):Id)::aA (AV.l [] U U),q.1≠1/\q.1≠2/\q.1≠7/\q.1≠110:=(by simp[aA]);have S6:=S5.fx R6.f a0;obtain⟨bW,aZ,aW,ad⟩:=G6.bx0;simp only[qz 14,qb ad,u0,u1,ad,aRV,bfx,aRa,aj,↓uL];refine G6.set λs7 G7 F7=>?_;have S7:=S6.fx F7 (by simp);simp only[qz 16,bdI,aY];refine aPw G7 (by omega) λa8 s8 n8 G8 bD br R8=>?_;have a1:∀q∈((45,v):Id)::aA a6,q.1≠1/\q.1≠2/\q.1≠7/\q.1≠110:=λq R=>(by grind [Gn.sa]);have S8:=S7.fx R8.f a1;obtain⟨bX,bO,bL,P⟩:=G8.bx0;obtain⟨o,go,bF⟩:=G8.ga;obtain⟨a3,af,rfl,ap⟩:∃q m,a8= .m q (L o)/\box s8 q=V ⟨264,6,U,I,o.map aNZ.c++m⟩:=(by rcases go with⟨g,_⟩|⟨q,m,g1,g2⟩;have:o=[]:=(by simpa using g);grind;simp_all);obtain⟨q1,z⟩:=a3;obtain rfl:q1=16:=G8.sa (q1,z) (by simp[aA]);have aG:∀a:AV,(∃q n,a= .m q n)->bM bnF brF [(0,iv<|L (gd p.ay k).locs),(1,a)]=V (.a [iv<|L (gd p.ay k).locs,a]):=(by rintro a ⟨q,n,rfl⟩;rfl);simp only[qz 18,qy 20,qb P,u0,u1,P,aRV,bfx,aRa,aj,aG _ ⟨_,_,rfl⟩,↓uL];refine anu S8.le λH s9 F9 N9 q9=>?_;have S9:=S8.fx F9 (by simp);refine dT (by simp[eL,lb,gz,dC,dK,sl]) ?_;have aD:=F9.kq P;have aT:=F9.kq ap;refine yV (L o) (λ_ _ Y'=>Fx s9 Y' [(11,H)]/\∃rg:Int,box Y' (11,H)=V ⟨247,2,U,U,[[iv rg, .m (16,z)<|L o]]⟩) ⟨Fx.refl _ _,_,q9⟩ ?_;rintro j _ Y1 hj ⟨F,rg,ag⟩;have O:=F.kq aD;have E:=F.kq aT;have aR:fS Y1 (.m (16,z)<|L o)=V (iv<|L o):=(by simp[fS,E]);have ab:=S9.fx F (by simp);have a5:∀x y:AV,aN (V 2) [x,y]=V (.a [x,y]):=λ_ _=>rfl;simp only[qz 127,qy 26,aI,au,qb O,u0,u1,O,ab.c,ag,a5,aRV,bfx,aRa,aj,aR,↓uL];refine⟨λB=>?_,λB=>?_⟩;have hj:=aL B;have aM:cz 6 Y1 (.m (16,z)<|L o) (iv j)=V (.p (16,z) j 0):=(by grind [cz]);have aQ:vl (V 6) Y1 (.p (16,z) j 0)=V (.a (gd o j).c):=(by have hr:(o.map aNZ.c++af)[j]?=V (aNZ.c<|gd o j):=(by grind [bT]);simp only[vl,iE,E,aQd,hr];rfl);simp only[aM,aQ,aY,jM,kU,jt,Fa,aQV];rintro r ⟨t',o',rfl⟩;refine⟨by simp[lo,nA,eB,iR,aNZ.c],?_⟩;refine yV (L<|a6z<|gd o j) (λ_ _ Y'=>Fx s9 Y' [(11,H)]/\∃rg:Int,box Y' (11,H)=V ⟨247,2,U,U,[[iv rg, .m (16,z)<|L o]]⟩) ⟨F,rg,ag⟩ ?_;rintro i _ Y2 hi ⟨aa,bR,T⟩;simp only[qz 163,aI,au,u0,u1,T,aRV,aRa,gT,tf,rk,aj,bh,aRW,↓uL];refine⟨λC=>⟨dJ<|aL C,?_⟩,λC=>?_⟩;refine A0 T rfl (by simp) λY3 A ax=>?_;simp only[qz 24,au,u0,u1,↓uL];exact dR (mk:=λ(_:Unit) i=>[iv i]) (s:=()) (s':=()) (λ_ _=>rfl) (aL C) (by grind [a64]) ⟨(aa.trans A).mono (by simp),_,ax⟩;exact dR (mk:=λ(_:Unit) i=>[iv i]) (s:=()) (s':=()) (λ_ _=>rfl) hj (by omega) ⟨aa,_,T⟩;have aC:gp Y1 264 6 (.m (16,z)<|L o) (o.map aNZ.c):= .inr ⟨_,af,by simp,E⟩;have aF:aX buV 1 Y1 [(0, .a [iv rg, .m (16,z)<|L o])]=V (.l ([(⟨rg,o⟩:aTo)].map aTo.c) U U,kills Y1<|eB<|.a [iv rg, .m (16,z)<|L o]):=aQm (tgt:=(⟨rg,o⟩:aTo).c) (by simp only[ji,mU,aQ5,aOb aC];rfl) rfl (by decide) rfl (by decide);have FK:=aOp (eB<|.a [iv rg, .m (16,z)<|L o]) Y1;have u:=ab.fx FK (by simp[eB,iR]);simp only[aF,bQ];have bG:=u.pa;refine apQ u.ga u.le (by grind [aTo.c]) (by grind [aTo.c]) (by simp) (by simp;omega) λaw bS N A bz=>?_;rw[<-dg] at N;have ac:=A.keep _ _ (by grind) u.c;simp only[qz 28,u0,u1,ac,aj,↓uL];refine A0 ac N.p.ce (by simp) λbV G aB=>?_;simp only[qz 30,au,u0,u1,↓uL];refine dR (mk:=λ(nx:Int) i=>[iv nx,iv i]) (s:=nx) (s':=aZ) (λ_ _=>rfl) D (by omega) ⟨aW.1,by omega,ts++[⟨rg,o⟩],aw,⟨?_,aB,N.p.fx G (by grind),(by grind),?_,?_,G.len.trans<|A.len.trans u.le⟩,by simp[aV]⟩;exact G.kq (A.keep _ _ (by grind) u.p);exact G.kq (A.keep _ _ (by grind) u.r);grind [RP.ht]
def aUc:FT:=om aXe
def bbW{p Lw K}:=f111 aUc aXe p Lw K (j:=by simp+contextual only[ij,ijv])
def a7C:dO:=(123,aTV)::(122,aUc)::aYc
def a7l:eJ a7C:=sz (rj aWJ)<|sz (rj aXe)<|aX5
def aWk:=ai @bbr<|ai @bbW<|@aQV
section
attribute[local irreducible] aX
def a8I:=I5 3 []
def aYR a s0 R:=(.mk _:NR a7C a8I Tryz.f59 [a] [] s0 R).p
def bge{a:AV}{R:cC}(h:H0 λs0=>aYR a s0 R):Ct 59 [a] R:=z0 a8I a7l Tryz.func59 h
end
def aWI(l:List Int)(o:(∀x∈l,0<=x/\x<256)/\L l<4611686018427387904):Ct 59 [sl cu l] (λr=>∃c:aBY,r= .a c.c/\aOc c):=by refine aDq (bge λs0 d z=>?_);simp only[aYR];refine ic d λD A f w q=>?_;simp only[qz 2,qy 4,jM,kU,jt,alg,aWk];refine⟨o,?_⟩;rintro r ⟨p,rfl,k,m⟩;refine⟨by simp[lo,nA,eB,iR,sl],?_⟩;simp only[Fa,aWk];refine⟨⟨k,m⟩,?_⟩;rintro r ⟨c,e,l',rfl,n⟩;refine⟨by simp[lo,nA,eB,iR,aQl.c,sl],?_⟩;have e0:eO 0 (.t [.a c.c,iv e,iv l'])=V (.a c.c):=rfl;have i:eO 1 (.t [.a c.c,iv e,iv l'])=V (iv e):=rfl;have j:eO 2 (.t [.a c.c,iv e,iv l'])=V (iv l'):=rfl;simp only[e0,i,j,aY];have u:=f.len.trans d;have b:L c.c=7:=rfl;refine aRA rfl b (by decide) (by omega) λE B g y s=>?_;simp only[qz 6,qy 8,aEa s b,aY,↓uL];refine r9 (g.kq q) rfl b λC v h=>?_;rw[aEa h b];exact aOv (v':= .a c.c) (Q:=λr=>∃c:aBY,r= .a c.c/\aOc c) rfl (by simp[iX,aBY.c,J9.c,eN,sl]) ⟨c,rfl,n⟩
def aTU:FT:=om aWI
def bbq{l Lw K}:=f111 aTU aWI l Lw K (j:=by simp+contextual only[ij,aQZ])
def a7D:dO:=(59,aTU)::a7C
def aR2:eJ a7D:=sz (rj aWI)<|a7l
def bcw:=ai @bbq<|@aWk
section
attribute[local irreducible] aX
def atZ:=I5 24 [(4,([4],[1,2,3])),(10,([5],[1,2,3])),(16,([6],[1,2,3])),(21,([],[1,2,3,6,7]))]
def IH a b R:=(.mk _:NS a7D atZ Tryz.f118 [.u] [a] b R).p
def aLs{c0:List AV}{s0:ae}{R:be}(hs:L s0=4096)(l0:L c0=6)(h:HB1 31 6 1 c0 s0 λc b=>IH c b R):EB 118 [.a c0] s0 R:=zB1 atZ aR2 Tryz.func118 hs l0 h
def IK a b R:=(.mk _:NS a7D atW Tryz.f57 [.u] [a] b R).p
def aLy{c0:List AV}{s0:ae}{R:be}(hs:L s0=4096)(l0:L c0=6)(h:HB1 31 6 1 c0 s0 λc b=>IK c b R):EB 57 [.a c0] s0 R:=zB1 atW aR2 Tryz.func57 hs l0 h
def au4:=I5 15 [(4,([22],[0,1,21])),(10,([3],[0,1,2,21,22]))]
def ajP s0 R:=(.mk _:NR a7D au4 Tryz.f54 [] [] s0 R).p
def aMx{R:cC}(h:H0 λs0=>ajP s0 R):Ct 54 [] R:=z0 au4 aR2 Tryz.func54 h
def aVb a b R:=(.mk _:NS a7D atW Tryz.f266 [.u] [a] b R).p
def bhc{c0:List AV}{s0:ae}{R:be}(hs:L s0=4096)(l0:L c0=4)(h:HB1 251 4 1 c0 s0 λc b=>aVb c b R):EB 266 [.a c0] s0 R:=zB1 atW aR2 Tryz.func266 hs l0 h
end
def mG{B:aG}{A:(aG)->Prop}(Q:aG)(b:∀a,(∀vs Y',Q vs Y'->a vs Y')->A a)(c:∀vs Y',Q vs Y'->B vs Y'):A B:=b B c
theorem a7a{α:Type}{f:Nat->List α}{k:Nat}:(aH<|k+1).flatMap f=(aH k).flatMap f++f k:=by rw[qn,List.flatMap_append];simp
def eU{α:Type}{f:Nat->List α}{c:Nat}(h:∀k,L (f k)<=c):∀n,L ((aH n).flatMap f)<=n*c
 |0=>by simp
 |n+1=>by
  have a:=eU h n
  grind [a7a]
def Dv{Y:ae}{b:Id}{T e:TypeId}{z ze j d by':Nat}{cs zs:List AV}{a:AV}{bA new:List (List AV)}{t o:Bool}{K:ae->Prop}(w:box Y b=V ⟨T,z,U,U,[cs]⟩)(O:j<L cs)(u:bc Y e ze a bA)(i:b∉aA a)(G:L zs=ze)(k:0<ze)(B:d<L Y)(E:∀r∈bA,L r=ze)(D:∀r∈new,L r=ze)(h:(L bA+L new)*(by'+1)<=1099511627776)(A:b.1≠d)(v:∀c Y',box Y' b=V ⟨T,z,U,U,[cs.set j c]⟩->bc Y' e ze c (bA++new)->Fx Y Y' (b::aA a)->(∀q∈aA c,(q∈aA a\/bK Y q)/\(q∈aA a\/q.1=d))->K Y'):eV (Gy e zs by' Y d a<|.l new t o) λx s=>rV (iQ j s<|.p b 0 0) λy=>sV (aK 1 s y x) K:=by refine gD u G k B E D h λc Y' g F N P=>?_;have f:=F.keep _ _ i w;have C:iQ j Y' (.p b 0 0)=V (.p b 0 j):=(by simp[iQ,f]);simp only[C,aY];refine cy (y:=1) (cs:=[c]) f (ms g) rfl (by omega) λn m M=>?_;have H:b∉aA c:=(by grind);refine v c n ?_ (by grind [bc.fx]) ((F.trans m).mono λq R=>?_) (by simp_all);grind [GP];grind
def qZ(n:Nat):List aoC:=(aH n).map λi=>⟨if i=0 then 1 else 0,0,I⟩
def aog{α:Type}{n:Nat}{x:α}{β:Type}{f:α->β}:(er (n+1) x).map f=(er n x).map f++[f x]:=by rw[List.replicate_succ',dg];rfl
section
variable{Y:ae}
theorem aDP{x0 x2 x5:AV}{ls fs ts:List (List AV)}{t1 o1 t3 o3 t4 o4:Bool}(hl:L Y=4096)(h1:L ls<=100)(h3:L fs<=100)(h4:L ts<=100):∃r m,(∃a1 a2 a3,r= .a [a1,iv<|-1,a2,a3]/\bc m 184 2 a1 ((er (L ls) (⟨-1,[]⟩:cg)).map cg.c)/\bc m 4 1 a2 ((er (L fs) I).map cb)/\bc m 138 3 a3 ((qZ<|L ts).map aoC.c)/\Fx Y m []/\(∀q∈aA a1,bK Y q/\q.1=20)/\(∀q∈aA a2,bK Y q/\q.1=32)/\(∀q∈aA a3,bK Y q/\q.1=49))/\cZ aS GG 118 [.a [x0, .l ls t1 o1,x2, .l fs t3 o3, .l ts t4 o4,x5]] Y r m:=by refine aLs hl rfl λs2 v1 K2 bu nf b1=>?_;have B:Fx Y s2 []:=K2.fx [];have G:L s2=4096:=B.len.trans hl;simp only[IH];refine ic G λv2 s3 Z N3 b2=>?_;have aP:L s3=4096:=Z.len.trans G;have aF:bM aNC bmK [(1,iv<|-1)]=V (.a [.l [] U U,iv<|-1, .l [] U U, .l [] U U]):=rfl;simp only[qz 4,qy 6,qy 8,aF,aY];refine ic aP λn s4 F4 N4 b6=>?_;refine cy (y:=4) (cs:=[.l [] U U,iv<|-1, .l [] U U, .l [] U U]) b6 rfl rfl (by decide) λt F5 b6=>?_;have ay:box t (3,n)=V ⟨36,4,U,U,[[.l [] U U,iv<|-1, .l [] U U, .l [] U U]]⟩:=b6;have u:Fx s2 t []:=((Z.trans F4).trans F5).mono (by grind [bK.no,bK.old]);have aQ:L t=4096:=u.len.trans G;have c1:=u.kq b1;have c2:box t (2,v2)=_:=F5.kq<|F4.kq b2;have N6:bK Y (3,n):=(N4.old Z).old B;have aV:∀{Y':ae} {ks:List Id},Fx t Y' ks->((1,v1):Id)∉ks->box Y' (1,v1)=V ⟨31,6,U,U,[[x0, .l ls t1 o1,x2, .l fs t3 o3, .l ts t4 o4,x5]]⟩:=λF h=>F.keep _ _ h c1;have R:∀{x:List AV} {y:AV},aN J (y::x)=V y:=λ{x y}=>(by cases y<;>rfl);have w:∀{l:List cg},∀r∈l.map cg.c,L r=2:=qW (by intro _;rfl);have v:∀{l:List Bool},∀r∈l.map cb,L r=1:=(by grind);have alx:∀{l:List aoC},∀r∈l.map aoC.c,L r=3:=qW (by intro _;rfl);refine yV (L ls) (λk _ Y'=>∃a1,box Y' (3,n)=V ⟨36,4,U,U,[[a1,iv<|-1, .l [] U U, .l [] U U]]⟩/\bc Y' 184 2 a1 ((er k (⟨-1,[]⟩:cg)).map cg.c)/\Fx t Y' [(3,n)]/\∀q∈aA a1,bK t q/\q.1=20) ⟨_,ay,bc.nil,Fx.refl _ _,by simp[aA]⟩ ?_;rintro k _ m P ⟨a1,m1,g1,A,P1⟩;have d1:=aV A (by simp);have aO:L m=4096:=A.len.trans aQ;have aG:bM btg brF [(0,iv<|-1)]=V (.a [iv<|-1, .l [] U U]):=rfl;have aJ:∀{Y:ae},aX buU 1 Y [(0, .a [iv<|-1, .l [] U U])]=V (.l ([(⟨-1,[]⟩:cg)].map cg.c) U U,Y):=λ{Y}=>(by simp[aX,aly,eY,nrm,gK,eR,gi,eB,iR,kills,kC,eN,er];rfl);simp only[qz 25,qy 10,au,aI,u0,u1,d1,R,nM,iy,aj,fS,m1,aG,aJ,↓uL];refine⟨λh=>?_,λh=>?_⟩;have p:=aL h;refine Dv m1 (by simp) g1 (by grind) rfl (by decide) (by omega) w w (by grind) (by simp) λE K H N g P2=>?_;simp only[qz 14,au,u0,u1,↓uL];refine yU p ⟨E,H,by rw[aog];exact N,(A.trans g).mono λq e=>?_,λq e=>⟨?_,?_⟩⟩;grind [bK.no];grind [bK.old];grind;have o:k=L ls:=(by grind);subst o;clear P h;refine yV (L fs) (λk _ Y'=>∃a2,box Y' (3,n)=V ⟨36,4,U,U,[[a1,iv<|-1,a2, .l [] U U]]⟩/\bc Y' 4 1 a2 ((er k I).map cb)/\Fx m Y' [(3,n)]/\∀q∈aA a2,bK m q/\q.1=32) ⟨_,m1,bc.nil,Fx.refl _ _,by simp[aA]⟩ ?_;rintro k _ K P ⟨a2,H,N,g,P2⟩;have d2:=g.kq d1;have ah:L K=4096:=g.len.trans aO;have af:∀{Y:ae},aX BD 1 Y [(0,bv I)]=V (.l ([I].map cb) U U,Y):=λ{Y}=>iz;simp only[qz 61,qy 16,au,aI,u0,u1,d2,R,nM,iy,aj,fS,H,af,↓uL];refine⟨λh=>?_,λh=>?_⟩;have p:=aL h;refine Dv H (by simp) N (by grind) rfl (by decide) (by omega) v v (by grind) (by simp) λE M S O f P3=>?_;simp only[qz 20,au,u0,u1,↓uL];refine yU p ⟨E,S,by rw[aog];exact O,(g.trans f).mono λq e=>?_,λq e=>⟨?_,?_⟩⟩;grind [bK.no];grind [bK.old];grind;have o:k=L fs:=(by grind);subst o;clear P h;refine yV (L ts) (λk _ Y'=>∃a3,box Y' (3,n)=V ⟨36,4,U,U,[[a1,iv<|-1,a2,a3]]⟩/\bc Y' 138 3 a3 ((qZ k).map aoC.c)/\Fx K Y' [(3,n)]/\∀q∈aA a3,bK K q/\q.1=49) ⟨_,H,bc.nil,Fx.refl _ _,by simp[aA]⟩ ?_;rintro k _ M P ⟨a3,S,O,f,P3⟩;have d3:=f.kq d2;have ak:L M=4096:=f.len.trans ah;have aK:bM btu aon [(0,iv 0)]=V (.a<|aoC.c ⟨0,0,I⟩):=rfl;have ag:∀{Y:ae} {x:aoC},aX btP 1 Y [(0, .a<|aoC.c x)]=V (.l ([x].map aoC.c) U U,Y):=λ{Y x}=>ua rfl rfl rfl (by decide) rfl (by decide);have aU:∀{x:aoC},aN (V 3) (aoC.c x)=V (.a<|aoC.c x):=λ{x}=>rfl;have X:∀{x y x2 x3:AV},aN (V 4) [x,y,x2,x3]=V (.a [x,y,x2,x3]):=rfl;have bt:qZ (k+1)=qZ k++[⟨if k=0 then 1 else 0,0,I⟩]:=(by simp[qZ,qn]);have bs:L (qZ k)=k:=(by simp[qZ]);simp only[qz 97,qy 22,qy 34,au,aI,u0,u1,d3,R,nM,iy,aj,fS,aK,↓uL];refine⟨λh=>?_,λh=>?_⟩;have p:=aL h;refine ic ak λv7 Y4 aq N7 b7=>?_;refine cy (y:=3) (cs:=aoC.c ⟨0,0,I⟩) b7 rfl rfl (by decide) λD j b7=>?_;have W:box D (7,v7)=V ⟨138,3,U,U,[aoC.c ⟨0,0,I⟩]⟩:=b7;have T:Fx M D []:=(aq.trans j).mono (by grind [bK.no]);simp only[qz 24,di];refine mG (λvs Y'=>vs=[]/\box Y' (7,v7)=V ⟨138,3,U,U,[aoC.c ⟨if k=0 then 1 else 0,0,I⟩]⟩/\Fx M Y' []) (λb hJ=>?_) ?_;simp only[qz 131,qy 26,au,u0,u1,W,aj,↓uL];refine⟨λhi=>?_,λhi=>hJ [] D ⟨rfl,?_,T⟩⟩;refine cy (y:=1) (cs:=[iv 1]) W rfl rfl (by decide) λY6 F6 b8=>hJ [] Y6 ⟨rfl,?_,(T.trans F6).mono<|by simp only[dW,cE];grind [bK.no]⟩;have h0:k=0:=(by grind);rw[f8 h0];exact b8;have h0:¬k=0:=(by grind);grind;rintro vs Y6 ⟨rfl,b8,C⟩;have m6:=C.kq S;have g6:=O.fx C (by simp);simp only[qz 129,qy 28,aI,u0,u1,m6,b8,R,aU,nM,iy,aj,ag,↓uL];refine Dv m6 (by simp) g6 (by grind) rfl (by decide) (by grind [Fx.len]) alx alx (by grind [aO1]) (by simp) λE Y7 m7 g7 F7 P7=>?_;simp only[qz 32,au,u0,u1,↓uL];refine yU p ⟨E,m7,by grind,((f.trans C).trans F7).mono λq e=>?_,λq e=>⟨?_,?_⟩⟩;simp only[dF,eW,ql,bie] at e⊢;grind [bK.no];grind [bK.old];grind;have o:k=L ts:=(by grind);subst o;have az:=f.kq<|g.kq<|A.kq c2;simp only[S,u0,u1,X];refine cy (y:=4) (cs:=[a1,iv<|-1,a2,a3]) az rfl rfl (by decide) λD j b5=>?_;have ax:box D (2,v2)=V ⟨36,4,U,U,[[a1,iv<|-1,a2,a3]]⟩:=b5;simp only[ax,u0,u1,X,aNN,aoz];have i:∀{a:AV} {d:Nat},(∀q∈aA a,q.1=d)->d≠2->d≠3->∀q∈aA a,q∉[((2,v2):Id)]/\q∉[((3,n):Id)]:=λh h1 h2 q e=>⟨(by grind),by grind⟩;have n1:=i (λq e=>(P1 q e).2) (by decide) (by decide);have n2:=i (λq e=>(P2 q e).2) (by decide) (by decide);have n3:=i (λq e=>(P3 q e).2) (by decide) (by decide);have am:∀{q:Id},bK t q->bK Y q:=λh=>(h.old u).old B;refine⟨a1,a2,a3,rfl,((g1.fx g λq e=>(n1 q e).2).fx f λq e=>(n1 q e).2).fx j λq e=>(n1 q e).1,(N.fx f λq e=>(n2 q e).2).fx j λq e=>(n2 q e).1,O.fx j λq e=>(n3 q e).1,(((((B.trans u).trans A).trans g).trans f).trans j).mono λq e=>?_,(by grind),(by grind [bK.old]),λq e=>⟨am (by grind [bK.old]),(P3 q e).2⟩⟩;simp only[dW,dF,cE,or_self] at e;rcases e with rfl|rfl;exact .inr N6.no;exact .inr (N3.old B).no
end
def wI(n:Nat):List dL:=(aH n).flatMap λ(t:Nat)=>(aH 6).map λ(k:Nat)=>⟨(t:Int),(k:Int),10*(t:Int)+k+1⟩
def aNE:J9:=⟨[⟨⟨#[120]⟩,0,0,I,0⟩,⟨⟨#[121]⟩,0,0,I,1⟩,⟨⟨#[118]⟩,0,0,U,0⟩,⟨⟨#[113]⟩,0,2,I,0⟩,⟨⟨#[113]⟩,1,2,I,0⟩],[⟨⟨#[109]⟩,I⟩,⟨⟨#[110]⟩,I⟩,⟨⟨#[114]⟩,U⟩],[⟨⟨#[99]⟩,0⟩],[⟨#[102]⟩],[⟨#[109,97,105,110]⟩,⟨#[116,49]⟩,⟨#[116,50]⟩,⟨#[116,51]⟩],wI 4⟩
def gu(t o:Bool):List AV:=[.l (aNE.cells.map cA.c) U U, .l (aNE.ak.map dS.c) U U, .l (aNE.bC.map aOw.c) U U, .l (aNE.bU.map cs) U U, .l (aNE.ay.map cs) U U, .l (aNE.dU.map dL.c) t o]
def bdB:Ct 54 [] λr=>∃t o,r= .a (gu t o):=by
 refine aMx λs0 hl h0=>?_
 simp only[ajP]
 refine ic hl λv0 s1 F1 N1 b1=>?_
 have v:L s1=4096:=F1.len.trans hl
 have hc:∀{Y:ae},aX btQ 5 Y [(0, .a<|cA.c ⟨⟨#[120]⟩,0,0,I,0⟩),(1, .a<|cA.c ⟨⟨#[121]⟩,0,0,I,1⟩),(2, .a<|cA.c ⟨⟨#[118]⟩,0,0,U,0⟩),(3, .a<|cA.c ⟨⟨#[113]⟩,0,2,I,0⟩),(4, .a<|cA.c ⟨⟨#[113]⟩,1,2,I,0⟩)]=V (.l (aNE.cells.map cA.c) U U,Y):=λ{Y}=>rfl
 have N:bM bsR aOs [(0,sv [120])]=V (.a<|cA.c ⟨⟨#[120]⟩,0,0,I,0⟩):=rfl
 have O:bM bsR aOs [(0,sv [121]),(4,iv 1)]=V (.a<|cA.c ⟨⟨#[121]⟩,0,0,I,1⟩):=rfl
 have P:bM bsR aOs [(0,sv [118]),(3,bv U)]=V (.a<|cA.c ⟨⟨#[118]⟩,0,0,U,0⟩):=rfl
 have R:bM bsR aOs [(0,sv [113]),(2,iv 2)]=V (.a<|cA.c ⟨⟨#[113]⟩,0,2,I,0⟩):=rfl
 have S:bM bsR aOs [(0,sv [113]),(1,iv 1),(2,iv 2)]=V (.a<|cA.c ⟨⟨#[113]⟩,1,2,I,0⟩):=rfl
 simp only[qz 2,N,O,P,R,S,aY,hc,bQ]
 have aa:bM btf brF [(0,sv [109])]=V (.a<|dS.c ⟨⟨#[109]⟩,I⟩):=rfl
 have ab:bM btf brF [(0,sv [110])]=V (.a<|dS.c ⟨⟨#[110]⟩,I⟩):=rfl
 have ac:bM btf brF [(0,sv [114]),(1,bv U)]=V (.a<|dS.c ⟨⟨#[114]⟩,U⟩):=rfl
 have X:∀{Y:ae},aX btR 3 Y [(0, .a<|dS.c ⟨⟨#[109]⟩,I⟩),(1, .a<|dS.c ⟨⟨#[110]⟩,I⟩),(2, .a<|dS.c ⟨⟨#[114]⟩,U⟩)]=V (.l (aNE.ak.map dS.c) U U,Y):=λ{Y}=>rfl
 simp only[qz 4,aa,ab,ac,aY,X,bQ]
 have al:bM bt0 brF [(0,sv [99])]=V (.a<|aOw.c ⟨⟨#[99]⟩,0⟩):=rfl
 have m:∀{Y:ae},aX btS 1 Y [(0, .a<|aOw.c ⟨⟨#[99]⟩,0⟩)]=V (.l (aNE.bC.map aOw.c) U U,Y):=λ{Y}=>rfl
 have hf:∀{Y:ae},aX zd9 1 Y [(0,sv [102])]=V (.l (aNE.bU.map cs) U U,Y):=λ{Y}=>rfl
 have ht:∀{Y:ae},aX zd9 4 Y [(0,sv [109,97,105,110]),(1,sv [116,49]),(2,sv [116,50]),(3,sv [116,51])]=V (.l (aNE.ay.map cs) U U,Y):=λ{Y}=>rfl
 simp only[qz 6,al,aY,m,bQ,qz 8,hf,qz 10,ht]
 have hw:bM aRc aM7 [(0, .l (aNE.cells.map cA.c) U U),(1, .l (aNE.ak.map dS.c) U U),(2, .l (aNE.bC.map aOw.c) U U),(3, .l (aNE.bU.map cs) U U),(4, .l (aNE.ay.map cs) U U)]=V (.a [.l (aNE.cells.map cA.c) U U, .l (aNE.ak.map dS.c) U U, .l (aNE.bC.map aOw.c) U U, .l (aNE.bU.map cs) U U, .l (aNE.ay.map cs) U U, .l [] U U]):=rfl
 simp only[qz 12,qy 14,hw,aY]
 have bg:L aNE.ay=4:=rfl
 have be:∀a,a=aNE.dU->wI 4=a:=λa h=>h.symm
 generalize hA:AV.l (aNE.cells.map cA.c) U U=A
 generalize hB:AV.l (aNE.ak.map dS.c) U U=B
 generalize hC:AV.l (aNE.bC.map aOw.c) U U=C
 generalize hD:AV.l (aNE.bU.map cs) U U=D
 refine ic v λi s2 F2 N2 b2=>?_
 refine cy (y:=6) (cs:=[A,B,C,D, .l (aNE.ay.map cs) U U, .l [] U U]) b2 rfl rfl (by decide) λd F3 b3=>?_
 have u:box d (1,i)=V ⟨31,6,U,U,[[A,B,C,D, .l (aNE.ay.map cs) U U, .l [] U U]]⟩:=b3
 have n:Fx s1 d []:=(F2.trans F3).mono (by grind [bK.no])
 have c1:=n.kq b1
 have af:L d=4096:=n.len.trans v
 have k1:∀{x:List AV} {y:AV},aN J (y::x)=V y:=λ{x y}=>by cases y<;>rfl
 have w:∀{x y x2 x3 x4 x5:AV},aN (V 6) [x,y,x2,x3,x4,x5]=V (.a [x,y,x2,x3,x4,x5]):=rfl
 have ag:∀{Y:ae},fS Y (.l (aNE.ay.map cs) U U)=V (iv (4:Nat)):=λ{Y}=>rfl
 simp only[qz 16,u0,u1,u,k1,nM,iy,aj,ag,↓uL]
 have alx:∀{l:List dL},∀r∈l.map dL.c,L r=3:=qW (by intro _;rfl)
 have bf:∀k,wI (k+1)=wI k++(aH 6).map λ(j:Nat)=>⟨(k:Int),(j:Int),10*(k:Int)+j+1⟩:=λk=>a7a
 have am:∀k,L (wI k)<=k*6:=λk=>eU (f:=λ(t:Nat)=>(aH 6).map λ(k:Nat)=>(⟨(t:Int),(k:Int),10*(t:Int)+k+1⟩:dL)) (c:=6) (λt=>by simp) k
 refine yV 4 (λk _ Y'=>∃a,box Y' (1,i)=V ⟨31,6,U,U,[[A,B,C,D, .l (aNE.ay.map cs) U U,a]]⟩/\bc Y' 181 3 a ((wI k).map dL.c)/\Fx d Y' [(1,i)]/\∀q∈aA a,bK d q/\q.1=40) ⟨_,u,bc.nil,Fx.refl _ _,by simp[aA]⟩ ?_
 rintro k _ Y1 X ⟨a1,m1,g1,e,P1⟩
 have aW:L Y1=4096:=e.len.trans af
 have a0:=am k
 simp only[qz 25,qy 24,au,aI,u0,u1,↓uL]
 refine⟨λh=>?_,λh=>?_⟩
 ·have ah:=aL h
  refine yV 6 (λj _ Y'=>∃a,box Y' (1,i)=V ⟨31,6,U,U,[[A,B,C,D, .l (aNE.ay.map cs) U U,a]]⟩/\bc Y' 181 3 a ((wI k++(aH j).map λ(j:Nat)=>(⟨(k:Int),(j:Int),10*(k:Int)+j+1⟩:dL)).map dL.c)/\Fx d Y' [(1,i)]/\∀q∈aA a,bK d q/\q.1=40) ⟨a1,m1,by grind,e,P1⟩ ?_
  rintro j _ Y2 hj ⟨a2,E,g2,p,P2⟩
  have W:∀{Y:ae} {x:dL},aX btT 1 Y [(0, .a<|dL.c x)]=V (.l ([x].map dL.c) U U,Y):=λ{Y x}=>ua rfl rfl rfl (by decide) rfl (by decide)
  have T:∀{x y z:Int},bM bt1 aon [(0,iv x),(1,iv y),(2,iv z)]=V (.a<|dL.c ⟨x,y,z⟩):=λ{x y z}=>rfl
  simp only[qz 61,qy 18,au,aI,u0,u1,E,k1,nM,iy,aj,T,W,↓uL]
  refine⟨λM=>?_,λM=>?_⟩
  ·have g:j<6:=(by grind)
   rw[show dq.wrap (dq.wrap (dq.wrap (10*(k:Int))+j)+1)=10*(k:Int)+j+1 by
    rw[eM (x:=10*(k:Int)) (by omega) (by omega),eM (x:=10*(k:Int)+j) (by omega) (by omega),eM (by omega)<|by omega]]
   refine Dv E (by simp) g2 (by grind) rfl (by decide) (by grind [Fx.len]) alx alx (by simp only[bJ,a6G,List.length_range,bZ,aO1];omega) (by simp) λa' Y3 m3 K F P3=>?_
   simp only[qz 22,au,u0,u1,↓uL]
   refine yU g ⟨a',m3,by simp only[qn,dg,<-List.append_assoc] at K⊢;exact K,(p.trans F).mono λq m=>?_,λq m=>⟨?_,?_⟩⟩
   ·simp only[dF,eW,ql,bie] at m⊢
    grind [bK.no]
   ·grind [bK.old]
   grind
  ·have bd:¬(j:Int)<6:=brD M
   have g:j=6:=by omega
   subst g
   refine yU ah ⟨a2,E,by grind,p,P2⟩
 ·have Z:k=4:=(by grind)
  subst Z
  have H:=e.kq c1
  simp only[m1,w,u0,u1]
  refine cy (y:=6) (cs:=[A,B,C,D, .l (aNE.ay.map cs) U U,a1]) H rfl rfl (by decide) λb F5 b5=>?_
  have G:box b (0,v0)=V ⟨31,6,U,U,[[A,B,C,D, .l (aNE.ay.map cs) U U,a1]]⟩:=b5
  simp only[G,w,u0,u1]
  obtain⟨t,o,q1⟩:=(g1.fx F5<|by grind).frD
  have hr:jS b [.a [A,B,C,D, .l (aNE.ay.map cs) U U,a1]]= .a (gu t o):=by
   show AV.a [dQ b A,dQ b B,dQ b C,dQ b D,dQ b<|.l (aNE.ay.map cs) U U,dQ b a1]=_
   rw[q1,<-hA,<-hB,<-hC,<-hD];rfl
  unfold aE
  rw[hr]
  exact⟨rfl,t,o,rfl⟩
def PM:Ct 54 [] (·= .a aNE.c):=by refine aDq ?_;obtain⟨r,b,d⟩:=bdB;refine⟨r,?_,d⟩;obtain⟨t,o,rfl⟩:=b;rfl
def Gf:FT:=BJ PM
def azy{Lw K}:=al2 Gf PM Lw K
def aTk{c:AV}{cs:List AV}:wn (c::cs)=aA c++wn cs:=by cases c<;>rfl
def aYg{c Y:ae}{d:Nat}{cs:List AV}{a:AV}{e:TypeId}{z:Nat}{bA:List (List AV)}(g:bc c e z a bA)(n:bA.all (λr=>r.all DU)=U)(i:d<L Y):∃h f,gU c d Y (a::cs)=(gU c d f cs).map (λp=>(h::p.1,p.2))/\bc f e z h bA/\Fx Y f []/\∀q∈aA h,bK Y q/\q.1=d:=by rcases g with⟨rfl,rfl⟩|⟨b,rfl,k⟩;exact⟨.l [] U U,Y,rfl, .inl ⟨rfl,rfl⟩,Fx.refl _ _,by simp[aA]⟩;refine⟨.m (zt Y d)<|L bA,put Y d ⟨e,z,U,I,bA⟩,?_, .inr ⟨_,rfl,be7 i⟩,kH i,λq j=>?_⟩;grind [vY,gU];simp only[aA,cE] at j;subst j;exact⟨qQ Y d,rfl⟩
def a57{Y:ae}{d:Nat}{K:be}{w:J9}(b:d<L Y)(X:L w.ak<=100)(Z:L w.bU<=100)(h4:L w.ay<=100)(G:∀a1 a2 a3 Y',bc Y' 184 2 a1 ((er (L w.ak) (⟨-1,[]⟩:cg)).map cg.c)->bc Y' 4 1 a2 ((er (L w.bU) I).map cb)->bc Y' 138 3 a3 ((qZ<|L w.ay).map aoC.c)->Fx Y Y' []->(∀q∈aA a1++(aA a2++aA a3),bK Y q/\q.1=d)->K (.a [a1,iv<|-1,a2,a3]) Y'):cN 118 [.a w.c] Y d K:=by obtain⟨r,l,⟨a1,a2,a3,rfl,g1,u,v,F,S,T,W⟩,E⟩:=aDP (Y:=eK) (x0:=sl cA.c w.cells) (x2:=sl aOw.c w.bC) (x5:=sl dL.c w.dU) (ls:=w.ak.map dS.c) (fs:=w.bU.map cs) (ts:=w.ay.map cs) (t1:=I) (o1:=I) (t3:=I) (o3:=I) (t4:=I) (o4:=I) (List.length_replicate ..) (by grind) (by grind) (by grind);simp only[bJ] at g1 u v;obtain⟨n,m,B,M,i,P⟩:=aYg (Y:=Y) (d:=d) (cs:=[iv (-1),a2,a3]) g1 (by simp[cg.c,DU,sl]) b;obtain⟨o,R,C,N,j,n2⟩:=aYg (Y:=m) (d:=d) (cs:=[a3]) u (by simp[DU,cb]) (by rw[i.len];exact b);obtain⟨t,A,D,O,k,n3⟩:=aYg (Y:=R) (d:=d) (cs:=[]) v (by simp[dV,DU,aoC.c]) (by rw[j.len,i.len];exact b);have f:[AV.a w.c].map (dG Y)=[.a w.c]:=rfl;refine .inr (.inr ⟨by rw[f];simp[iX,J9.c,eN,sl],by simp[aRI,b],[a1,iv<|-1,a2,a3],l,[n,iv<|-1,o,t],A,by rw[f];exact E,?_,?_,?_⟩);have m1:∀{a:AV},(aA a).Nodup:=λ{a}=>(by cases a<;>simp[aA]);have e0:wn [a1,iv<|-1,a2,a3]=aA a1++(aA a2++aA a3):=(by rw[aTk,aTk,aTk,aTk];show aA a1++([]++(aA a2++(aA a3++[])))=_;simp);rw[e0,xl,xl];refine⟨m1,⟨m1,m1,λx f y g e=>?_⟩,λx f y g e=>?_⟩;grind;subst e;rcases dF.1 g with g|g;grind;grind;rw[B];have:gU l d m [iv (-1),a2,a3]=(gU l d m [a2,a3]).map λp=>(iv (-1)::p.1,p.2):=rfl;rw[this,C,D];rfl;refine G n o t A ((M.fx j<|by simp).fx k<|by simp) (N.fx k<|by simp) O ((i.trans j).trans k) λq H=>?_;rcases dF.1 H with h|h;exact P q h;rcases dF.1 h with h|h;grind [bK.old];grind [bK.old]
def aH6(w:J9):sA:=⟨⟨er (L w.ak) ⟨-1,[]⟩,-1,er (L w.bU) I,qZ<|L w.ay⟩,w.cells.map (·.init),er (L w.bU) 0,er (L w.ay) 0⟩
def aWw{Y:ae}{e:TypeId}{z:Nat}{a:AV}{bA:List (List AV)}{d:Nat}(g:bc Y e z a bA)(h:∀q∈aA a,q.1=d):dK a=[]\/dK a=[d]:=by rcases g with⟨_,rfl⟩|⟨b,rfl,_⟩;exact .inl rfl;grind [aA,dK]
theorem k1m{b:Id}{n:Nat}:dK (.m b n)=[b.1]:=rfl
def k1p{b:Id}{i j:Nat}:dK (.p b i j)=[b.1]:=rfl
def k1s{v:Value}:dK (.s v)=[]:=rfl
theorem k1l{r:List (List AV)}{t o:Bool}:dK (.l r t o)=[]:=rfl
structure SnL(Y0 Y:ae)(s:sA)(a1 a2 a3 a4 a5 a6:AV):Prop where
 g1:gp Y 184 2 a1 (s.bW.ak.map cg.c)
 g2:gp Y 4 1 a2 (s.bW.done.map cb)
 g3:gp Y 138 3 a3 (s.bW.ay.map aoC.c)
 g4:gp Y 2 1 a4 (s.cells.map ci)
 g5:gp Y 2 1 a5 (s.bU.map ci)
 g6:gp Y 3 1 a6 (s.count.map ci)
 p1:∀q∈aA a1,bK Y0 q/\q.1=6
 p2:∀q∈aA a2,bK Y0 q/\q.1=6
 p3:∀q∈aA a3,bK Y0 q/\q.1=6
 p4:∀q∈aA a4,bK Y0 q/\q.1=32
 p5:∀q∈aA a5,bK Y0 q/\q.1=10
 p6:∀q∈aA a6,bK Y0 q/\q.1=14
section
variable{Y0 Y:ae}{s:sA}{a1 a2 a3 a4 a5 a6:AV}
theorem SnL.ids(h:SnL Y0 Y s a1 a2 a3 a4 a5 a6){x:Int}:∀q∈eB (.a [a1,iv x,a2,a3,a4,a5,a6]),bK Y0 q/\(q.1=6\/q.1=10\/q.1=14\/q.1=32):=by intro q b;have c:∀{a:AV},iR a=aA a:=λ{a}=>(by cases a<;>rfl);simp only[eB,Cz,RN,c,cL,dF] at b;rcases b with g|g|g|g|g|g|g;grind [SnL.p1];simp[aA] at g;grind [SnL.p2];grind [SnL.p3];grind [SnL.p4];grind [SnL.p5];grind [SnL.p6]
theorem SnL.lz(h:SnL Y0 Y s a1 a2 a3 a4 a5 a6):[a1,iv s.bW.tx,a2,a3,a4,a5,a6].map (lz Y)=s.c:=by simp only[ji,mU,aOb h.g1,aOb h.g2,aOb h.g3,aOb h.g4,aOb h.g5,aOb h.g6,aQ5];rfl
end
def aXI{Y:ae}{w:J9}(hl:L Y=4096)(h0:L w.cells<=1000)(h1:L w.ak<=100)(h3:L w.bU<=100)(h4:L w.ay<=100):∃r A,(∃a1 a2 a3 a4 a5 a6,r= .a [a1,iv<|-1,a2,a3,a4,a5,a6]/\SnL Y A (aH6 w) a1 a2 a3 a4 a5 a6/\Fx Y A [])/\cZ aS GG 57 [.a w.c] Y r A:=by refine aLy hl rfl λs2 v1 K2 bv nf b1=>?_;have E:Fx Y s2 []:=K2.fx [];have R:L s2=4096:=E.len.trans hl;simp only[IK];refine ic R λv2 s3 F N3 b2=>?_;have c1:=F.kq b1;have aC:L s3=4096:=F.len.trans R;have r6:aN (V 6) w.c=V (.a w.c):=rfl;have aM:aN J (w.c.drop 3)=V (sl cs w.bU):=rfl;have aO:aN J (w.c.drop 4)=V (sl cs w.ay):=rfl;have Z:aN J w.c=V (sl cA.c w.cells):=rfl;simp only[qz 4,u0,u1,c1,r6,↓uL];refine a57 (by omega) h1 h3 h4 λa1 a2 a3 s5 g1 g2 g3 n P=>?_;have P1:∀q∈aA a1,q.1=6:=λq b=>(P q<|by simp[b]).2;have P2:∀q∈aA a2,q.1=6:=λq b=>(P q<|by simp[b]).2;have P3:∀q∈aA a3,q.1=6:=λq b=>(P q<|by simp[b]).2;have D:=n.kq c1;have an:=n.kq b2;have aD:L s5=4096:=n.len.trans aC;simp only[qz 6,u0,u1,D,aM,aj,↓uL];refine AP (by decide) (by decide) (by omega) (by omega) λB s6 p5 N6 G d5=>?_;have aE:L s6=4096:=G.len.trans aD;have al:=G.kq D;simp only[qz 8,u0,u1,al,aO,aj,↓uL];refine AP (by decide) (by decide) (by omega) (by omega) λC s7 p6 N7 T d6=>?_;have S:L s7=4096:=T.len.trans aE;have O:=G.trans T;have av:bM bsk anY [(0, .a [a1,iv<|-1,a2,a3]),(2, .m B<|L w.bU),(3, .m C<|L w.ay)]=V (.a [a1,iv<|-1,a2,a3, .l [] U U, .m B<|L w.bU, .m C<|L w.ay]):=rfl;simp only[qz 10,qy 12,av,aY];refine anu S λN v o N8 d9=>?_;have f:=O.trans o;have aF:L v=4096:=o.len.trans S;have am:=f.kq D;have ao:=f.kq an;have q1:=g1.fx f (by simp);have q2:=g2.fx f (by simp);have q3:=g3.fx f (by simp);have q5:=o.kq<|T.kq d5;have q6:=o.kq d6;obtain⟨bt,g⟩:=B;obtain⟨bu,i⟩:=C;simp only at p5 p6;subst p5;subst p6;simp only[qz 14];refine dT ?_ ?_;rcases aWw g1 P1 with K|K<;>rcases aWw g2 P2 with M|M<;>rcases aWw g3 P3 with e3|e3<;>simp[eL,lb,gz,dC,k1m,k1p,k1s,k1l,J9.c,sl,K,M,e3];refine yV (L w.cells) (λk _ Y'=>∃a,box Y' (3,N)=V ⟨40,7,U,U,[[a1,iv<|-1,a2,a3,a, .m (10,g)<|L w.bU, .m (14,i)<|L w.ay]]⟩/\bc Y' 2 1 a (((w.cells.take k).map (·.init)).map ci)/\Fx v Y' [(3,N)]/\∀q∈aA a,bK v q/\q.1=32) (by grind [bc,Fx.refl,aA]) ?_;rintro k _ A hk ⟨a4,m1,W,y,P4⟩;have K:=y.kq am;have aB:L A=4096:=y.len.trans aF;have aw:∀{Y:ae} {x:Int},aX yW 1 Y [(0,iv x)]=V (.l ([x].map ci) U U,Y):=λ{Y x}=>iz;simp only[qz 25,qy 16,qy 22,au,aI,u0,u1,K,Z,m1,aRV,bfx,aRa,rk,aj,ix,bh,aw,↓uL];refine⟨λh=>?_,λh=>?_⟩;have t:=aL h;refine⟨dJ t,?_⟩;refine apQ W.p aB fF fF (by simp) (by simp;omega) λa' H g5 j N5=>?_;have m5:=j.keep _ _ (λb=>by have:=(P4 _ b).2;simp at this) m1;simp only[qz 18,u0,u1,m5,aj,↓uL];refine A0 m5 g5.p.ce (by simp) λY6 aa C=>?_;have P5:∀q∈aA a',bK v q/\q.1=32:=(by grind [bK.old]);simp only[qz 20,↓uL];refine dT (by simp[eL,lb,gz,dC,dK]) ?_;simp only[au,u0,u1];refine yU t ⟨a',C,?_,((y.trans j).trans aa).mono λq b=>?_,P5⟩;rw[iJ t,<-bT t,dg,dg];grind [bc.fx];grind [bK.no];have ax:k=L w.cells:=(by grind);subst ax;rw[gV] at W;have M:=y.kq ao;have Bi:aN (V 7) [a1,iv<|-1,a2,a3,a4, .m (10,g)<|L w.bU, .m (14,i)<|L w.ay]=V (.a [a1,iv<|-1,a2,a3,a4, .m (10,g)<|L w.bU, .m (14,i)<|L w.ay]):=rfl;simp only[Bi,aY];refine r9 M rfl rfl λH j B=>?_;simp only[B,aQd,qh,df,Bi,aY];have u:Fx v H [(3,N),(2,v2)]:=y.trans j;have X:∀{a:AV} {d:Nat},(∀q∈aA a,q.1=d)->d≠2->d≠3->∀q∈aA a,q∉[((3,N):Id),((2,v2):Id)]:=(by grind);have z1:=q1.fx u (X P1 (by decide)<|by decide);have z2:=q2.fx u (X P2 (by decide)<|by decide);have z3:=q3.fx u (X P3 (by decide)<|by decide);have z4:=W.fx j (λq b e=>by have:=(P4 q b).2;simp at e;subst e;simp at this);have z5:bc H 2 1 (.m (10,g)<|L w.bU) ((er (L w.bU) (0:Int)).map ci):= .inr ⟨(10,g),by simp,by rw[u.kq q5,List.map_replicate];rfl⟩;have z6:bc H 3 1 (.m (14,i)<|L w.ay) ((er (L w.ay) (0:Int)).map ci):= .inr ⟨(14,i),by simp,by rw[u.kq q6,List.map_replicate];rfl⟩;have o3:∀{q:Id},bK s3 q->bK Y q:=λh=>(h.old F).old E;have o9:∀{q:Id},bK v q->bK Y q:=(by grind [bK.old]);have n5:bK Y (10,g):=o3<|N6.old n;have bw:bK Y (14,i):=o3<|(N7.old G).old n;refine⟨a1,a2,a3,a4,_,_,rfl,⟨z1.p,z2.p,z3.p,z4.p,z5.p,z6.p,(by grind),(by grind),(by grind),(by grind),λq h=>?_,λq h=>?_⟩,((((E.trans F).trans n).trans f).trans u).mono λq b=>?_⟩;grind [aA];grind [aA];simp only[dW,eW,ql,bie,cL] at b;rcases b with rfl|rfl;exact .inr (o3<|(N8.old O).old n).no;exact .inr (N3.old E).no
def SlR(Y:ae)(z:Nat)(x:AV)(bA:List<|List AV):Prop:=(∃t o,x= .l bA t o)\/∃b m e,x= .m b (L bA)/\box Y b=V ⟨e,z,U,I,bA++m⟩
section
variable{Y Y':ae}{z:Nat}{x:AV}{bA:List (List AV)}
theorem SlR.fx{Lw:List Id}(h:SlR Y z x bA)(F:Fx Y Y' Lw)(a:∀q∈aA x,q∉Lw):SlR Y' z x bA:=by rcases h with h|⟨b,m,e,rfl,c⟩;exact .inl h;exact .inr ⟨b,m,e,rfl,F.keep _ _ (a b<|by simp[aA]) c⟩
theorem SlR.bx(h:SlR Y z x bA):∀q∈aA x,∃y,box Y q=V y:=by rcases h with⟨t,o,rfl⟩|⟨b,m,e,rfl,a⟩;simp[aA];grind [aA]
def SlR.of{e:TypeId}(h:gp Y e z x bA):SlR Y z x bA:=by rcases h with⟨rfl,rfl⟩|⟨b,m,rfl,a⟩;exact .inl ⟨_,_,rfl⟩;exact .inr ⟨b,m,e,rfl,a⟩
def SlR.ro(h:SlR Y z x bA):gL Y x=V bA:=by rcases h with⟨t,o,rfl⟩|⟨b,m,e,rfl,a⟩;rfl;simp[gL,a]
theorem SlR.ln(h:SlR Y z x bA):fS Y x=V (iv<|L bA):=by rcases h with⟨t,o,rfl⟩|⟨b,m,e,rfl,a⟩;rfl;simp[fS,a]
theorem SlR.ce(h:SlR Y z x bA):eY x=V [x]:=by rcases h with⟨t,o,rfl⟩|⟨b,m,e,rfl,a⟩<;>rfl
theorem SlR.ix1(h:SlR Y 1 x bA){i:Nat}{c:AV}(k:bA[i]?=V [c]){K:AV->cC}(g:∀p,p= .q [c]\/(∃b,p= .p b i 0/\b∈aA x)->K p c):rV (cz 1 Y x<|iv i) λp=>rV (vl J Y p) (K p):=by obtain⟨d,j⟩:=List.getElem?_eq_some_iff.1 k;rcases h with⟨t,o,rfl⟩|⟨b,m,e,rfl,a⟩;have:cz 1 Y (.l bA t o) (iv i)=V (.q [c]):=(by simp[cz,d,j]);rw[this];exact g _<|.inl rfl;have n:cz 1 Y (.m b<|L bA) (iv i)=V (.p b i 0):=(by simp[cz,a,d]);have f:(bA++m)[i]?=V [c]:=(by grind);have r:vl J Y (.p b i 0)=V c:=(by simp only[vl,iE,a,aQd,f];cases c<;>rfl);grind [aY,aA]
theorem apV{e:TypeId}{d by':Nat}{zs:List AV}{a:AV}{new:List (List AV)}{K:be}(f:gp Y e z a bA)(n:gL Y x=V new)(y:L zs=z)(t:0<z)(u:d<L Y)(w:∀r∈bA,L r=z)(v:∀r∈new,L r=z)(g:(L bA+L new)*(by'+1)<=1099511627776)(k:∀c Y',gp Y' e z c (bA++new)->Fx Y Y' (aA a)->(∀b∈aA c,b∈aA a\/bK Y b/\b.1=d)->K c Y'):eV (Gy e zs by' Y d a x) K:=by have j:Gy e zs by' Y d a x=Gy e zs by' Y d a (.l new U U):=(by have h:gL Y (.l new U U)=V new:=rfl;unfold Gy;rw[n,h]);rw[j];by_cases i:new=[];subst i;have:Gy e zs by' Y d a (.l [] U U)=V (a,Y):=(by unfold Gy;simp only[gL];rw[f8<|by simp];rcases f with⟨_,rfl⟩|⟨q,m,rfl,o⟩;rfl;simp[o]);rw[this];exact k a Y (by simpa using f) (Fx.refl _ _) λb g=> .inl g;grind [qs,bc.p]
end
def baG{Y:ae}{z0 a:AV}{e:TypeId}{z:Nat}{bA:List (List AV)}(g:gp Y e z a bA):aX [z0] 1 Y [(0,a)]=V (.l [[.l bA I I]] U U,kills Y<|aA a):=by rcases g with⟨rfl,rfl⟩|⟨b,m,rfl,c⟩;simp[aX,aly,eY,nrm,gK,eR,gi,eB,iR,kills,kC,eN,aA];simp[aX,aly,eY,nrm,gK,eR,gi,eB,iR,kC,eN,aA,c]
def SlR.keys{Y:ae}{z:Nat}{x:AV}{bA:List (List AV)}(h:SlR Y z x bA){P:Nat->Prop}(a:∀q∈aA x,P q.1):gz x=[]\/∃p,gz x=[p]/\P p:=by rcases h with⟨t,o,rfl⟩|⟨b,m,e,rfl,c⟩;exact .inl rfl;exact .inr ⟨b.1,rfl,a b<|by simp[aA]⟩
def a6M{Y:ae}{o ev:Int}{T x2:AV}{H7:List Int}{J6:List (List Int)}(hl:L Y=4096)(h1:SlR Y 1 T<|H7.map ci)(h2:SlR Y 1 x2<|J6.map cl)(hp:∀q∈aA T,q.1≠1/\q.1≠3)(b1:L H7<=1000)(b2:L J6<=1000)(b3:∀t∈J6,L t<=1000):
  ∃r g,(∃a1 a2,r= .a [iv o,a1,a2,iv ev]/\gp g 2 1 a1 (H7.map ci)/\gp g 38 1 a2 (J6.map cl)/\Fx Y g []/\(∀q∈aA a1,bK Y q/\q.1=12)/\∀q∈aA a2,bK Y q/\q.1=31)/\cZ aS GG 266 [.a [iv o,T,x2,iv ev]] Y r g:=by
 refine bhc hl rfl λs2 v1 K2 bc nf c1=>?_
 have A:Fx Y s2 []:=K2.fx []
 have K:L s2=4096:=A.len.trans hl
 have H1:=h1.fx A (by simp)
 have H2:=h2.fx A (by simp)
 simp only[aVb]
 refine ic K λv2 R v N3 q3=>?_
 have N:=v.kq c1
 have M:=v.len.trans K
 have F:∀{x:List AV} {y:AV},aN J (y::x)=V y:=λ{x y}=>by cases y<;>rfl
 simp only[qz 4,u0,u1,N,F,nM,iy,aj,nS,↓uL]
 have H3:=H2.fx v (by simp)
 have Z:=H1.fx v (by simp)
 simp only[qz 6,u0,u1,N,F,nM,iy,aj,↓uL]
 refine apV (bA:=[]) (e:=2) (z:=1) (.inl ⟨rfl,rfl⟩) Z.ro rfl (by decide) (by omega) (by simp) fF (by simp;omega) λa1 s4 E F4 P4=>?_
 simp only[dW] at E
 have a8:∀q∈aA a1,bK R q/\q.1=12:=(by grind [aA])
 have d:Fx R s4 []:=F4.mono (by simp[aA])
 have am:bM aoB bmK [(0,iv o),(3,iv ev),(1,a1)]=V (.a [iv o,a1, .l [] U U,iv ev]):=by
  rcases E with⟨_,rfl⟩|⟨b,m,rfl,_⟩<;>rfl
 simp only[qz 8,qy 10,am,aY]
 refine anu (d.len.trans M) λS G w N5 q5=>?_
 have av:L G=4096:=w.len.trans<|d.len.trans M
 have c5:=w.kq<|d.kq N
 have d5:=w.kq<|d.kq q3
 have g5:=E.fx w (by simp)
 have H5:=(H3.fx d<|by simp).fx w (by simp)
 have o3:∀{q:Id},bK R q->bK Y q:=λh=>(h.old v).old A
 have o5:∀{q:Id},bK G q->bK Y q:=(by grind [bK.old])
 refine dT ?_ ?_
 ·have hk:gz a1=[]\/gz a1=[12]:=by
   rcases E with⟨_,rfl⟩|⟨b,m,rfl,_⟩
   ·exact .inl rfl
   grind [aA,gz,dC,dK]
  rcases hk with D|D<;>rcases h1.keys (P:=λp=>p≠1/\p≠3) hp with e2|⟨p,e2,p1,p3⟩<;>simp[eL,lb,Cz, *]<;>simp[gz,dC,dK]<;>omega
 refine yV (L J6) (λk _ Y'=>∃a2,box Y' (3,S)=V ⟨251,4,U,U,[[iv o,a1,a2,iv ev]]⟩/\gp Y' 38 1 a2 ((J6.take k).map cl)/\Fx G Y' [(3,S)]/\∀q∈aA a2,bK G q/\q.1=31) (by grind [gp,Fx.refl,aA]) ?_
 rintro k _ g hk ⟨a2,m1,g2,j,P6⟩
 have D:=j.kq c5
 have ab:bK Y (3,S):=o3<|N5.old d
 have H6:=H5.fx j (λq n e=>by
  simp only[cE] at e
  subst e
  obtain⟨y,hy⟩:=h2.bx _ n
  exact ab.no y hy)
 simp only[qz 25,qy 24,au,aI,u0,u1,D,m1,F,nM,iy,aj,H6.ln,bJ,nS,↓uL]
 refine⟨λh=>?_,λh=>?_⟩
 ·have f:=aL h
  simp only[qz 14,au,u0,u1,D,F,nM,iy,aj,↓uL]
  refine H6.ix1 (i:=k) (c:=sl ci<|gd J6 k) (by rw[bj9,eC f,bT f];rfl) λp bb=>?_
  have ar:L g=4096:=j.len.trans av
  have ba:=b3 _<|ig f
  refine apV (bA:=[]) (e:=3) (z:=1) (new:=(gd J6 k).map ci) (.inl ⟨rfl,rfl⟩) rfl rfl (by decide) (by omega) (by simp) fF (by simp;omega) λC s7 O F7 P7=>?_
  simp only[dW] at O
  have u:Fx g s7 []:=F7.mono (by simp[aA])
  have ac:∀q∈aA C,bK g q/\q.1=29:=(by grind [aA])
  have B:=aOp (aA C) s7
  simp only[qz 16,qy 18,baG O,bQ]
  have g8:=(g2.fx u<|by simp).fx B (by grind)
  refine qs (new:=[[.l ((gd J6 k).map ci) I I]]) g8 rfl (by decide) (by rw[B.len,u.len,ar];decide) (by intro r hr;obtain⟨y,_,rfl⟩:=dN.1 hr;rfl) (by simp) (by simp) (by simp;omega) λa9 s9 g9 X P9=>?_
  have m9:=X.keep _ _ (λn=>by have:=(P6 _ n).2;simp at this) (B.keep _ _ (λn=>by have:=(ac _ n).2;simp at this) (u.kq m1))
  simp only[qz 20,u0,u1,m9,aj,↓uL]
  refine A0 m9 g9.p.ce (by simp) λbd H ad=>?_
  simp only[qz 22,↓uL]
  refine dT ?_ ?_
  ·have ap:gz C=[]\/gz C=[29]:=by
    rcases O with⟨_,rfl⟩|⟨b,m,rfl,_⟩
    ·exact .inl rfl
    grind [aA,gz,dC,dK]
   rcases ap with e7|e7<;>simp[eL,lb,e7,Cz]<;>simp[gz,dC,dK,sl]
  simp only[au,u0,u1]
  refine yU f ⟨a9,ad,?_,((((j.trans u).trans B).trans X).trans H).mono λq n=>?_,by grind [bK.old]⟩
  ·rw[iJ f,<-bT f,dg]
   exact g9.p.fx H (by grind)
  grind [bK.no,bK.old]
 ·have ao:k=L J6:=(by grind)
  subst ao
  rw[gV] at g2
  have d6:=j.kq d5
  have uS:aN (V 4) [iv o,a1,a2,iv ev]=V (.a [iv o,a1,a2,iv ev]):=rfl
  simp only[uS,aY]
  refine r9 d6 rfl rfl λs8 W b8=>?_
  simp only[b8,aQd,qh,df,uS,aY]
  refine⟨a1,a2,rfl,(g5.fx j<|by grind).fx W (by grind),(by grind [gp.fx]),(((((A.trans v).trans d).trans w).trans j).trans W).mono λq n=>?_,(by grind),by grind⟩
  grind [bK.no,bK.old]
def aR3:dO:=(54,Gf)::a7D
def aPL:eJ aR3:=sz (apM PM)<|aR2
def aPg:=ai @azy<|@bcw
section
attribute[local irreducible] aX
def a9J:=I5 25 [(4,([7],[2,3,4,6])),(12,([8,9,10],[2,3,4]))]
def aVf a b c R:=(.mk _:NS aR3 a9J Tryz.f267 [.u, .u] [a,b] c R).p
def bhf{c0:List AV}{b:List AV}{s0:ae}{R:be}(hs:L s0=4096)(l0:L c0=6)(l1:L b=4)(h:HB2 264 6 2 c0 251 4 3 b s0 λd e c=>aVf d e c R):EB 267 [.a c0, .a b] s0 R:=zB2 a9J aPL Tryz.func267 hs l0 l1 h
end
def bfq{Y:ae}{b:Id}{i j z:Nat}{e s:TypeId}{z2:Nat}{a:AV}{r:List AV}{bA d:List (List AV)}{K:ae->Prop}(h:box Y b=V ⟨e,z,U,I,bA⟩)(w:bA[i]?=V r)(x:j<L r)(g:gp Y s z2 a d)(n:b∉aA a)(u:∀Y',Fx Y Y' (aA a++[b])->box Y' b=V ⟨e,z,U,I,bA.set i<|r.set j<|.l d I I⟩->K Y'):sV (aK 1 Y (.p b i j) a) K:=by have v:nrm (eR Y a)= .l d I I:=(by rcases g with⟨rfl,rfl⟩|⟨q,m,rfl,o⟩;rfl;simp[eR,gi,o,nrm,gK]);have k:eB a=aA a:=(by rcases g with⟨rfl,rfl⟩|⟨q,m,rfl,o⟩<;>rfl);have f:=aOp (aA a) Y;have c:=f.keep b _ n h;have t:aK 1 Y (.p b i j) a=V (wr (kills Y<|aA a) b ⟨e,z,U,I,bA.set i<|r.set j<|.l d I I⟩):=(by simp only[aK,aBG,h,eE,brx,k,v,pW,c,eY,w,bZ,aO1];rw[f8 ⟨trivial,by omega,λ_=>rfl⟩];grind [GP]);rw[t];exact u _ (f.trans<|wc c)<|lO c
structure TSt(Y:ae)(P:List Int->Prop)(n:Nat)(a1 a2:AV)(H7:List Int)(J6:List<|List Int):Prop where
 g1:gp Y 2 1 a1 (H7.map ci)
 g2:gp Y 38 1 a2 (J6.map cl)
 n1:L H7=n
 n2:L J6=n
 hP:∀t∈J6,P t
 p1:∀q∈aA a1,q.1=12
 p2:∀q∈aA a2,q.1=31
def aSq(Y:ae)(P:List Int->Prop)(n:Nat)(a1 b:AV)(ev:Int)(r:AV)(c:ae):Prop:=Fx Y c (aA a1++aA b)/\(r= .t [.a aoB,bv I]\/∃(e:Int) (d:Bool) (H7:List Int) (J6:List<|List Int),r= .t [.a [iv e,a1,b,iv ev],bv d]/\TSt c P n a1 b H7 J6)
theorem TSt.fx{Y Y':ae}{P:List Int->Prop}{n:Nat}{a1 b:AV}{H7:List Int}{J6:List (List Int)}(S:TSt Y P n a1 b H7 J6){Lw:List Id}(F:Fx Y Y' Lw)(c:∀q∈Lw,q.1≠12/\q.1≠31):TSt Y' P n a1 b H7 J6:=⟨S.g1.fx F λq a e=>(c q e).1<|S.p1 q a,S.g2.fx F λq a e=>(c q e).2<|S.p2 q a,S.n1,S.n2,S.hP,S.p1,S.p2⟩
def bdr{Y:ae}{P:List Int->Prop}{n:Nat}{i:aNZ}{pc ev:Int}{a1 D:AV}{H7:List Int}{J6:List (List Int)}(hl:L Y=4096)(S:TSt Y P n a1 D H7 J6)(bV:1<=i.op/\i.op<=5)(hn:n<=1000)(ba:P [])(bc:∀a b,P a->P b->P (mP a b))(bb:∀a,P a->L a<=1000):∃r A,aSq Y P n a1 D ev r A/\cZ aS GG 267 [.a i.c, .a [iv pc,a1,D,iv ev]] Y r A:=by refine bhf hl rfl rfl λs4 v2 v3 K4 bX nf2 bY c2 c3=>?_;have F4:Fx Y s4 []:=K4.fx [];have bl:=F4.len.trans hl;simp only[aVf];refine ic bl λv5 s5 F5 N5 c5=>?_;have d2:=F5.kq c2;have F:=F5.kq c3;simp only[qz 6,u0,u1,d2,pz,jM,kU,jt,Fa,aPg,↓uL];rintro r ⟨t',o',rfl⟩;refine⟨by simp[lo,nA,eB,iR,aNZ.c],?_⟩;refine yV (L<|a6z i) (λk _ Y'=>Y'=s5/\∀j,j<k->aF n (gd (a6z i) j)) ⟨rfl,by simp⟩ ?_;rintro k _ A hk ⟨rfl,hc⟩;have w:=(S.fx F4<|by simp).fx F5 (by simp);have X:∀{x:List AV} {y:AV},aN J (y::x)=V y:=λ{x y}=>(by cases y<;>rfl);have N:Fx Y A []:=F4.trans F5;have hz:bM aoB bmK []=V (.a aoB):=rfl;have az:∀{Y':ae},gp Y' 2 1 a1 (H7.map ci)->fS Y' a1=V (iv n):=λg=>(by rw[g.ln,bJ,S.n1]);have af:∀M:Bool,sV (aK 4 A (.p (4,v5) 0 0)<|.a aoB) λs=>rV (vl (V 4) s<|.p (4,v5) 0 0) λt=>aNN (aSq Y P n a1 D ev) s [t,bv I]:=λM=>(by refine r9 c5 rfl rfl λs6 F6 b6=>?_;rw[aEa b6 rfl];exact⟨(N.trans F6).mono (by grind [bK.no,bK.old]), .inl rfl⟩);have bi:∀x:Int,(Q (x<0)||Q (x>=(n:Int)))=I->aF n x:=λx H=>(by simp only[cP,j5] at H;exact⟨by omega,by omega⟩);rcases Decidable.em (k<L (a6z i)) with B|B;have hd:Q ((k:Int)<(L (a6z i):Int))=U:=(by grind);rcases h1:Q (gd (a6z i) k<0) with _|_;rcases h2:Q (gd (a6z i) k>=(n:Int)) with _|_;simp only[qz 25,qy 8,au,aI,gT,tf,rk,pz,bh,hd,h1,h2,u0,u1,F,X,aj,az w.g1,↓jA,a7c,↓iC,↓iB,↓uL];refine⟨dJ B,dJ B,dR (mk:=λ(_:Unit) i=>[iv i]) (s:=()) (s':=()) (λ_ _=>rfl) B (by grind [a64]) ⟨rfl,a6p hc<|bi _ ?_⟩⟩;simp_all;simp only[qz 25,qy 8,au,aI,gT,tf,rk,pz,bh,hd,h1,h2,u0,u1,F,X,aj,az w.g1,↓jA,a7c,↓iC,hz,↓uL];exact⟨dJ B,dJ B,af I⟩;simp only[qz 25,qy 8,au,aI,gT,tf,rk,pz,bh,hd,h1,u0,u1,F,X,aj,↓jN,aUw,↓iC,hz,↓uL];exact⟨dJ B,af I⟩;(focus have hd:Q ((k:Int)<(L (a6z i):Int))=I:=(by simp;omega);simp only[qz 25,qy 8,au,aI,gT,hd,↓iB,u0,u1,↓uL];have bj:k=L (a6z i):=(by omega);subst bj;have f:∀r∈a6z i,aF n r:=λr hr=>(by obtain⟨j,hj,rfl⟩:=ou hr;grind [bT]);have ho:i.op=1\/i.op=2\/i.op=3\/i.op=4\/i.op=5:=(by omega);refine bsK (λd=>∀(v:Int) (M:Bool) (tx:AV) (t:List Int),(∃t' o',tx= .l (t.map ci) t' o')->P t->aF n i.a->d [iv v,bv M,tx] A) ?_ λd C=>?_;rintro v M tx t ⟨t',o',rfl⟩ G ay;obtain⟨m,hm⟩:∃m:Nat,i.a=m:=⟨i.a.toNat,by have:=ay.1;omega⟩;have aC:m<n:=(by have:=ay.2;omega);have bU:m<L H7:=(by rw[w.n1];exact aC);have aB:m<L J6:=(by rw[w.n2];exact aC);have bW:=bb _ G;simp only[qz 75,qy 14,aI,au,u0,u1,d2,F,pz,X,aj,nS,hm,↓uL];refine apV (bA:=[]) (e:=3) (z:=1) (new:=t.map ci) (.inl ⟨rfl,rfl⟩) rfl rfl (by decide) (by grind [Fx.len]) (by simp) fF (by simp;omega) λa7 s7 g7 F7 P7=>?_;simp only[dW] at g7;have O:Fx A s7 []:=F7.mono (by simp[aA]);have aQ:∀q∈aA a7,bK A q/\q.1=125:=(by grind [aA]);have W:=w.fx O (by simp);have aZ:=O.kq F;have a3:=O.kq c5;simp only[qz 16,au,↓uL];refine ixG W.g1 (by grind [dJ]) λb1 m1 bd bf=>?_;rw[bh];have bo:b1.1=12:=W.p1 b1 (by grind [aA]);refine aQz (x:=iv v) (r:=[iv<|gd H7 m]) bf (by simp_all [xe,bT]) (by simp) rfl rfl rfl λs8 F8 b8=>?_;have aL:(H7.map ci++m1).set m ([iv<|gd H7 m].set 0<|nrm<|eR s7<|iv v)=(H7.set m v).map ci++m1:=(by rw[List.set_append_left _ _ (by grind),vB];rfl);rw[aL] at b8;have e1:gp s8 2 1 a1 ((H7.set m v).map ci):= .inr ⟨b1,m1,by rw[bd];simp,b8⟩;have e2:=W.g2.fx F8 (by grind [TSt.p2]);have e7:=g7.fx F8 (by grind);have Z:∀{q:Id},q.1≠12->q∉[b1]:=(by grind);have a0:=F8.keep _ _ (Z<|by simp) aZ;have a4:=F8.keep _ _ (Z<|by simp) a3;simp only[qz 18,↓uL];refine ixG e2 (by grind [dJ]) λb2 m2 be bg=>?_;rw[bh];have b0:b2.1=31:=W.p2 b2 (by grind [aA]);refine bfq (r:=[sl ci<|gd J6 m]) bg (by rw[xe (by grind),bj9,eC aB,bT aB];rfl) (by simp) e7 (by grind) λs9 F9 b9=>?_;have ar:(J6.map cl++m2).set m ([sl ci<|gd J6 m].set 0<|.l (t.map ci) I I)=(J6.set m t).map cl++m2:=(by rw[List.set_append_left _ _ (by grind),vB];rfl);rw[ar] at b9;have n2:∀{q:Id},q.1≠125->q.1≠31->q∉aA a7++[b2]:=λh h' e=>(by rcases dF.1 e with e|e;grind;grind);have S9:TSt s9 P n a1 D (H7.set m v) (J6.set m t):=⟨e1.fx F9<|λq o=>n2 (by grind [TSt.p1])<|by grind [TSt.p1], .inr ⟨b2,m2,by rw[be];simp,b9⟩,by simp[w.n1],by simp[w.n2],(by grind [TSt.hP]),W.p1,W.p2⟩;have ax:=F9.keep _ _ (n2 (by simp)<|by simp) a0;have a5:=F9.keep _ _ (by grind) a4;simp only[qz 20,↓uL];refine dT ?_ ?_;simp only[au,nr];simp[eL,lb,gz,dC,dK,bo];simp only[u0,u1,ax,X,iy,aj];refine A0 ax rfl (by simp) λbp aa aT=>?_;have E:∃al,box bp (3,v3)=V ⟨251,4,U,U,[[iv al,a1,D,iv ev]]⟩:=⟨_,aT⟩;obtain⟨al,E⟩:=E;simp only[qz 22,qy 24,aEa E rfl,aY,ck,↓uL];refine r9 (aa.kq a5) rfl rfl λb3 aw aU=>?_;rw[aEa aU rfl];refine⟨(((((N.trans O).trans F8).trans F9).trans aa).trans aw).mono λq o=>?_, .inr ⟨al,M,_,_,rfl,(S9.fx aa<|by simp).fx aw<|by simp⟩⟩;simp only[dW,cL,dF,cE] at o;rcases o with((o|o|o)|o)|o;grind [aA];exact .inr ((aQ q o).1.old N).no;grind [aA];grind;subst o;exact .inr (N5.old F4).no;have R:∀{x:Int} {K:AV->cC},aF n x->(∀p y,K p<|iv y)->rV (cz 1 A a1<|iv x) λp=>rV (vl J A p) (K p):=λ{x K} H hK=>(by obtain⟨m,rfl⟩:∃m:Nat,x=m:=⟨x.toNat,by have:=H.1;omega⟩;have hm:m<L H7:=(by have:=H.2;have:=w.n1;omega);exact(SlR.of w.g1).ix1 (i:=m) (c:=iv<|gd H7 m) (by grind [bT]) λp _=>hK p _);have T:∀{x:Int} {K:AV->cC},aF n x->(∀p t,P t->K p (sl ci t))->rV (cz 1 A D<|iv x) λp=>rV (vl J A p) (K p):=λ{x K} H hK=>(by obtain⟨m,rfl⟩:∃m:Nat,x=m:=⟨x.toNat,by have:=H.1;omega⟩;have hm:m<L J6:=(by have:=H.2;have:=w.n2;omega);exact(SlR.of w.g2).ix1 (i:=m) (c:=sl ci<|gd J6 m) (by rw[bj9,eC hm,bT hm];rfl)<|by grind [TSt.hP,ig]);rcases ho with h|h|h|h|h;(all_goals simp only[qz 77,h,bj5,boY,Int.reduceEq,u0,u1,d2,F,pz,X,aj,↓iC,↓iB,jM,kU,jt,tW,aPg,rr,ip,↓uL]);exact C _ _ _ [] ⟨_,_,rfl⟩ ba (by grind [a6z]);refine R (f _<|by simp[a6z,h]) λp y=>T (f _<|by simp[a6z,h]) λp t G=>C _ _ _ t ⟨_,_,rfl⟩ G (f _<|by simp[a6z,h]);intro x;refine R (f _<|by simp[a6z,h]) λp y=>?_;simp only[tW,aPg];rintro r ⟨u,M,rfl⟩;refine⟨by simp[lo,nA,eB,iR],?_⟩;simp only[oJ,pG,u0];exact T (f _<|by simp[a6z,h]) λp t G=>C _ _ _ t ⟨_,_,rfl⟩ G (f _<|by simp[a6z,h]);intro x;refine R (f _<|by simp[a6z,h]) λp y=>R (f _<|by simp[a6z,h]) λp y'=>?_;simp only[tW,aPg];rintro r ⟨u,M,rfl⟩;refine⟨by simp[lo,nA,eB,iR],?_⟩;simp only[oJ,pG,u0];refine T (f _<|by simp[a6z,h]) λp t G=>T (f _<|by simp[a6z,h]) λp t2 bm=>?_;simp only[alg,aPg];refine⟨by grind,?_⟩;rintro r ⟨t',o',rfl⟩;exact⟨by simp[lo,nA,eB,iR,sl],C _ _ _ (mP t t2) ⟨_,_,rfl⟩ (bc _ _ G bm)<|f _<|by simp[a6z,h]⟩;refine A0 F rfl (by simp) λs6 F6 b6=>?_;have aV:box s6 (3,v3)=V ⟨251,4,U,U,[[iv i.a,a1,D,iv ev]]⟩:=b6;simp only[qz 10,qy 12,aEa aV rfl,aY,↓uL];refine r9 (F6.kq c5) rfl rfl λs7 F7 b7=>?_;rw[aEa b7 rfl];refine⟨((N.trans F6).trans F7).mono λq o=>?_, .inr ⟨i.a,U,H7,J6,rfl,(w.fx F6<|by simp).fx F7<|by simp⟩⟩;simp only[dW,dF,cE] at o;rcases o with rfl|rfl;simp_all;exact .inr (N5.old F4).no)
def a7E:dO:=aR3
def a7m:eJ a7E:=aPL
def aTd:=@aPg
section
attribute[local irreducible] aX
def a9H:=I5 26 [(7,([6],[2,3,4]))]
def aVc a b c R:=(.mk _:NS a7E a9H Tryz.f235 [.u, .u] [a,b] c R).p
def bhd{c0:List AV}{b:List AV}{s0:ae}{R:be}(hs:L s0=4096)(l0:L c0=2)(l1:L b=4)(h:HB2 247 2 2 c0 251 4 3 b s0 λd e c=>aVc d e c R):EB 235 [.a c0, .a b] s0 R:=zB2 a9H a7m Tryz.func235 hs l0 l1 h
end
def aOo(Y:ae):AV->AV| .t vs=> .t (vs.map λx=>nrm<|eR Y x)|x=>nrm<|eR Y x
def aNW:AV->List Id| .t vs=>vs.flatMap eB|x=>eB x
def bcr{P:Program}{κ:vg}{w:World}{Y:ae}{β:Id->Nat}{v:Value}{x:AV}(s:Iy P κ w Y β)(h:ba κ w Y β v x):ba κ w (kills Y<|aNW x) β v (aOo Y x):=by cases x with|t vs=>(cases h with|t g h=>refine .t (by grind) λi v c f a=>?_;rw[bj9] at a;cases e:vs[i]? with|none=>simp_all|some y=>rw[e] at a;simp only[df,Option.some.injEq] at a;subst a;exact yo<|xK s (h i v y f e) λb d=>List.mem_flatMap.2 ⟨y,List.mem_of_getElem? e,d⟩)|_=>exact yo (xK s h λb d=>d)
def cZ.frz{P:Program}{G:I7}{fn:FuncId}{xs:List AV}{Y a:ae}{r:AV}(h:cZ P G fn xs Y r a):cZ P G fn xs Y (aOo a r) (kills a<|aNW r):=by refine⟨h.1,λκ w β c s g f=>(h.2 κ w β c s g f).mono ?_⟩;rintro e k ⟨v,d,rfl,i,b,j⟩;exact⟨v,d,rfl,bcr b i,(D1 _ b).2.1,j.trans (D1 _ b).1⟩
def aQR{P:Program}{G:I7}{fn:FuncId}{xs:List AV}{Y:ae}{R Q:be}(h:∃r a,R r a/\cZ P G fn xs Y r a)(d:∀r a,R r a->Q (aOo a r) (kills a<|aNW r)):∃r a,Q r a/\cZ P G fn xs Y r a:=by obtain⟨r,a,b,c⟩:=h;exact⟨_,_,d r a b,c.frz⟩
def a6r{Y:ae}{e:TypeId}{z:Nat}{a:AV}{bA:List (List AV)}(g:gp Y e z a bA):gK (gi Y a)= .l bA I I:=aOb g
def aQX{Y:ae}{e:TypeId}{z:Nat}{a:AV}{bA:List (List AV)}(g:gp Y e z a bA):iR a=aA a:=by rcases g with⟨_,rfl⟩|⟨b,m,rfl,_⟩<;>rfl
section
variable{Y:ae}{P:List Int->Prop}{n:Nat}{d:Nat}{K:be}
def ba0{i:aNZ}{q ev:Int}{a1 f:AV}{H7:List Int}{J6:List (List Int)}(o:L Y=4096)(S:TSt Y P n a1 f H7 J6)(l:1<=i.op/\i.op<=5)(p:n<=1000)(g:P [])(k:∀a b,P a->P b->P (mP a b))(j:∀a,P a->L a<=1000)(m:∀r e,aSq Y P n a1 f ev r e->K r e):cB 267 [.a i.c, .a [iv q,a1,f,iv ev]] Y d K:=by refine jH rfl (bdr o S l p g k j) ?_;intro r e h;exact⟨h.1.len,m r e h⟩
theorem alD{g ev:Int}{f x2:AV}{H7:List Int}{J6:List (List Int)}(m:L Y=4096)(i:SlR Y 1 f<|H7.map ci)(j:SlR Y 1 x2<|J6.map cl)(o:∀q∈aA f,q.1≠1/\q.1≠3)(p:L H7=n)(s:L J6=n)(w:n<=1000)(l:∀t∈J6,P t)(v:∀a,P a->L a<=1000)(k:∀a1 c b,TSt b P n a1 c H7 J6->Fx Y b []->(∀q∈aA a1++aA c,bK Y q)->K (.a [iv g,a1,c,iv ev]) b):cB 266 [.a [iv g,f,x2,iv ev]] Y d K:=by refine jH rfl (a6M m i j o (by omega) (by omega)<|by simp_all) ?_;rintro r b ⟨a1,c,rfl,g1,h,F,p1,u⟩;refine⟨F.len,k a1 c b ⟨g1,h,p,s,l,λq e=>(p1 q e).2,λq e=>(u q e).2⟩ F λq e=>?_⟩;grind
end
def Tn(l:List Int):Prop:=jC l/\∀x∈l,0<=x/\x<1000
theorem Tn.len{l:List Int}(h:Tn l):L l<=1000:=by have key:∀i,i<L l->(i:Int)<=gd l i:=(by intro i;induction i with|zero=>intro a;exact(h.2 _<|ig a).1|succ i c=>intro a;have:=c (by omega);have:=h.1 i a;omega);rcases oD (L l) with b|b;omega;have:=key (L l-1) (by omega);have:=(h.2 _<|ig (l:=l) (k:=L l-1)<|by omega).2;omega
theorem Tn.nil:Tn []:=⟨λi a=>by simp at a,by simp⟩
theorem Tn.one{x:Int}(h:0<=x/\x<1000):Tn [x]:=⟨λi a=>by simp at a,by simpa using h⟩
theorem Tn.put{l:List Int}{x:Int}(h:Tn l)(b:0<=x/\x<1000):Tn (fk l x):=⟨Nz h.1,λy a=>(an1 a).elim (by omega)<|h.2 y⟩
def Tn.fold:∀(a:List Int) {l:List Int},Tn l->(∀x∈a,0<=x/\x<1000)->Tn (a.foldl fk l)|[],_,h,_=>h|x::a,_,h,b=>Tn.fold a (h.put<|b x<|by simp) (by simp_all)
def Tn.un(a b:List Int)(c:Tn a)(e:Tn b):Tn (mP a b):=by simp only[mP,jh,gV];exact Tn.fold b (Tn.fold a Tn.nil c.2) e.2
def ts0:aNQ:=⟨0,[],[],0⟩
def aQG(s s':aNQ):Prop:=(∀t∈s'.J6,Tn t)/\L s'.H7<=1000/\L s'.J6<=1000/\(s'.ac=s.ac\/s'.ac=0)
def bdq{Y:ae}{c:aTo}{s:aNQ}{x1 x2:AV}(hl:L Y=4096)(a7:SlR Y 1 x1<|s.H7.map ci)(a8:SlR Y 1 x2<|s.J6.map cl)(hp:∀q∈aA x1,q.1≠1/\q.1≠3)(p1:c.H7<=1000)(p2:L c.bid<1000000)(p3:L s.H7<1000000)(p4:L s.J6<1000000)(p5:∀t∈s.J6,Tn t):
  ∃r Y1,((∃(j:Bool) (s':aNQ),r= .t [.a s'.c,bv j]/\aQG s s')/\Fx Y Y1 [])/\cZ aS GG 235 [.a c.c, .a [iv s.pc,x1,x2,iv s.ac]] Y r Y1:=by
 generalize hQ:(λ(r:AV) (y:ae)=>(∃(j:Bool) (s':aNQ),aOo y r= .t [.a s'.c,bv j]/\aQG s s')/\Fx Y (kills y<|aNW r) [])=Qq
 refine aQR (R:=Qq) ?_ (by grind)
 refine bhd hl rfl rfl λs4 v2 v3 K4 bG nf2 bI b1 b2=>?_
 have M:Fx Y s4 []:=K4.fx []
 have aw:=M.len.trans hl
 have H1:=a7.fx M (by simp)
 have H2:=a8.fx M (by simp)
 simp only[aVc]
 refine ic aw λv5 s5 z N5 c5=>?_
 have d1:=z.kq b1
 have d2:=z.kq b2
 have ax:=z.len.trans aw
 have E:∀{x:List AV} {y:AV},aN J (y::x)=V y:=λ{x y}=>by cases y<;>rfl
 have G:∀{a b c d:AV},aN (V 4) [a,b,c,d]=V (.a [a,b,c,d]):=rfl
 have w:Fx Y s5 []:=M.trans z
 have aC:∀{x:ae} {cs:List AV} {s':aNQ} {j:Bool},cs.map (lz x)=s'.c->aQG s s'->Fx Y x []->(∀q∈cs.flatMap iR,∀y,box Y q≠V y)->aNN Qq x [.a cs,bv j]:=λ{x cs s' j} e h F hn=>by
  show Qq (.t [.a cs,bv j]) x
  rw[<-hQ]
  have e1:aOo x (.t [.a cs,bv j])= .t [.a s'.c,bv j]:=by
   show AV.t [nrm<|eR x<|.a cs,bv j]=_
   have:nrm (eR x<|.a cs)= .a (cs.map<|lz x):=by simp only[eR,nrm,vA];rfl
   rw[this,e]
  refine⟨⟨j,s',e1,h⟩,(F.trans<|aOp _ _).mono λq o=> .inr<|hn q ?_⟩
  grind [aNW,eB,iR]
 have n5:∀y,box Y (4,v5)≠V y:=(N5.old M).no
 have g:∀{x:ae} (j:Bool),Fx Y x []->box x (4,v5)=V ⟨251,4,U,U,[aoB]⟩->sV (aK 4 x (.p (4,v5) 0 0)<|.a aoB) λy=>rV (vl (V 4) y<|.p (4,v5) 0 0) λt=>aNN Qq y [t,bv I]:=λ{x} j F hb=>by
  refine r9 hb rfl rfl λs6 D b6=>?_
  rw[aEa b6 rfl]
  exact aC (s':=ts0) rfl ⟨by simp[ts0],by simp[ts0],by simp[ts0], .inr rfl⟩ ((F.trans D).mono<|by simp_all) (by simp[iR])
 have X:fS s5 x1=V (iv<|L s.H7):=by rw[(H1.fx z<|by simp).ln,bJ]
 have aB:fS s5 x2=V (iv<|L s.J6):=by rw[(H2.fx z<|by simp).ln,bJ]
 rcases l:Q ((L s.H7:Int)≠c.H7) with _|_
 ·have q1:(L s.H7:Int)=c.H7:=by grind
  rcases C:Q ((L s.J6:Int)≠c.H7) with _|_
  ·have q2:(L s.J6:Int)=c.H7:=by grind
   simp only[qz 6,qy 8,u0,u1,d1,d2,pz,E,X,aB,aj,l,C,↓jA,↓iB,G,↓uL]
   refine alD (P:=Tn) (n:=L s.H7) ax (H1.fx z<|by simp) (H2.fx z<|by simp) hp rfl (by omega) (by omega) p5 (λa h=>h.len) λa1 T s6 S6 D N6=>?_
   simp only[qz 10,qy 12,↓uL]
   have aX:=D.kq d1
   have a0:=D.kq d2
   have aV:=D.kq c5
   refine r9 a0 rfl rfl λs7 N b7=>?_
   have aZ:=N.kq aX
   have aW:=N.kq aV
   have S7:=S6.fx N (by simp)
   have a5:=(N.len.trans D.len).trans ax
   refine yV (L c.bid+1) (λk _ x=>∃u H7 J6,Fx Y x []/\L x=4096/\box x (2,v2)=V ⟨247,2,U,U,[c.c]⟩/\box x (3,v3)=V ⟨251,4,U,U,[[iv u,a1,T,iv s.ac]]⟩/\box x (4,v5)=V ⟨251,4,U,U,[aoB]⟩/\TSt x Tn (L s.H7) a1 T H7 J6) ⟨_,_,_,((w.trans D).trans N).mono (by grind),a5,aZ,b7,aW,S7⟩ ?_
   rintro k _ x hk ⟨u,H7,J6,H,az,m1,Z,m3,S⟩
   have kk:∀{y:AV},Q ((k:Int)<=(L c.bid:Int))=U->k<L c.bid+1:=(by grind)
   rcases hx:Q ((k:Int)<=(L c.bid:Int)) with _|_
   ·simp only[qz 43,qy 14,qy 16,qy 34,au,aI,u0,u1,m1,Z,pz,E,aj,hx,↓iB,↓uL]
    exact g I H m3
   have bD:k<=L c.bid:=by grind
   rcases l:Q (u<0) with _|_
   ·rcases C:Q (u>=(L c.bid:Int)) with _|_
    ·have a3:aF (L c.bid) u:=by
      simp only[j5] at l C
      exact⟨by omega,by omega⟩
     simp only[qz 43,qy 14,qy 16,qy 34,au,aI,u0,u1,m1,Z,rk,pz,E,aj,hx,l,C,ixv,↓jA,↓iC,↓iB,↓uL]
     refine⟨a3,anu az λv7 s8 A N8 b8=>?_⟩
     have n1:=A.kq m1
     have n2:=A.kq Z
     have n3:=A.kq m3
     have S8:=S.fx A (by simp)
     have ay:=A.len.trans az
     generalize hI:gd c.bid u.toNat=i at b8⊢
     have ri:aN (V 6) i.c=V (.a i.c):=rfl
     rcases hs:(Q (1<=i.op)&&Q (i.op<=5)) with _|_
     ·simp only[qz 18,qy 20,qy 22,u0,u1,n2,b8,pz,G,aj,ar,aTd,rr,hs,↓iC,↓uL]
      refine r9 n3 rfl rfl λs9 B b9=>?_
      simp only[b9,aQd,qh,df,G,aY,↓uL]
      have m:=S8.fx B (by simp)
      exact aC (s':=⟨u,H7,J6,s.ac⟩) (by simp only[ji,mU,aQ5,aOb m.g1,aOb m.g2];rfl) ⟨m.hP,by have:=m.n1;simp only;omega,by have:=m.n2;simp only;omega, .inl rfl⟩ (((H.trans A).trans B).mono<|by grind) (λq o=>by
       have e9:([iv u,a1,T,iv s.ac]:List AV).flatMap iR=aA a1++aA T:=by simp only[Cz,RN,aQX m.g1,aQX m.g2];simp[iR]
       rw[e9] at o
       exact((N6 q o).old w).no)
     have a6:1<=i.op/\i.op<=5:=by grind
     rcases o:Q ((k:Int)=(L c.bid:Int)) with _|_
     ·simp only[qz 18,qy 20,qy 22,u0,u1,n1,n2,b8,pz,G,ri,aj,ar,aTd,rr,hs,o,↓iB,↓uL]
      refine ba0 ay S8 a6 (by omega) Tn.nil Tn.un (λa h=>h.len) λr s9 h9=>?_
      obtain⟨B,h9⟩:=h9
      have bH:∀{b:Id},b.1≠12->b.1≠31->b∉aA a1++aA T:=λl C o=>by
       rcases dF.1 o with h|h
       ·exact l (S.p1 _ h)
       ·exact C (S.p2 _ h)
      have o1:=B.keep _ _ (by grind) n1
      have o2:=B.keep _ _ (by grind) n2
      have o3:=B.keep _ _ (by grind) n3
      have W:=B.len.trans ay
      have O:Fx Y s9 []:=((H.trans A).trans B).mono λq o=> .inr ((N6 q<|by grind).old w).no
      rcases h9 with rfl|⟨ba,j,ap,ab,rfl,m⟩
      ·simp only[qz 24,qy 26,oJ,pG,aY,↓uL]
       refine anu W λbd bb f aO av=>?_
       have q1:=f.kq o1
       have q2:=f.kq o2
       have q3:=f.kq o3
       simp only[qz 28,qy 30,u0,u1,↓iC,↓uL]
       exact g I (O.trans f) q3
      ·simp only[qz 24,qy 26,oJ,pG,aY,↓uL]
       refine anu W λbd bb f aO av=>?_
       have q1:=f.kq o1
       have q2:=f.kq o2
       have q3:=f.kq o3
       have aQ:=m.fx f (by simp)
       cases j with
       |false=>
        simp only[qz 28,qy 30,u0,u1,↓iC,↓uL]
        exact g I (O.trans f) q3
       |true=>
        simp only[qz 28,qy 30,u0,u1,av,G,↓iB,↓uL]
        refine r9 q2 rfl rfl λbK v aU=>?_
        simp only[qz 32,au,u0,u1,↓uL]
        have bF:k≠L c.bid:=by grind
        exact dR (mk:=λ(_:Unit) i=>[iv i]) (s:=()) (s':=()) (λ_ _=>rfl) (by omega) (by omega) ⟨ba,ap,ab,((O.trans f).trans v).mono (by grind),(v.len.trans f.len).trans W,v.kq q1,aU,v.kq q3,aQ.fx v<|by simp⟩
     ·simp only[qz 18,qy 20,qy 22,u0,u1,n1,n2,b8,pz,G,aj,ar,aTd,rr,hs,o,↓iB,↓iC,↓uL]
      exact g I (H.trans A) n3
    ·simp only[qz 43,qy 14,qy 16,qy 34,au,aI,u0,u1,m1,Z,pz,E,aj,hx,l,C,↓jA,↓iC,wY,↓uL]
     exact g I H m3
   ·simp only[qz 43,qy 14,qy 16,qy 34,au,aI,u0,u1,m1,Z,pz,E,aj,hx,l,↓jN,aUw,↓iC,↓uL]
    exact g I H m3
  ·simp only[qz 6,qy 8,u0,u1,d1,d2,pz,E,X,aB,aj,l,C,↓jA,↓iC,wY,↓uL]
   exact g I w c5
 ·simp only[qz 6,qy 8,u0,u1,d1,d2,pz,E,X,aj,l,↓jN,aUw,↓iC,G,↓uL]
  exact g I w c5
def baY{Y:ae}{c:aTo}{s:aNQ}{b x2:AV}{d:Nat}{K:be}(g:L Y=4096)(e:SlR Y 1 b<|s.H7.map ci)(f:SlR Y 1 x2<|s.J6.map cl)(h:∀q∈aA b,q.1≠1/\q.1≠3)(p1:c.H7<=1000)(j:L c.bid<1000000)(k:L s.H7<1000000)(l:L s.J6<1000000)(m:∀t∈s.J6,Tn t)(o:∀(i:Bool) (s':aNQ) Y1,aQG s s'->Fx Y Y1 []->K (.t [.a s'.c,bv i]) Y1):cB 235 [.a c.c, .a [iv s.pc,b,x2,iv s.ac]] Y d K:=by refine jH rfl (bdq g e f h p1 j k l m) ?_;grind [Fx.len]
def aYd:dO:=a7E
def a7n:eJ aYd:=a7m
def bcx:=@aTd
section
attribute[local irreducible] aX
def aSz a b R:=(.mk _:NF<|zF GGV aYd atW Tryz.f234 [.u] [a] b<|QDb Tryz.f234 R).p
def bhg{c0:List AV}{s0:ae}{R:be}(hs:L s0=4096)(l0:L c0=7)(h:HB1 124 7 1 c0 s0 λc b=>aSz c b R):EB 234 [.a c0] s0 R:=aTc<|zB1 atW (aQ9 a7n) Tryz.func234 hs l0 h
end
section
variable{ks:List Nat}{l l':List Id}{Y Y' Y1:ae}
theorem aTi{e:TypeId}{z:Nat}{a:AV}{bA:List (List AV)}(g:gp Y e z a bA):∀q∈aA a,∃x,box Y q=V x:=by rcases g with⟨_,rfl⟩|⟨b,m,rfl,h⟩;simp[aA];grind [aA]
theorem aQu{e:TypeId}{z k:Nat}{a:AV}{bA:List (List AV)}(g:gp Y e z a bA)(h:k∈dK a):∃q∈aA a,q.1=k:=by rcases g with⟨_,rfl⟩|⟨b,m,rfl,_⟩;grind [k1l];grind [k1m,aA]
end
def baT{y ev:Int}{A x2:AV}{H7:List Int}{J6:List (List Int)}{Y:ae}{d:Nat}{K:be}(O:L Y=4096)(E:A=sl ci H7)(G:x2=sl cl J6)(B:L H7<=1000)(C:L J6<=1000)(D:∀t∈J6,L t<=1000)(l:List Id)(W:∀p∈l,∃e z a bA,gp Y e z a bA/\p∈aA a)(X:∀p∈l,p.1=12\/p.1=31)(M:∀a1 b Y',gp Y' 2 1 a1 (H7.map ci)->gp Y' 38 1 b (J6.map cl)->Kx [12,31] Y Y'->(∀{e z a bA},gp Y e z a bA->(∀q∈aA a,q∈l)->gp Y' e z a bA)->(∀q∈aA a1,q∉l/\q.1=12)->(∀q∈aA b,q∉l/\q.1=31)->K (.a [iv y,a1,b,iv ev]) Y'):cV 266 [.a [iv y,A,x2,iv ev]] Y d K:=by subst E G;have o:L (bim [12,31] l Y)=4096:=aOr.trans O;have T:∀{l':List Id} {q:Id},q.1=12\/q.1=31->q∈l'->okI [12,31] l' q:=λh H=>⟨by rcases h with h|h<;>simp[h],H⟩;have N:∀{e z a bA},gp Y e z a bA->(∀q∈aA a,q∈l)->gp (bim [12,31] l Y) e z a bA:=(by grind [a6y]);refine aQN rfl rfl l (λx j=>?_) ?_ (a6M o (.inl ⟨_,_,rfl⟩) (.inl ⟨_,_,rfl⟩) (by simp[aA,sl]) B C D) ?_;simp only[cE] at j;subst j;intro c g;simp only[eW,ql,bie] at g;rcases g with rfl|rfl|rfl|rfl;trivial;exact .inl (by simp[eN]);exact .inl (by simp[eN]);trivial;intro p s x j R;grind [aOV,aNO];rintro r Y1 ⟨a1,b,rfl,g1,m,F,p1,S⟩;have i:L Y1=L Y:=F.len.trans aOr;have v:∀q∈aA a1,okI [12,31] (l++(aA a1++aA b)) q:=(by grind);have w:∀q∈aA b,okI [12,31] (l++(aA a1++aA b)) q:=(by grind);have P:∀q∈l,∃x,box (bim [12,31] l Y) q=V x:=(by grind [aTi,aOV]);refine⟨i,l++(aA a1++aA b),λp s x j R=>?_,λc g=>?_,M a1 b _ (aRR i g1 v) (aRR i m w) Kx.mix (by grind [aRR,gp.fx]) (λq k=>⟨λu=>?_,(p1 q k).2⟩) λq k=>⟨λu=>?_,(S q k).2⟩⟩;grind [Fx.keep,aNO,aOV];simp only[eW,ql,bie] at g;rcases g with rfl|rfl|rfl|rfl;trivial;exact aQw g1 v;exact aQw m w;trivial;grind [bK.no];grind [bK.no]
def aTn{b:Id}{i j:Nat}:gz (.p b i j)=[b.1]:=rfl
def a6H{r:List (List AV)}{t o:Bool}:gz (.l r t o)=[]:=rfl
def bc7{α:Type}{f:α->List AV}{l:List α}:gz (sl f l)=[]:=rfl
def aWx{Y:ae}{ds:List Nat}{e:TypeId}{z:Nat}{a:AV}{bA:List (List AV)}(g:Gr Y ds e z a bA):gp Y e z a bA/\∀q∈aA a,q.1∈ds:=by rcases g with⟨b,c⟩|⟨d,v,b,c,h⟩;exact⟨.inl ⟨b,c⟩,by grind [aA]⟩;refine⟨.inr ⟨_,[],b,by simpa using h⟩,?_⟩;grind [aA]
def bnf{Y:ae}{x:Int}{o p r:TypeId}{z1 z2 z3 i j m:Nat}{a1 b c:AV}{w y z:List (List AV)}(g1:gp Y o z1 a1 w)(s:gp Y p z2 b y)(t:gp Y r z3 c z)(p1:∀q∈aA a1,q.1=i)(u:∀q∈aA b,q.1=j)(v:∀q∈aA c,q.1=m):∀k∈gz (.a [a1,iv x,b,c]),k=i\/k=j\/k=m:=λk g=>by
 have e:gz (.a [a1,iv x,b,c])=dK a1++(dK b++dK c):=by simp[gz,dC,dK]
 rw[e] at g
 simp only[dF] at g
 rcases g with h|h|h
 ·obtain⟨q,d,rfl⟩:=aQu g1 h;exact .inl<|p1 q d
 ·obtain⟨q,d,rfl⟩:=aQu s h;exact .inr<|.inl<|u q d
 ·obtain⟨q,d,rfl⟩:=aQu t h;exact .inr<|.inr<|v q d
def bjx{s:aW}{Y:ae}{d:Nat}{K:be}(z:L Y=4096)(i:L s.ak<100000/\L s.done<100000/\L s.ay<100000/\∀l∈s.ak,L l.bk<1000000)(E:∀a1 b e Y',Kx [10,14,41] Y Y'->gp Y' 184 2 a1 (s.ak.map cg.c)->gp Y' 4 1 b (s.done.map cb)->gp Y' 138 3 e (s.ay.map aoC.c)->(∀q∈aA a1,q.1=41)->(∀q∈aA b,q.1=10)->(∀q∈aA e,q.1=14)->K (.a [a1,iv s.tx,b,e]) Y'):cV 177 [.a s.c] Y d K:=by have m:L (bim [10,14,41] [] Y)=4096:=aOr.trans z;refine aQN rfl rfl [] (λx j=>?_) (by intro p i;simp at i) (aCH s m i) ?_;simp only[cE] at j;subst j;intro c g;simp only[aW.c,eW,ql,bie] at g;rcases g with rfl|rfl|rfl|rfl;exact .inl (by simp[eN]);trivial;exact .inl (by simp[eN]);exact .inl (by simp[eN]);rintro r Y1 ⟨⟨a1,b,e,rfl,g1,o,t⟩,F⟩;obtain⟨v,M⟩:=aWx g1;obtain⟨w,N⟩:=aWx o;obtain⟨y,O⟩:=aWx t;have k:L Y1=L Y:=F.1.trans aOr;have H:∀{q:Id},q.1=10\/q.1=14\/q.1=41->q∈aA a1++(aA b++aA e)->okI [10,14,41] (aA a1++(aA b++aA e)) q:=λh u=>⟨by rcases h with h|h|h<;>simp[h],u⟩;have A:∀q∈aA a1,okI [10,14,41] (aA a1++(aA b++aA e)) q:=(by grind);have B:∀q∈aA b,okI [10,14,41] (aA a1++(aA b++aA e)) q:=(by grind);have C:∀q∈aA e,okI [10,14,41] (aA a1++(aA b++aA e)) q:=(by grind);refine⟨k,aA a1++(aA b++aA e),λp D x j G=>?_,λc g=>?_,by grind [Kx.mix,aRR]⟩;grind [aNO];simp only[eW,ql,bie] at g;rcases g with rfl|rfl|rfl|rfl;exact aQw v A;trivial;exact aQw w B;exact aQw y C
def baS{s:aW}{Y:ae}{d:Nat}{K:be}(m:L Y=4096)(o:L s.ak<100000/\L s.done<100000/\L s.ay<100000/\∀l∈s.ak,L l.bk<1000000)(i:∀a1 b e Y',Kx [10,14,41] Y Y'->(∀k∈gz (.a [a1,iv s.tx,b,e]),k=10\/k=14\/k=41)->K (.a [a1,iv s.tx,b,e]) Y'):cV 177 [.a s.c] Y d K:=bjx m o λa1 b e Y' iq g1 g h p1 p q=>i a1 b e Y' iq λk j=>by have:=bnf g1 g h p1 p q k j;omega
def alx(f:Nat->AV×AV)(ss:List aNQ)(n:Nat):List (List AV):=(aH n).map λk=>[iv (gd ss k).pc,(f k).1,(f k).2,iv (gd ss k).ac]
def G2(vr:Bool)(Y:ae)(a:AV)(t:List<|List Int):Prop:=bif vr then t=er (L t) []/\∃b,a= .m b (L t)/\box Y b=V ⟨38,1,U,U,er (L t) [.l [] U U]⟩ else gp Y 38 1 a (t.map cl)
theorem G2.fx{vr:Bool}{Y Y':ae}{a:AV}{t:List (List Int)}{Lw:List Id}(g:G2 vr Y a t)(F:Fx Y Y' Lw)(h:∀q∈aA a,q∉Lw):G2 vr Y' a t:=by cases vr with|false=>exact gp.fx g F h|true=>obtain⟨c,b,rfl,d⟩:=g;exact⟨c,b,rfl,F.keep _ _ (h b<|by simp[aA]) d⟩
def aWh{Y:ae}{e:TypeId}{z:Nat}{a:AV}{bA:List (List AV)}(g:gp Y e z a bA):rS Y a= .l bA I I:=by rcases g with⟨rfl,rfl⟩|⟨b,m,rfl,c⟩;rfl;simp[rS,aOn,c,gK]
theorem G2.fr{vr:Bool}{Y:ae}{a:AV}{t:List (List Int)}(g:G2 vr Y a t):rS Y a=sl cl t:=by cases vr with|false=>exact aWh g|true=>obtain⟨i,b,rfl,e⟩:=g;have d:(((er (L t) [AV.l [] U U]).take<|L t).all λr=>r.all λc=>eN<|frM Y c)=U:=(by rw[dV];intro r h;rw[(List.mem_replicate.1<|List.mem_of_mem_take h).2];rfl);simp only[rS,aOn,e,d,aNV,gK];grind [sl,List.map_replicate,frM,gi,gK,cl]
structure TTs(pl:Nat×Nat×Nat)(vr:Bool)(Y:ae)(a:AV)(f:Nat->AV×AV)(ss:List aNQ)(n:Nat):Prop where
 bx:(n=0/\a= .l [] U U)\/∃b,a= .m b n/\b.1=pl.2.2/\box Y b=V ⟨251,4,U,U,alx f ss n⟩
 g1:∀k,k<n->gp Y 2 1 (f k).1 ((gd ss k).H7.map ci)
 g2:∀k,k<n->G2 vr Y (f k).2 (gd ss k).J6
 p1:∀k,k<n->∀q∈aA (f k).1,q.1=pl.1
 p2:∀k,k<n->∀q∈aA (f k).2,q.1=pl.2.1
 d1:∀i j,i<n->j<n->i≠j->∀q∈aA (f i).1,q∉aA (f j).1
 d2:∀i j,i<n->j<n->i≠j->∀q∈aA (f i).2,q∉aA (f j).2
theorem aQ8{f:Nat->AV×AV}{ss:List aNQ}{n:Nat}:L (alx f ss n)=n:=by simp[alx]
def aTy{f:Nat->AV×AV}{ss:List aNQ}{n k:Nat}(h:k<n):(alx f ss n)[k]?=V [iv (gd ss k).pc,(f k).1,(f k).2,iv (gd ss k).ac]:=by simp[alx,bj9,List.getElem?_range h]
def ext(f:Nat->AV×AV)(n:Nat)(x:AV×AV):Nat->AV×AV:=λk=>if k=n then x else f k
theorem be5{f:Nat->AV×AV}{ss:List aNQ}{n:Nat}{x:AV×AV}:alx (ext f n x) ss (n+1)=alx f ss n++[[iv (gd ss n).pc,x.1,x.2,iv (gd ss n).ac]]:=by simp only[alx,qn,dg,ji,mU,ext,aNV];grind [List.map_congr_left]
section
variable{pl:Nat×Nat×Nat}{vr:Bool}{Y Y':ae}{a:AV}{f:Nat->AV×AV}{ss:List aNQ}{n:Nat}
def aPi(f:Nat->AV×AV)(n:Nat):List Id:=(aH n).flatMap λk=>aA (f k).1++aA (f k).2
theorem aXS{q:Id}(h:q∈aPi f n):∃k,k<n/\(q∈aA (f k).1\/q∈aA (f k).2):=by grind [aPi]
theorem aWy{k:Nat}(b:k<n):∀q∈aA (f k).1,q∈aPi f n:=(by grind [aPi])
theorem aWz{k:Nat}(b:k<n):∀q∈aA (f k).2,q∈aPi f n:=(by grind [aPi])
theorem TTs.fx(T:TTs pl vr Y a f ss n){Lw:List Id}(F:Fx Y Y' Lw)(d:∀q∈Lw,q.1≠pl.1/\q.1≠pl.2.1/\q.1≠pl.2.2):TTs pl vr Y' a f ss n:=⟨(by grind [TTs.bx,Fx.keep]),λk b=>(T.g1 k b).fx F λq c h=>(d q h).1<|T.p1 k b q c,λk b=>(T.g2 k b).fx F λq c h=>(by grind [TTs.p2]),T.p1,T.p2,T.d1,T.d2⟩
theorem TTs.ids(T:TTs pl vr Y a f ss n):∀q∈aA a,q.1=pl.2.2:=by rcases T.bx with⟨_,rfl⟩|⟨b,rfl,h,_⟩;simp[aA];grind [aA]
theorem TTs.ce(T:TTs pl vr Y a f ss n):eY a=V [a]:=by rcases T.bx with⟨_,rfl⟩|⟨b,rfl,h,_⟩<;>rfl
theorem a7Q{r ev:Int}{p x2:AV}{o d by':Nat}{zs z0:List AV}{K:AV->be}(T:TTs pl vr Y a f ss n)(hz:L zs=4)(A:L z0=4)(G:o<L Y)(O:d=pl.2.2)(al:d<L Y)(h3:pl.2.2≠pl.1/\pl.2.2≠pl.2.1)(hb:(n+1)*(by'+1)<=1099511627776)(R:r=(gd ss n).pc)(P:ev=(gd ss n).ac)(g1:gp Y 2 1 p<|(gd ss n).H7.map ci)(Z:G2 vr Y x2 (gd ss n).J6)(p1:∀q∈aA p,q∉aPi f n/\q.1=pl.1)(D:∀q∈aA x2,q∉aPi f n/\q.1=pl.2.1)(hK:∀y M Y',(∃v,y= .m (o,v) 1)->TTs pl vr Y' M (ext f n (p,x2)) ss (n+1)->Fx Y Y' (aA a)->(∀q∈aA M,∀x,box Y q≠V x)->K y M Y'):eV (lvS 251 zs 1 Y o [(0, .a [iv r,p,x2,iv ev])]) λy s=>eV (avA 251 z0 by' s d a y) (K y):=by subst R P;have h1:lvS 251 zs 1 Y o [(0, .a [iv (gd ss n).pc,p,x2,iv (gd ss n).ac])]=V (.m (zt Y o) 1,put Y o ⟨251,L zs,U,U,[[iv (gd ss n).pc,p,x2,iv (gd ss n).ac]]⟩):=(by grind [lvS,eY,aRI]);rw[h1];show eV (avA 251 z0 by' (put Y o _) d a<|.m (zt Y o) 1)<|K<|.m (zt Y o) 1;have u:Fx Y (put Y o ⟨251,L zs,U,U,[[iv (gd ss n).pc,p,x2,iv (gd ss n).ac]]⟩) []:=kH G;have N:=be7 (x:=(⟨251,L zs,U,U,[[iv (gd ss n).pc,p,x2,iv (gd ss n).ac]]⟩:bY)) G;generalize put Y o ⟨251,L zs,U,U,[[iv (gd ss n).pc,p,x2,iv (gd ss n).ac]]⟩=B at*;have X:=T.fx u (by simp);have am:=u.len;have S:aEx U B (.m (zt Y o) 1)=V [[iv (gd ss n).pc,p,x2,iv (gd ss n).ac]]:=(by simp[aEx,N]);have mk:∀(C:ae) (b:Id),b.1=pl.2.2->(∀x,box Y b≠V x)->Fx Y C (aA a)->box C b=V ⟨251,4,U,U,alx f ss n++[[iv (gd ss n).pc,p,x2,iv (gd ss n).ac]]⟩->K (.m (zt Y o) 1) (.m b<|n+1) C:=λC b ak hn F W=>(by have H:∀q∈aA a,q.1≠pl.1/\q.1≠pl.2.1:=λq g=>(by grind [TTs.ids]);refine hK _ _ C ⟨_,rfl⟩ ⟨(by grind [be5]),λk z=>?_,λk z=>?_,λk z=>?_,λk z=>?_,λi j hi hj t=>?_,λi j hi hj t=>?_⟩ F λq g=>?_;by_cases e:k=n;subst e;simp only[ext,aNV];grind [gp.fx];simp only[ext,dB e];exact(T.g1 k<|by omega).fx F λq g h=>(H q h).1 (T.p1 k (by omega) q g);by_cases e:k=n;subst e;simp only[ext,aNV];grind [G2.fx];simp only[ext,dB e];exact(T.g2 k<|by omega).fx F λq g h=>(H q h).2 (T.p2 k (by omega) q g);by_cases e:k=n;subst e;simp only[ext,aNV];grind;simp only[ext,dB e];exact T.p1 k (by omega);by_cases e:k=n;subst e;simp only[ext,aNV];grind;simp only[ext,dB e];exact T.p2 k (by omega);intro q g c;by_cases e:i=n;subst e;simp only[ext,aNV,dB<|Sa t] at g c;exact(p1 q g).1 (aWy (by omega) q c);by_cases w:j=n;subst w;simp only[ext,aNV,dB e] at g c;exact(p1 q c).1 (aWy (by omega) q g);simp only[ext,dB e,dB w] at g c;exact T.d1 i j (by omega) (by omega) t q g c;intro q g c;by_cases e:i=n;subst e;simp only[ext,aNV,dB<|Sa t] at g c;exact(D q g).1 (aWz (by omega) q c);by_cases w:j=n;subst w;simp only[ext,aNV,dB e] at g c;exact(D q c).1 (aWz (by omega) q g);simp only[ext,dB e,dB w] at g c;exact T.d2 i j (by omega) (by omega) t q g c;grind [aA]);unfold avA;rw[S];simp only[bZ,aO1];rw[dB (by decide),f8 ⟨by omega,by simp[aRI];omega,by simp[A]⟩];rcases X.bx with⟨h0,rfl⟩|⟨b,rfl,ah,E⟩;subst h0;simp only;rw[f8 ⟨by simp,by grind [lx]⟩];refine mk _ (zt B d) O (λx W=>(qQ B d).no x<|u.kq W) ((u.trans<|kH<|by omega).mono<|by simp) ?_;rw[<-A];exact be7 (by omega);simp only[E];rw[f8 ⟨trivial,trivial,A.symm,by simp[aQ8],by grind [lx]⟩];have z:d<L (kill B b):=(by rw[yg];omega);refine mk _ (zt B d) O (by grind [bK.no,qQ,Fx.keep]) (((u.trans<|Le E).trans<|kH z).mono<|by simp[aA]) ?_;grind [anF,aQ8,be7]
end
def TTs.fz{pl:Nat×Nat×Nat}{vr:Bool}{Y:ae}{a:AV}{f:Nat->AV×AV}{ss:List aNQ}(T:TTs pl vr Y a f ss<|L ss):fz Y a=sl aNQ.c ss:=by rcases T.bx with⟨m,rfl⟩|⟨b,rfl,_,p⟩;have:=List.length_eq_zero_iff.1 m;subst this;rfl;have h:(alx f ss<|L ss).map (·.map (rS Y))=ss.map aNQ.c:=(by refine aqI λk=>?_;rcases jj k (L ss) with d|d;rw[bj9,aTy d,bj9,eC d];have i:=aWh<|T.g1 k d;have j:=(T.g2 k d).fr;simp only[df,ji,mU,i,j,bT d];rfl;grind [aQ8]);have e:(alx f ss<|L ss).take (L ss)=alx f ss (L ss):=(by grind [aQ8]);have o:((alx f ss<|L ss).all λr=>r.all λc=>eN<|rS Y c)=U:=(by rw[dV];intro r q;rw[dV];intro c t;have g:=CA (f:=(·.map (rS Y))) q;rw[h] at g;obtain⟨s,_,hs⟩:=dN.1 g;grind [CA,aNQ.c,eN,sl]);simp only[Ab.fz,dQ,p,e,o,aNV,h];rw[dB<|by decide];rfl
theorem Kx.fx{ks:List Nat}{Y Y' b:ae}{Lw:List Id}(k:Kx ks Y Y')(F:Fx Y' b Lw)(h:∀q∈Lw,q.1∈ks\/∀x,box Y q≠V x):Kx ks Y b:=⟨F.len.trans k.len,by grind [Fx.keep,Kx.keep]⟩
theorem Kx.kx{ks ks':List Nat}{Y Y' b:ae}(k:Kx ks Y Y')(c:Kx ks' Y' b)(h:∀n∈ks',n∈ks):Kx ks Y b:=⟨c.len.trans k.len,by grind [Kx.keep]⟩
theorem Kx.no{ks:List Nat}{Y Y':ae}{b:Id}(k:Kx ks Y Y')(c:b.1∉ks)(h:∀x,box Y' b≠V x):∀x,box Y b≠V x:=(by grind [Kx.keep])
def a79(Y:ae)(s:atC)(r:AV)(Y1:ae):Prop:=∃a1 d e c b a f,r= .a [a1,iv s.bW.tx,d,e,c,b,a]/\(∀k∈gz (.a [a1,iv s.bW.tx,d,e]),k=10\/k=14\/k=41)/\gp Y1 2 1 c (s.cells.map ci)/\gp Y1 2 1 b (s.bU.map ci)/\TTs (12,31,33) I Y1 a f s.ay (L s.ay)/\Kx [10,12,14,31,41] Y Y1/\(∀q∈aA c,q.1=11/\∀x,box Y q≠V x)/\(∀q∈aA b,q.1=15/\∀x,box Y q≠V x)/\∀q∈aA a,∀x,box Y q≠V x
def bds{s:atC}{Y:ae}(hl:L Y=4096)(h1:L s.bW.ak<100000/\L s.bW.done<100000/\L s.bW.ay<100000/\∀l∈s.bW.ak,L l.bk<1000000)(h2:L s.cells<=1000)(K:L s.bU<=1000)(h4:L s.ay<=1000)(h5:∀t∈s.ay,L t.H7<=1000/\L t.J6<=1000/\∀x∈t.J6,L x<=1000):∃r Y1,a79 Y s r Y1/\cZ aS GG 234 [.a s.c] Y r Y1:=by refine bhg hl rfl λs2 v1 K2 cc nf b1=>?_;have F2:Fx Y s2 []:=K2.fx [];have ah:=F2.len.trans hl;simp only[aSz];refine ic ah λv2 s3 F3 N3 b3=>?_;have c1:=F3.kq b1;have al:=F3.len.trans ah;have k1:∀{x:List AV} {y:AV},aN J (y::x)=V y:=λ{x y}=>(by cases y<;>rfl);have k7:=@r7A;simp only[qz 4,qy 6,u0,u1,c1,pz,aj,↓uL];refine baS al h1 λa1 D E s8 W bg=>?_;have bj:=W.len.trans al;have af:=W.kq c1;have a0:=W.kq b3;simp only[nS,bQ,qz 8,qy 10,u0,u1,af,pz,aj,↓uL];refine apV (bA:=[]) (e:=2) (z:=1) (new:=s.cells.map ci) (.inl ⟨rfl,rfl⟩) rfl rfl (by decide) (by omega) (by simp) fF (by simp;omega) λB s9 X F9 P9=>?_;simp only[dW] at X;have A:Fx s8 s9 []:=F9.mono (by simp[aA]);have ab:∀q∈aA B,bK s8 q/\q.1=11:=(by grind [aA]);have bl:=A.len.trans bj;have ag:=A.kq af;have a6:=A.kq a0;simp only[qz 12,u0,u1,ag,pz,aj,↓uL];refine apV (bA:=[]) (e:=2) (z:=1) (new:=s.bU.map ci) (.inl ⟨rfl,rfl⟩) rfl rfl (by decide) (by omega) (by simp) fF (by simp;omega) λC ap Z aP cb=>?_;simp only[dW] at Z;have o:Fx s9 ap []:=aP.mono (by simp[aA]);have F:∀q∈aA C,bK s9 q/\q.1=15:=(by grind [aA]);have M:=o.len.trans bl;have aC:=o.kq ag;have az:=o.kq a6;have a8:=X.fx o (by simp);have be:bM aOO anY [(0, .a [a1,iv s.bW.tx,D,E]),(1,B),(2,C)]=V (.a [a1,iv s.bW.tx,D,E,B,C, .l [] U U]):=(by rcases X with⟨_,rfl⟩|⟨q4,m4,rfl,_⟩<;>rcases Z with⟨_,rfl⟩|⟨q5,m5,rfl,_⟩<;>rfl);simp only[qz 14,qy 16,be,aY];refine ic M λv3 b7 aq aR ax=>?_;refine r9 ax rfl rfl λbq ar aW=>?_;have w:Fx ap bq []:=(aq.trans ar).mono (by grind [bK.no]);have aD:=w.kq aC;have aB:=w.kq az;have aE:=a8.fx w (by simp);have aF:=Z.fx w (by simp);have aK:=w.len.trans M;have X3:Kx [10,12,14,31,41] Y s3:=((F2.trans F3).kx<|by simp);have H:=X3.kx W (by simp);have ad:=(H.fx A<|by simp).fx o (by simp);have aU:=ad.fx w (by simp);have an:∀{q:Id},q∈aA B->q.1=11/\∀x,box Y q≠V x:=λ{q} d=>⟨(ab q d).2,H.no (by grind) (ab q d).1.no⟩;have ao:∀{q:Id},q∈aA C->q.1=15/\∀x,box Y q≠V x:=λ{q} d=>⟨(F q d).2,(H.fx A<|by simp).no (by grind) (F q d).1.no⟩;have cf:∀x,box Y (3,v3)≠V x:=ad.no (by simp) aR.no;have cd:∀x,box Y (2,v2)≠V x:=(F2.kx (ks:=[])<|by simp).no (by simp) N3.no;simp only[qz 18];refine dT ?_ ?_;have h4:3∉gz B:=λh=>(by rcases SlR.keys (P:=λp=>p=11) (.of X) (by grind) with e|⟨p,e,e'⟩<;>rw[e] at h<;>simp at h;omega);have h5:3∉gz C:=λh=>(by rcases SlR.keys (P:=λp=>p=15) (.of Z) (by grind) with e|⟨p,e,e'⟩<;>rw[e] at h<;>simp at h;omega);have h0:3∉gz (.a [a1,iv s.bW.tx,D,E]):=(by grind);generalize AV.a [a1,iv s.bW.tx,D,E]=b0 at h0⊢;simp[eL,lb,Cz,aTn,a6H,bc7];grind;refine yV (L s.ay) (λk _ x=>∃a f,L x=4096/\box x (1,v1)=V ⟨124,7,U,U,[s.c]⟩/\box x (2,v2)=V ⟨124,7,U,U,[aOO]⟩/\box x (3,v3)=V ⟨124,7,U,U,[[a1,iv s.bW.tx,D,E,B,C,a]]⟩/\gp x 2 1 B (s.cells.map ci)/\gp x 2 1 C (s.bU.map ci)/\TTs (12,31,33) I x a f s.ay k/\Kx [10,12,14,31,41] Y x/\∀q∈aA a,∀y,box Y q≠V y) ⟨.l [] U U,λ_=>(.u, .u),aK,aD,aB,aW,aE,aF,⟨.inl ⟨rfl,rfl⟩,by simp,by simp,by simp,by simp,by simp,by simp⟩,aU,by simp[aA]⟩ ?_;rintro k _ x hk ⟨a,f,am,m1,m2,m3,ga,gb,T,iq,na⟩;simp only[qz 25,qy 28,au,aI,u0,u1,m1,m3,rk,pz,k1,k7,aj,ixv,bh,↓uL];refine⟨λh=>?_,λh=>?_⟩;have N:=aL h;refine⟨dJ N,?_⟩;obtain⟨q1,q2,q3⟩:=h5 _<|ig N;show cV 266 [.a [iv (gd s.ay k).pc,sl ci (gd s.ay k).H7,sl cl (gd s.ay k).J6,iv (gd s.ay k).ac]] _ _ _;refine baT am rfl rfl q1 q2 q3 (aPi f k) (λp hp=>?_) (λp hp=>?_) λS x2 y G1 aa Y R P1 P2=>?_;obtain⟨j,m,h|h⟩:=aXS hp;exact⟨_,_,_,_,T.g1 j m,h⟩;exact⟨_,_,_,_,T.g2 j m,h⟩;obtain⟨j,m,h|h⟩:=aXS hp;exact .inl<|T.p1 j m p h;exact .inr<|T.p2 j m p h;have Ty:TTs (12,31,33) I y a f s.ay k:=⟨T.bx.elim .inl λ⟨b,h1,h2,K⟩=> .inr ⟨b,h1,h2,Y.keep _ _ (by simp[h2]) K⟩,λj m=>R (T.g1 j m)<|aWy m,λj m=>R (T.g2 j m)<|aWz m,T.p1,T.p2,T.d1,T.d2⟩;have bm:=Y.len.trans am;have o1:=Y.kq m1;have o2:=Y.kq m2;have o3:=Y.kq m3;have ba:=Y.gr ga λq d=>(by simp[(an d).1]);have bc:=Y.gr gb λq d=>(by simp[(ao d).1]);have Xy:=iq.kx Y (by simp);simp only[qz 20,qy 22];refine a7Q Ty rfl rfl (by omega) rfl (by omega) (by decide) (by omega) rfl rfl G1 aa P1 P2 λz a' br hz G g aT=>?_;obtain⟨vz,rfl⟩:=hz;have bY:∀q∈aA a,q.1=33:=T.ids;have o4:=g.keep _ _ (by grind) o3;simp only[qz 24,u0,u1,o4,aj,↓uL];refine A0 o4 G.ce (by simp) λcg v aZ=>?_;simp only[qz 26,↓uL];refine dT ?_ ?_;have hx:∀j∈gz (.a [iv (gd s.ay k).pc,S,x2,iv (gd s.ay k).ac]),j=12\/j=31:=λj m=>(by have e:gz (.a [iv (gd s.ay k).pc,S,x2,iv (gd s.ay k).ac])=dK S++dK x2:=(by simp[gz,dC,dK]);rw[e] at m;rcases dF.1 m with h|h;obtain⟨q,d,rfl⟩:=aQu G1 h;grind;obtain⟨q,d,rfl⟩:=aQu aa h;grind);have K:3∉gz (.a [iv (gd s.ay k).pc,S,x2,iv (gd s.ay k).ac]):=(by grind);generalize AV.a [iv (gd s.ay k).pc,S,x2,iv (gd s.ay k).ac]=b0 at K⊢;simp[eL,lb,Cz,aTn,K];simp only[au,u0,u1];have O:∀{b:Id},b.1≠33->b∉aA a:=(by grind);refine dR (mk:=λ(_:Unit) i=>[iv i]) (s:=()) (s':=()) (λ_ _=>rfl) N (by omega) ⟨a',_,(v.len.trans g.len).trans bm,v.kq<|g.keep _ _ (O<|by simp) o1,v.kq<|g.keep _ _ (O<|by simp) o2,aZ,(ba.fx g<|by grind).fx v λq d e=>?_,(bc.fx g<|by grind).fx v λq d e=>?_,G.fx v (by simp),(Xy.fx g<|by grind).fx v λq d=> .inr (by simp at d;grind),λq d=>Xy.no (by rw[G.ids q d];decide)<|aT q d⟩;simp at e;grind;simp at e;grind;have bf:k=L s.ay:=(by grind);subst bf;refine r9 m2 rfl rfl λbr g aX=>?_;simp only[aX,aQd,qh,df,k7,aY];refine⟨a1,D,E,B,C,a,f,rfl,bg,ga.fx g λq d e=>?_,gb.fx g λq d e=>?_,T.fx g (by simp),(by grind [Kx.fx]),λq d=>an d,λq d=>ao d,na⟩;grind;grind
def a7F:dO:=aYd
def aX6:eJ a7F:=a7n
def aWl:=@bcx
section
attribute[local irreducible] aX
def a9M:=I5 14 [(6,([5],[2,3]))]
def a38 a b c R:=(.mk _:NR a7F a9M Tryz.f263 [.u, .u] [a,b] c R).p
def bhl{c0:List AV}{b:List AV}{R:cC}(l0:L c0=7)(l1:L b=7)(h:H2 129 7 2 c0 124 7 3 b λia c d=>a38 ia c d R):Ct 263 [.a c0, .a b] R:=z2 a9M aX6 Tryz.func263 l0 l1 h
def a9L:=I5 24 [(7,([4],[1,2,3])),(13,([5],[1,2,3])),(19,([6],[1,2,3]))]
def a3D a b R:=(.mk _:NR a7F a9L Tryz.f121 [.u] [a] b R).p
def bhj{c0:List AV}{R:cC}(l0:L c0=7)(h:H1 129 7 1 c0 λia b=>a3D ia b R):Ct 121 [.a c0] R:=z1 a9L aX6 Tryz.func121 l0 h
end
def aYu(c:aTo)(s:aNQ):Prop:=aF (L c.bid) s.pc/\(L s.H7:Int)=c.H7/\(L s.J6:Int)=c.H7
def aSm(c:aBY)(s:atC):Prop:=aPU c/\lh c.aQ s.bW=U/\L s.cells=L c.aQ.cells/\L s.bU=L c.aQ.bU/\L s.ay=L c.ay/\∀k,k<L c.ay->aYu (gd c.ay k) (gd s.ay k)
def aP4{w:J9}(h:mQ w=U):L w.cells<=12/\L w.ak<=4/\L w.bC<=2/\L w.bU<=2/\L w.ay<=4/\L w.dU<=60:=by grind [mQ,wJ]
def aXu(c:aBY)(s:atC)(E:aOc c/\L c.aQ.bC<4611686018427387904):Ct 263 [.a c.c, .a s.c] (λr=>∃b,r=bv b/\(b=U->aSm c s)):=by obtain⟨m,n⟩:=E;refine bhl rfl rfl λK D f g O=>?_;simp+contextual only[a38,u0,u1,f,g,pz,aj,ar,Fa,aWl,rr,aTv,aPA,eE,aPy,wl,m,n,↓uL];intro b B h;simp only[cP,fK,j5,aNS,Int.ofNat_inj,brW] at h;obtain⟨⟨⟨⟨g1,w⟩,y⟩,z⟩,A⟩:=h;have o:=B g1;have M:L c.ay<1000:=m.1;refine yV (L c.ay) (λk _ x=>Fx K x []/\∀j,j<k->aYu (gd c.ay j) (gd s.ay j)) ⟨Fx.refl _ _,by simp⟩ ?_;rintro k _ x P ⟨F,hI⟩;have l:=F.kq f;have t:=F.kq g;have p:=F.len.trans D;simp only[qz 37,qy 6,aI,au,u0,u1,l,t,rk,pz,aj,ixv,bh,aPA,↓uL];refine⟨λh=>?_,λh _=>⟨o,w,y,z,A,λj C=>hI j<|Nat.lt_of_lt_of_le C<|bw h⟩⟩;have d:=aL h;refine⟨dJ (by omega),anu p λv x2 e N q=>?_⟩;have u:=e.kq l;simp+contextual only[qz 8,au,u0,u1,u,q,rk,pz,ixv,aj,bh,dJ d,aPA,eE,aPy,wl,ip,↓uL];intro h;simp only[cP,j5,aNS,brW] at h;obtain⟨⟨⟨R,S⟩,G⟩,H⟩:=h;exact dR (mk:=λ(_:Unit) i=>[iv i]) (s:=()) (s':=()) (λ_ _=>rfl) d (by omega) ⟨F.trans e,a6p hI ⟨⟨by omega,by omega⟩,G,H⟩⟩
def aUl:FT:=pn aXu
def bcc{c s Lw K}:=f211 aUl aXu c s Lw K (j:=by simp+contextual only[ij,ijv])
def ThB(k:Nat)(s:aNQ):Prop:=L s.H7<=1000/\L s.J6<=1000/\(∀t∈s.J6,Tn t)/\0<=s.ac/\s.ac<=k
def a68{α:Type}{n:Nat}{x y:α}(h:y∈er n x):y=x:=(by simp_all)
structure StB(k:Nat)(s:atC):Prop where
 sy:jX k s.bW
 ce:L s.cells<=12
 fu:L s.bU<=2
 tl:L s.ay<=4
 th:∀t∈s.ay,ThB k t
structure SJ(x:ae)(v2:Nat)(c:aBY)(a1 a2 a3:AV):Prop where
 hl:L x=4096
 b1:box x (1,1)=V ⟨129,7,U,U,[c.c]⟩
 b2:box x (2,v2)=V ⟨124,7,U,U,[aOO]⟩
 g1:gp x 184 2 a1 ((er (L c.aQ.ak) (⟨-1,[]⟩:cg)).map cg.c)
 g2:gp x 4 1 a2 ((er (L c.aQ.bU) I).map cb)
 g3:gp x 138 3 a3 ((qZ<|L c.aQ.ay).map aoC.c)
 ids:∀q∈aA a1++(aA a2++aA a3),q.1=13
theorem SJ.fx{x y:ae}{e:Nat}{c:aBY}{a1 a b:AV}{Lw:List Id}(S:SJ x e c a1 a b)(F:Fx x y Lw)(f:∀q∈Lw,q.1≠1/\q.1≠2/\q.1≠13):SJ y e c a1 a b:=⟨F.len.trans S.hl,(by grind [Fx.keep,SJ.b1]),(by grind [Fx.keep,SJ.b2]),S.g1.fx F λq d h=>(by grind [SJ.ids]),S.g2.fx F λq d h=>(by grind [SJ.ids]),S.g3.fx F λq d h=>(by grind [SJ.ids]),S.ids⟩
def aPn(c:aTo):aNQ:=⟨0,er c.H7.toNat 0,er c.H7.toNat [],0⟩
def aTA(w:J9):aW:=⟨er (L w.ak) ⟨-1,[]⟩,-1,er (L w.bU) I,qZ<|L w.ay⟩
def aPK(c:aBY):atC:=⟨aTA c.aQ,c.aQ.cells.map (·.init),er (L c.aQ.bU) 0,c.ay.map aPn⟩
theorem bfv{c:aBY}(d:aPU c):StB 0 (aPK c):=by obtain⟨g,h,b⟩:=d;have hs:=aP4 g;refine⟨⟨by simp[aPK,aTA];omega,by simp[aPK,aTA];omega,by simp[aPK,aTA,qZ];omega,λl f=>by rw[a68 f];simp⟩,by simp[aPK];omega,by simp[aPK];omega,by simp[aPK];omega,λt a=>?_⟩;simp only[aPK,dN] at a;obtain⟨k,e,rfl⟩:=a;obtain⟨i,j,_⟩:=b k e;refine⟨by simp[aPn];omega,by simp[aPn];omega,λt a=>?_,by simp[aPn],by simp[aPn]⟩;rw[a68 a];exact Tn.nil
def aXs(c:aBY)(hp:aPU c/\aOc c):Ct 121 [.a c.c] (λr=>∃s:atC,r= .a s.c/\StB 0 s):=by obtain⟨hc,hb⟩:=hp;have bG:=aP4 hc.1;have bD:=hb.1;generalize hQ:(λ(r:AV)=>∃s:atC,r= .a s.c/\StB 0 s)=Qq;refine aDq (bhj rfl λs2 E P h0=>?_);simp only[a3D];refine ic E λv2 s3 F3 N3 b3=>?_;have c1:=F3.kq P;have ba:=F3.len.trans E;have k1:∀{x:List AV} {y:AV},aN J (y::x)=V y:=λ{x y}=>(by cases y<;>rfl);have k7:=@r7A;have hz:bM aOO anY []=V (.a aOO):=rfl;simp only[qz 4,qy 6,u0,u1,c1,pz,aj,ar,Fa,aWl,rr,aTv,↓uL];refine⟨hb,λb bC=>⟨λh=>?_,λh=>?_⟩⟩;simp only[hz,aY];refine r9 b3 rfl rfl λs4 F4 b4=>?_;simp only[b4,aQd,qh,df,k7,aY];refine aOv (v':= .a<|atC.c ⟨⟨[],0,[],[]⟩,[],[],[]⟩) rfl rfl ?_;rw[<-hQ];exact⟨_,rfl,⟨by simp,by simp,by simp,by simp⟩,by simp,by simp,by simp,by simp⟩;refine a57 (by omega) (by omega) (by omega) (by omega) λa1 B C s4 g1 g2 g3 F4 P4=>?_;have S4:SJ s4 v2 c a1 B C:=⟨F4.len.trans ba,F4.kq c1,F4.kq b3,g1.p,g2.p,g3.p,λq d=>(P4 q d).2⟩;have a4:bM aOO anY [(0, .a [a1,iv<|-1,B,C])]=V (.a [a1,iv<|-1,B,C, .l [] U U, .l [] U U, .l [] U U]):=rfl;simp only[qz 8,qy 10,qy 12,a4,aY];refine anu S4.hl λv3 s5 F5 N5 b5=>?_;have S5:=S4.fx F5 (by simp);have a5:∀{x:ae} {y:Int},aX yW 1 x [(0,iv y)]=V (.l ([y].map ci) U U,x):=λ{x y}=>iz;refine yV (L c.aQ.cells) (λk _ x=>∃a,SJ x v2 c a1 B C/\box x (3,v3)=V ⟨124,7,U,U,[[a1,iv<|-1,B,C,a, .l [] U U, .l [] U U]]⟩/\gp x 2 1 a (((c.aQ.cells.take k).map (·.init)).map ci)/\∀q∈aA a,q.1=33) ⟨_,S5,b5, .inl ⟨by simp,rfl⟩,by simp[aA]⟩ ?_;rintro k _ x hk ⟨a,S,A,D,pa⟩;have m1:=S.b1;simp only[qz 43,qy 14,au,aI,u0,u1,m1,A,rk,pz,k1,ix,aj,bh,a5,↓uL];refine⟨λh=>?_,λh=>?_⟩;have g:=aL h;refine⟨dJ g,?_⟩;refine apQ D S.hl fF fF (by simp) (by simp;omega) λa' s6 W v P6=>?_;have H:=S.fx v (λq d=>by have:=pa q d;omega);have G:=v.keep _ _ (λd=>by have:=pa _ d;simp at this) A;simp only[qz 16,u0,u1,G,aj,↓uL];refine A0 G W.p.ce (by simp) λs7 w R=>?_;simp only[qz 18,↓uL];refine dT (by simp[eL,lb,gz,dC,dK]) ?_;simp only[au,u0,u1];refine dR (mk:=λ(_:Unit) i=>[iv i]) (s:=()) (s':=()) (λ_ _=>rfl) g (by omega) ⟨a',H.fx w (by simp),R,?_,λq d=>(P6 q d).2⟩;rw[iJ g,<-bT g,dg,dg];exact W.p.fx w (by grind);have F:k=L c.aQ.cells:=(by grind);subst F;rw[gV] at D;clear m1;refine yV (L c.aQ.bU) (λk _ x=>∃N,SJ x v2 c a1 B C/\box x (3,v3)=V ⟨124,7,U,U,[[a1,iv<|-1,B,C,a,N, .l [] U U]]⟩/\gp x 2 1 a ((c.aQ.cells.map (·.init)).map ci)/\gp x 2 1 N ((er k (0:Int)).map ci)/\∀q∈aA N,q.1=46) ⟨_,S,A,D, .inl ⟨by simp,rfl⟩,by simp[aA]⟩ ?_;rintro k _ x hk ⟨N,S,A,D,X,pb⟩;have m1:=S.b1;have a0:∀{x:ae},aX yW 1 x [(0,iv 0)]=V (.l ([(0:Int)].map ci) U U,x):=λ{x}=>iz;simp only[qz 79,qy 20,au,aI,u0,u1,m1,A,pz,k1,aj,a0,↓uL];refine⟨λh=>?_,λh=>?_⟩;have g:=aL h;refine apQ X S.hl fF fF (by simp) (by simp;omega) λa' s6 W v P6=>?_;have H:=S.fx v (λq d=>by have:=pb q d;omega);have G:=v.keep _ _ (λd=>by have:=pb _ d;simp at this) A;simp only[qz 22,u0,u1,G,aj,↓uL];refine A0 G W.p.ce (by simp) λs7 w R=>?_;simp only[qz 24,au,u0,u1,↓uL];refine dR (mk:=λ(_:Unit) i=>[iv i]) (s:=()) (s':=()) (λ_ _=>rfl) g (by omega) ⟨a',H.fx w (by simp),R,(D.fx v<|by grind).fx w (by grind),?_,λq d=>(P6 q d).2⟩;rw[List.replicate_succ',dg];exact W.p.fx w (by grind);have F:k=L c.aQ.bU:=(by grind);subst F;clear m1;refine yV (L c.ay) (λk _ x=>∃t f,SJ x v2 c a1 B C/\box x (3,v3)=V ⟨124,7,U,U,[[a1,iv<|-1,B,C,a,N,t]]⟩/\gp x 2 1 a ((c.aQ.cells.map (·.init)).map ci)/\gp x 2 1 N ((er (L c.aQ.bU) (0:Int)).map ci)/\TTs (63,70,73) U x t f (c.ay.map aPn) k) ⟨.l [] U U,λ_=>(.u, .u),S,A,D,X,⟨.inl ⟨rfl,rfl⟩,by simp,by simp,by simp,by simp,by simp,by simp⟩⟩ ?_;rintro k _ x hk ⟨t,f,S,A,D,X,T⟩;have m1:=S.b1;simp only[qz 115,qy 36,au,aI,u0,u1,m1,A,rk,pz,k1,k7,aj,ixv,bh,↓uL];refine⟨λh=>?_,λh=>?_⟩;have g:=aL h;refine⟨dJ g,?_⟩;obtain⟨q1,q2,_⟩:=hc.2.2 _<|ig g;obtain⟨n,hn⟩:∃n:Nat,(gd c.ay k).H7=n:=⟨(gd c.ay k).H7.toNat,by omega⟩;rw[hn] at q2⊢;refine AP (by decide) (by decide) (by rw[S.hl];decide) (by omega) λe1 s6 ad N6 v b6=>?_;have H:=S.fx v (by simp);have bb:=H.b1;simp only[qz 26,au,u0,u1,bb,rk,pz,aj,ixv,bh,hn,↓uL];refine⟨dJ g,?_⟩;refine AP (by decide) (by decide) (by rw[H.hl];decide) (by omega) λe2 s7 af N7 w R=>?_;have S7:=H.fx w (by simp);have aP:=w.kq b6;have bc:=w.kq<|v.kq A;have aU:=(D.fx v<|by simp).fx w (by simp);have aV:=(X.fx v<|by simp).fx w (by simp);have T7:=(T.fx v<|by simp).fx w (by simp);have a6:bM aoB bmK [(1, .m e1 n),(2, .m e2 n)]=V (.a [iv 0, .m e1 n, .m e2 n,iv 0]):=rfl;simp only[qz 28,qy 30,a6,aY];have M:gd (c.ay.map aPn) k=⟨0,er n 0,er n [],0⟩:=(by rw[bT (by grind),List.getElem_map,<-bT g];simp[aPn,hn]);have Z:∀{q:Id},(∀y,box x q≠V y)->q∉aPi f k:=λ{q} bF d=>(by obtain⟨j,hj,h|h⟩:=aXS d;obtain⟨y,hy⟩:=aTi (T.g1 j hj) q h;grind;obtain⟨_,b,e,hy⟩:=T.g2 j hj;grind [aA]);refine a7Q T7 rfl rfl (by rw[S7.hl];decide) rfl (by rw[S7.hl];decide) (by decide) (by omega) (by rw[M]) (by rw[M]) (.inr ⟨e1,[],by grind,by rw[M,aP];simp;exact⟨rfl, .inr rfl⟩⟩) (by rw[M];exact⟨by simp,e2,by simp,by rw[R];simp;exact⟨rfl, .inr rfl⟩⟩) (λq d=>?_) (λq d=>?_) λz t' ag aw O o bB=>?_;simp only[aA,cE] at d;subst d;exact⟨Z N6.no,ad⟩;simp only[aA,cE] at d;subst d;exact⟨Z<|λy hy=>N7.no y<|v.kq hy,af⟩;obtain⟨vz,rfl⟩:=aw;have bd:∀q∈aA t,q.1=73:=T.ids;have aB:∀{b:Id},b.1≠73->b∉aA t:=(by grind);have aG:=S7.fx o (λq d=>by have:=bd q d;omega);have aa:=o.keep _ _ (aB<|by simp) bc;simp only[qz 32,u0,u1,aa,aj,↓uL];refine A0 aa O.ce (by simp) λbH K aM=>?_;simp only[qz 34,↓uL];refine dT (by simp[eL,lb,au,sl,ad,af,gz,dC,dK]) ?_;simp only[au,u0,u1];refine dR (mk:=λ(_:Unit) i=>[iv i]) (s:=()) (s':=()) (λ_ _=>rfl) g (by omega) ⟨t',_,aG.fx K (by simp),aM,(aU.fx o<|by grind).fx K λq d e=>?_,(aV.fx o<|by grind).fx K λq d e=>?_,O.fx K<|by simp⟩;grind;grind;have F:k=L c.ay:=(by grind);subst F;refine r9 S.b2 rfl rfl λag o aK=>?_;simp only[aK,aQd,qh,df,k7,aY];have nd:∀{q:Id},q.1≠2->q∉[((2,v2):Id)]:=(by grind);have O:=T.fx o (by simp);have al:TTs (63,70,73) U ag t f (c.ay.map aPn) (L<|c.ay.map aPn):=(by grind);have x1:=aBr (S.g1.fx o λq d=>(by grind));have x2:=aBr (S.g2.fx o λq d=>(by grind));have x3:=aBr (S.g3.fx o λq d=>(by grind));have x4:=aBr (D.fx o λq d=>nd<|by rw[pa q d];decide);have x5:=aBr (X.fx o λq d=>nd<|by rw[pb q d];decide);refine aOv (v':= .a (aPK c).c) ?_ (by simp[iX,atC.c,aW.c,eN,sl]) (by grind [bfv]);simp only[fzT,ji,mU,x1,x2,x3,x4,x5,al.fz,aWt];rfl
def aUj:FT:=om aXs
def bca{c Lw K}:=f111 aUj aXs c Lw K (j:=by simp+contextual only[ij,ijv])
def a7G:dO:=(263,aUl)::(121,aUj)::a7F
def a7o:eJ a7G:=sz (aN0 aXu)<|sz (rj aXs)<|aX6
def aWm:=ai @bcc<|ai @bca<|@aWl
section
attribute[local irreducible] aX
def a9K:=I5 28 [(20,([],[6,8,9,10])),(23,([98],[6,8,9,10])),(25,([],[6,10]))]
def a3l a b c d R:=(.mk _:NR a7G a9K Tryz.f233 [.u, .u,c] [a,b] d R).p
def bhh{c0:List AV}{b:List AV}{c:AV}{R:cC}(l0:L c0=7)(l1:L b=7)(h:H2 129 7 3 c0 124 7 4 b λia d e=>a3l ia d c e R):Ct 233 [.a c0, .a b,c] R:=z2 a9K a7o Tryz.func233 l0 l1 h
end
def aQs(c:aBY)(s:atC)(t:Int):aNZ:=gd (gd c.ay t.toNat).bid (gd s.ay t.toNat).pc.toNat
def PK(k:Int)(i:aNZ):Prop:=(k=3\/k=23->i.a∈a6z i)/\(k=4\/k=22->i.b∈a6z i)/\(k=5->i.a∈a6z i)
def EvL(e:aP):Prop:=L e.dI<=1000/\L e.ep<=1000
def bdY{i:aNZ}:PK (aPY i.op) i:=by rcases i with⟨op,a,b,k,n,st⟩;simp only[PK,aPY,cond_eq_ite];by_cases h:op<6\/28<op;simp_all;rw[dB<|by simpa using h];have c:op=6\/op=7\/op=8\/op=9\/op=10\/op=11\/op=12\/op=13\/op=14\/op=15\/op=16\/op=17\/op=18\/op=19\/op=20\/op=21\/op=22\/op=23\/op=24\/op=25\/op=26\/op=27\/op=28:=(by omega);rcases c with rfl|rfl|rfl|rfl|rfl|rfl|rfl|rfl|rfl|rfl|rfl|rfl|rfl|rfl|rfl|rfl|rfl|rfl|rfl|rfl|rfl|rfl|rfl<;>simp[gd,aXK,a6z]
def aXq(c:aBY)(s:atC)(t:Int)(hp:aPU c/\aOc c/\∃k,StB k s):Ct 233 [.a c.c, .a s.c,iv t] (λr=>∃(e:aP) (ok:Bool),r= .t [.a e.c,bv ok]/\EvL e/\(ok=U->aSm c s/\aF (L c.ay) t/\PK e.kind (aQs c s t))):=by
 obtain⟨hc,E,K,hs⟩:=hp
 have cH:=aP4 hc.1
 have cA:=E.1
 generalize hQ:(λ(r:AV)=>∃(e:aP) (ok:Bool),r= .t [.a e.c,bv ok]/\EvL e/\(ok=U->aSm c s/\aF (L c.ay) t/\PK e.kind (aQs c s t)))=Qq
 refine aDq (bhh rfl rfl λs4 hl b1 b2 h0=>?_)
 simp only[a3l]
 refine ic hl λv6 s6 F6 N6 b6=>?_
 have c1:=F6.kq b1
 have c2:=F6.kq b2
 have a1:=F6.len.trans hl
 have k1:∀{x:List AV} {y:AV},aN J (y::x)=V y:=λ{x y}=>by cases y<;>rfl
 have k7:=@r7A
 have hz:bM bnk aOG []=V (.a bnk):=rfl
 simp only[qz 6,qy 8,qy 10,u0,u1,c1,c2,pz,aj,ar,Fa,aWm,rr,aTv,↓uL]
 refine⟨⟨E,by omega⟩,λb bg=>?_⟩
 have D:∀{x:ae},box x (6,v6)=V ⟨62,7,U,U,[bnk]⟩->sV (aK 7 x (.p (6,v6) 0 0)<|.a bnk) λy=>rV (vl (V 7) y<|.p (6,v6) 0 0) λt=>aE (λr=>Qq<|bm1 r) y [t,bv I]:=λ{x} E=>by
  refine r9 E rfl rfl λs7 F7 b7=>?_
  rw[aEa b7 rfl]
  refine aOH (vs':=[.a<|aP.c ⟨0,0,0,0,0,[],[]⟩,bv I]) rfl rfl ?_
  rw[<-hQ];exact⟨_,_,rfl,⟨by simp,by simp⟩,by simp⟩
 cases b with
 |false=>
  simp only[u0,↓jN,aUw,↓iC,hz,↓uL]
  exact D b6
 |true=>
 obtain⟨hF⟩:Nonempty (aSm c s):=⟨bg rfl⟩
 have bS:=hF
 obtain⟨_,f1,f2,f3,f4,f5⟩:=bS
 rcases h1:Q (t<0) with _|_
 rotate_left
 ·simp only[u0,u1,↓jN,aUw,↓iC,wY,hz,h1,↓uL]
  exact D b6
 rcases h2:Q (t>=(L c.ay:Int)) with _|_
 rotate_left
 ·simp only[u0,u1,c1,pz,↓jA,↓iC,wY,hz,h1,h2,↓uL]
  exact D b6
 simp only[j5] at h1 h2
 have cB:aF (L c.ay) t:=⟨by omega,by omega⟩
 obtain⟨m,rfl⟩:∃m:Nat,t=m:=⟨t.toNat,by omega⟩
 have hm:m<L c.ay:=by omega
 obtain⟨p1,p2,p3⟩:=f5 m hm
 obtain⟨r1,r2,r3⟩:=hc.2.2 _<|ig hm
 have bQ:Q ((m:Int)<0)=I:=bqL h1
 have bR:Q ((m:Int)>=(L c.ay:Int))=I:=bqL h2
 have b4:(gd s.ay m).pc.toNat<L (gd c.ay m).bid:=by have:=p1.1;have:=p1.2;omega
 have S:∀j∈a6z (aQs c s m),aF (L (gd s.ay m).J6) j/\aF (L (gd s.ay m).H7) j:=λj hj=>by
  have:=r3 _ b4 j hj
  exact⟨⟨this.1,by omega⟩,⟨this.1,by omega⟩⟩
 have bX:=f1
 obtain⟨_,_,_,ft⟩:=iY bX
 simp only[u0,u1,c1,rk,pz,↓jA,↓iB,bQ,bR,ixv,bh,↓uL]
 refine⟨by simp_all,anu a1 λv8 s8 F8 N8 b8=>?_⟩
 have bF:=F8.kq c1
 have bH:=F8.kq c2
 have bw:=F8.kq b6
 have a2:=F8.len.trans a1
 simp only[qz 12,qy 14,u0,u1,bF,b8,rk,pz,aj,ixv,bh,↓uL]
 refine⟨dJ hm,p1,ic a2 λv9 cJ bs N9 bC=>?_⟩
 refine r9 bC rfl rfl λs9 bt b9=>?_
 have F9:Fx s8 s9 []:=(bs.trans bt).mono (by grind [bK.no])
 have bI:=F9.kq bH
 have bx:=F9.kq bw
 have bB:=F9.kq b8
 have a3:=F9.len.trans a2
 simp only[qz 16,qy 18,↓uL]
 refine dT (by simp[eL,lb,gz,dC,dK,sl,aNZ.c]) ?_
 generalize hi:gd (gd c.ay m).bid (gd s.ay m).pc.toNat=i at*
 have b0:aQs c s m=i:=by simp[aQs,hi]
 rw[b0] at S
 have bV:bM bnk aOG [(0,iv m),(4,iv i.site)]=V (.a [iv m,iv 0,iv 0,iv 0,iv i.site, .l [] U U, .l [] U U]):=rfl
 simp only[u0,u1,b9,pz,aj,bV,↓uL]
 refine anu a3 λab cI T cy W=>?_
 have R:=T.kq bI
 have M:=T.kq bx
 have av:=T.kq bB
 have C:=T.kq b9
 have bj:=T.len.trans a3
 have aw:∀{x:ae} {k o u:Int} {d f:AV} {ds fs:List Int},box x (6,v6)=V ⟨62,7,U,U,[bnk]⟩->gp x 3 1 d (ds.map ci)->gp x 3 1 f (fs.map ci)->(∀q∈aA d++aA f,q.1≠6)->L ds<=1000->L fs<=1000->PK k i->sV (aK 7 x (.p (6,v6) 0 0)<|.a [iv m,iv k,iv o,iv 0,iv u,d,f]) λy=>rV (vl (V 7) y<|.p (6,v6) 0 0) λt=>aE (λr=>Qq<|bm1 r) y [t,bv U]:=λ{x k o u d f ds fs} E bO w hq l1 l2 hk=>by
  refine r9 E rfl rfl λs7 F7 b7=>?_
  rw[aEa b7 rfl]
  have e1:=aBr (bO.fx F7 λq h e=>(by grind))
  have e2:=aBr (w.fx F7 λq h e=>(by grind))
  refine aOH (vs':=[.a<|aP.c ⟨m,k,o,0,u,ds,fs⟩,bv U]) (by simp only[ji,mU,fzT,aWt,e1,e2];rfl) (by simp[iX,aP.c,eN,sl]) ?_
  rw[<-hQ];exact⟨_,_,rfl,⟨l1,l2⟩,by simp_all⟩
 have a0:∀{x:ae} {l:List (List Int)} {j:Int} {K:cC},rV (cz 1 x (sl cl l)<|iv j) K=(aF (L l) j/\K (.q<|cl<|gd l j.toNat)):=aBz λ_=>rfl
 have a4:∀{x:ae} {l:List Int},vl J x (.q<|cl l)=V (sl ci l):=rfl
 have aZ:∀t∈(gd s.ay m).J6,Tn t:=(hs.th _<|ig<|by omega).2.2.1
 have nil:∀{x:ae},gp x 3 1 (.l [] U U) (([]:List Int).map ci):=λ{x}=> .inl ⟨rfl,rfl⟩
 have aa:aF (L s.bW.ay) (m:Int):=by rw[ft,<-hc.2.1];omega
 rcases q1:Q ((gd s.bW.ay m).cQ=1) with _|_
 rotate_left
 ·have bU:bM bnk aOG [(0,iv m),(1,iv 1),(2,iv<|-1),(4,iv<|-1)]=V (.a [iv m,iv 1,iv<|-1,iv 0,iv<|-1, .l [] U U, .l [] U U]):=rfl
  simp only[qz 20,qy 22,qy 30,u0,u1,R,C,rk,pz,aj,ix,bh,q1,↓iC,bU,↓uL]
  refine⟨aa,?_⟩
  exact aw M nil nil (by simp[aA]) (by simp) (by simp) (by simp[PK])
 rcases q2:Q ((gd s.bW.ay m).cQ=4) with _|_
 rotate_left
 ·simp only[qz 20,qy 22,qy 30,u0,u1,R,C,W,rk,pz,aj,ix,bh,q1,q2,↓iC,↓iB,↓uL]
  refine⟨aa,aa,?_⟩
  refine A0 W rfl (by simp) λcc G X=>?_
  have af:=G.kq M
  simp only[qz 24,u0,u1,X,aj,↓uL]
  refine A0 X rfl (by simp) λA H v=>?_
  have B:=H.kq af
  simp only[qz 26,qy 28,↓uL]
  refine dT (by simp[eL,lb,gz,dC,dK,sl,aoC.c]) ?_
  simp only[u0,u1,v,List.set_cons_succ,RY,k7,↓uL]
  exact aw B nil nil (by simp[aA]) (by simp) (by simp) (by simp[PK])
 rcases q3:Q ((gd s.bW.ay m).cQ=2) with _|_
 ·simp only[qz 20,qy 22,qy 30,u0,u1,R,C,W,rk,pz,aj,ix,bh,q1,q2,q3,↓iB,hz,↓uL]
  exact⟨aa,D M⟩
 simp only[qz 20,qy 22,qy 30,u0,u1,R,av,C,W,rk,pz,aj,ix,ar,Fa,aWm,rr,bh,q1,q2,q3,↓iC,↓iB,↓uL]
 refine⟨aa,λZ=>(S _ ?_).2,λo=>?_⟩
 ·rcases i with⟨op,a,b,k,n,st⟩
  simp only at Z⊢
  rcases Z with rfl|rfl<;>simp[a6z]
 refine A0 W rfl (by simp) λcc G X=>?_
 have af:=G.kq M
 have a9:=G.kq av
 have ba:=G.kq C
 simp only[qz 32,u0,u1,X,aj,↓uL]
 refine A0 X rfl (by simp) λA H v=>?_
 have B:=H.kq af
 have N:=H.kq a9
 have O:=H.kq ba
 have aD:=(H.len.trans G.len).trans bj
 simp only[List.set_cons_succ,RY] at v
 rcases q4:Q (aPY i.op=0) with _|_
 rotate_left
 ·simp only[qz 34,qy 36,u0,u1,v,k1,nM,iy,aj,q4,↓iC,hz,↓uL]
  exact D B
 simp only[qz 34,qy 36,u0,u1,v,k1,nM,iy,aj,q4,↓iB,↓uL]
 refine bsK (λg=>∀{x:ae} {d:AV} {ds:List Int},L x=4096->box x (6,v6)=V ⟨62,7,U,U,[bnk]⟩->box x (8,v8)=V ⟨251,4,U,U,[(gd s.ay m).c]⟩->box x (9,v9)=V ⟨264,6,U,U,[i.c]⟩->box x (10,ab)=V ⟨62,7,U,U,[[iv m,iv<|aPY i.op,iv o,iv 0,iv i.site,d, .l [] U U]]⟩->gp x 3 1 d (ds.map ci)->(∀q∈aA d,q.1≠6/\q.1≠10)->L ds<=1000->g [] x) (λ{x d ds} cD E h8 h9 he g1 hq l1=>?_) λaV aB=>?_
 ·simp only[qz 123,aI,↓uL]
  refine bpD (λg=>∀{x:ae} {d f:AV} {ds fs:List Int},box x (6,v6)=V ⟨62,7,U,U,[bnk]⟩->box x (10,ab)=V ⟨62,7,U,U,[[iv m,iv<|aPY i.op,iv o,iv 0,iv i.site,d,f]]⟩->gp x 3 1 d (ds.map ci)->gp x 3 1 f (fs.map ci)->(∀q∈aA d++aA f,q.1≠6)->L ds<=1000->L fs<=1000->g [] x) (λ{x d f ds fs} E he g1 g2 hq l1 l2=>?_) λaW aC=>?_
  ·simp only[qz 153,qy 50,aI,u0,u1,he,k7,↓uL]
   exact aw E g1 g2 hq l1 l2 bdY
  have go:∀{y:ae} {f:AV} {fs:List Int},Fx x y []->gp y 3 1 f (fs.map ci)->(∀q∈aA f,bK x q/\q.1=132)->L fs<=1000->sV (aK 1 y (.p (10,ab) 0 6) f) λs=>aW [] s:=λ{y f fs} F w hf lf=>by
   refine A0 (F.kq he) w.ce (by simp) λs2 F2 b2=>?_
   refine aC (F2.kq<|F.kq E) b2 ((g1.fx F<|by simp).fx F2 λq h e=>?_) (w.fx F2 λq h e=>?_) (λq h=>?_) l1 lf
   ·simp at e;subst e;exact(hq _ h).2 rfl
   ·simp at e;subst e;have:=(hf _ h).2;simp at this
   ·rcases dF.1 h with h|h
    ·exact(hq q h).1
    ·rw[(hf q h).2];decide
  have dn:(Q (i.op=8)||Q (i.op=9)||Q (i.op=26))=I->aW [] x:=λ_=>aC E he g1 nil (λq h=>by
   rcases dF.1 h with h|h
   ·exact(hq q h).1
   ·simp[aA] at h) l1 (by simp)
  have up:(Q (i.op=8)||Q (i.op=9)||Q (i.op=26))=U->∀{K:be},(∀(f:AV) (y:ae) (fs:List Int),Fx x y []->gp y 3 1 f (fs.map ci)->(∀q∈aA f,bK x q/\q.1=132)->L fs<=1000->K f y)->rV (cz 1 x (sl cl (gd s.ay m).J6)<|iv i.b) λbo=>rV (vl J x bo) λbp=>eV (Gy 3 fB 8 x 132 (.l [] U U) bp) K:=λZ {K} hK=>by
   have hr:=S i.b (by
    rcases i with⟨op,a,b,k,n,st⟩
    simp only[Bool.or_eq_true,j4] at Z⊢
    rcases Z with(rfl|rfl)|rfl<;>simp[a6z])
   rw[a0]
   refine⟨hr.1,?_⟩
   simp only[a4,aY]
   have hT:=aZ _ (ig (l:=(gd s.ay m).J6) (k:=i.b.toNat) (by have:=hr.1.1;have:=hr.1.2;omega))
   refine apV (bA:=[]) (e:=3) (z:=1) (.inl ⟨rfl,rfl⟩) rfl rfl (by decide) (by omega) (by simp) fF (by simp;have:=hT.len;omega) λf y w F P=>?_
   exact hK f y _ (F.mono<|by simp[aA]) w (λq h=>(P q h).elim (λh=>by simp[aA] at h) id) hT.len
  rcases z1:Q (i.op=8) with _|_<;>rcases z2:Q (i.op=9) with _|_<;>rcases z3:Q (i.op=26) with _|_<;>simp only[z1,z2,z3,wY,Bool.or_false] at up dn<;>simp only[qz 155,u0,u1,h9,he,h8,z1,z2,z3,pz,k1,aj,↓jA,↓jN,aUw,↓iC,↓iB,wY,↓uL]
  all_goals first|exact dn rfl|exact dn trivial|(refine up trivial λf y fs F w P l=>?_;simp only[qz 46,qy 48,u0,u1,F.kq he,aj,↓uL];exact go F w P l)
 simp only[qz 125,u0,u1,O,v,N,pz,k1,aj,↓uL]
 have aX:∀{y:ae} {f:AV} {fs:List Int} {pl:Nat},Fx A y []->gp y 3 1 f (fs.map ci)->(∀q∈aA f,bK A q/\q.1=pl)->pl≠10->pl≠6->L fs<=1000->sV (aK 1 y (.p (10,ab) 0 5) f) λs2=>aV [] s2:=λ{y f fs pl} F w hf hp cF lf=>by
  refine A0 (F.kq v) w.ce (by simp) λs2 F2 b2=>?_
  have ao:∀{q:Id} {z:bY},q≠(10,ab)->box A q=V z->box s2 q=V z:=λh hz=>F2.keep _ _ (by simpa using h)<|F.kq hz
  exact aB ((F2.len.trans F.len).trans aD) (ao (by simp) B) (ao (by simp) N) (ao (by simp) O) b2 (w.fx F2 λq h e=>by simp at e;subst e;exact hp (hf _ h).2.symm) (λq h=>by rw[(hf q h).2];omega) lf
 have ap:∀{j:Int} {pl:Nat} {K:be},j∈a6z i->pl<4096->(∀(f:AV) (y:ae) (fs:List Int),Fx A y []->gp y 3 1 f (fs.map ci)->(∀q∈aA f,bK A q/\q.1=pl)->L fs<=1000->K f y)->rV (cz 1 A (sl cl (gd s.ay m).J6)<|iv j) λbq=>rV (vl J A bq) λbr=>eV (Gy 3 fB 8 A pl (.l [] U U) br) K:=λ{j pl K} hj cG hK=>by
  have hr:=S j hj
  rw[a0]
  refine⟨hr.1,?_⟩
  simp only[a4,aY]
  have hT:=aZ _ (ig (l:=(gd s.ay m).J6) (k:=j.toNat) (by have:=hr.1.1;have:=hr.1.2;omega))
  refine apV (bA:=[]) (e:=3) (z:=1) (.inl ⟨rfl,rfl⟩) rfl rfl (by decide) (by omega) (by simp) fF (by simp;have:=hT.len;omega) λf y w F P=>?_
  exact hK f y _ (F.mono<|by simp[aA]) w (λq h=>(P q h).elim (λh=>by simp[aA] at h) id) hT.len
 refine⟨λZ=>?_,λZ=>?_⟩
 ·have a5:=qc Z
  refine ap (j:=i.a) (pl:=96) (by rcases i with⟨op,a,b,k,n,st⟩;simp only at a5⊢;subst a5;simp[a6z]) (by decide) λf y fs F w P lf=>?_
  simp only[qz 38,qy 40,u0,u1,F.kq v,aj,↓uL]
  exact aX F w P (by decide) (by decide) lf
 ·have bL:aV [] A:=aB aD B N O v nil (by simp[aA]) (by simp)
  refine bsp (λg=>(i.op=7\/i.op=9->g [bv U])/\g [bv I]) ⟨λh=>?_,?_⟩ λg al=>?_
  ·simp only[qz 141,au,aI,↓uL]
   simp only[u0,u1,O,v,N,pz,k1,aj,↓iC,↓uL]
   refine ap (j:=i.k) (pl:=109) (by rcases i with⟨op,a,b,k,n,st⟩;simp only at h⊢;rcases h with rfl|rfl<;>simp[a6z]) (by decide) λf y fs F w P lf=>?_
   simp only[qz 42,qy 44,u0,u1,F.kq v,aj,↓uL]
   exact aX F w P (by decide) (by decide) lf
  ·simp only[qz 141,au,aI,↓iB,↓uL]
   exact bL
  rcases z1:Q (i.op=7) with _|_<;>rcases z2:Q (i.op=9) with _|_<;>simp only[qz 143,u0,u1,z1,z2,↓iC,↓iB,↓uL]
  ·exact al.2
  ·exact al.1 (.inr<|qc z2)
  ·exact al.1 (.inl<|qc z1)
  ·exact al.1 (.inl<|qc z1)
def aUh:FT:=vn aXq
def bb8{c s t Lw K}:=f311 aUh aXq c s t Lw K (j:=by simp+contextual only[ij,ijv])
def aYe:dO:=(233,aUh)::a7G
def a7p:eJ aYe:=sz (By aXq)<|a7o
def aWn:=ai @bb8<|@aWm
section
attribute[local irreducible] aX
def a5I:=I5 39 [(15,([16],[3,4,5,6,7,9,14,15])),(17,([78],[3,4,5,6,7,9,14,15,16,77])),(30,([],[3,4,5,6,7,9,14,16])),(35,([],[4,5,6,7,9,14]))]
def aVk b c a d R:=(.mk _:NR aYe a5I Tryz.f187 [.u, .u, .u] [b,c,a] d R).p
def bhk{c0:List AV}{b:List AV}{c:List AV}{R:cC}(l0:L c0=7)(l1:L b=7)(d:L c=2)(h:H3 129 7 3 c0 124 7 4 b 170 2 5 c λf g i e=>aVk f g i e R):Ct 187 [.a c0, .a b, .a c] R:=z3 a5I a7p Tryz.func187 l0 l1 d h
end
def bg(s:sA)(t:Int):Prop:=aF (L s.count) t/\1<=gd s.count t.toNat
structure StI(w:J9)(s:sA)(j:Nat):Prop where
 r:0<=(gd s.bW.ay j).cQ/\(gd s.bW.ay j).cQ<=5
 fr:((gd s.bW.ay j).cQ=0\/(gd s.bW.ay j).cQ=1)↔gd s.count j=0
 z:j=0->(gd s.bW.ay j).cQ≠0
 wt:((gd s.bW.ay j).cQ=3\/(gd s.bW.ay j).cQ=4)->aF (L w.bC) (gd s.bW.ay j).cond/\(gd s.bW.ak (gd w.bC (gd s.bW.ay j).cond.toNat).eg.toNat).awG≠j
 nw:¬((gd s.bW.ay j).cQ=3\/(gd s.bW.ay j).cQ=4)->(gd s.bW.ay j).cond=0
 at':(gd s.bW.ay j).atomic=U->bg s j
structure LcI(w:J9)(s:sA)(j:Nat):Prop where
 ow:(gd s.bW.ak j).awG≠-1->bg s (gd s.bW.ak j).awG
 rd:(gd s.bW.ak j).bk≠[]->(gd w.ak j).rw=U/\(gd s.bW.ak j).awG= -1
 rb:∀x∈(gd s.bW.ak j).bk,bg s x
 inc:jC (gd s.bW.ak j).bk
structure SI(w:J9)(s:sA)(n:Nat):Prop where
 fit:fN w s=U
 c0:∀c∈s.count,0<=c
 sum:s.count.sum=n
 st:∀j,j<L s.bW.ay->StI w s j
 lk:∀j,j<L s.bW.ak->LcI w s j
 tx:s.bW.tx≠-1->bg s s.bW.tx
 fu:∀j,j<L s.bU->gd s.bW.done j=I->gd s.bU j=0
theorem gdS{α:Type}[Inhabited α]{l:List α}{i j:Nat}{x:α}:gd (l.set i x) j=if i=j/\j<L l then x else gd l j:=by grind [gd]
theorem aTf{α:Type}[Inhabited α]{l:List α}{i j:Nat}{x:α}(h:i≠j):gd (l.set i x) j=gd l j:=by grind [gdS]
theorem aTe{α:Type}[Inhabited α]{l:List α}{i:Nat}{x:α}(h:i<L l):gd (l.set i x) i=x:=by grind [gdS]
structure Mk(s s':aW):Prop where
 lk:s'.ak=s.ak
 tx:s'.tx=s.tx
 dn:s'.done=s.done
 len:L s'.ay=L s.ay
 th:∀j,gd s'.ay j=gd s.ay j\/((gd s.ay j).cQ=3/\gd s'.ay j={gd s.ay j with cQ:=4})
theorem Mk.refl(s:aW):Mk s s:=⟨rfl,rfl,rfl,rfl,λ_=> .inl rfl⟩
def aYj{s:aW}{c u:Int}(h:u∈fO s c):aF (L s.ay) u/\(gd s.ay u.toNat).cQ=3/\(gd s.ay u.toNat).cond=c:=by unfold fO eh at h;simp only[dN,jW,List.mem_range] at h;obtain⟨i,⟨b,a⟩,rfl⟩:=h;simp only[pe,bN,j4] at a;refine⟨⟨by omega,by omega⟩,?_⟩;grind
theorem Mk.one{s s':aW}(h:Mk s s'){u:Int}(a:(gd s.ay u.toNat).cQ=3):Mk s (ni s' u {fA s' u with cQ:=4}):=by refine⟨h.lk,h.tx,h.dn,by simp[ni,h.len],λj=>?_⟩;simp only[ni,fA,gdS];grind [Mk.th]
def Mk.fold{s:aW}:∀(l:List Int) {s':aW},Mk s s'->(∀u∈l,(gd s.ay u.toNat).cQ=3)->Mk s (l.foldl (λs u=>ni s u {fA s u with cQ:=4}) s')|[],_,h,_=>h|u::l,_,h,a=>Mk.fold l (h.one<|a u<|by simp) (by simp_all)
theorem bhI{s:aW}{bF amt:Int}(h:fO s bF≠[]):(gd s.ay (tD s bF amt).toNat).cQ=3:=by unfold tD;split;rename_i b;exact(aYj b).2.1;cases d:fO s bF with|nil=>simp_all|cons a l=>exact(aYj (c:=bF)<|by grind [gd]).2.1
theorem a6V{w:J9}{s:aW}{t bF amt:Int}:Mk s (cU w s t 18 bF amt).1:=by simp only[cU];grind [Mk.one,Mk.refl,bhI]
theorem a6W{w:J9}{s:aW}{t bF amt:Int}:Mk s (cU w s t 19 bF amt).1:=by simp only[cU];simp only[show¬(19:Int)=1 by decide,show¬(19:Int)=2 by decide,show¬((19:Int)=6\/(19:Int)=10) by decide,show¬((19:Int)=7\/(19:Int)=11) by decide,show¬(19:Int)=8 by decide,show¬(19:Int)=9 by decide,show¬(19:Int)=12 by decide,show¬(19:Int)=13 by decide,show¬(19:Int)=14 by decide,show¬(19:Int)=15 by decide,show¬(19:Int)=16 by decide,show¬(19:Int)=17 by decide,show¬(19:Int)=18 by decide,brx,aNV];exact Mk.fold _ (Mk.refl s) (λu a=>(aYj a).2.1)
section
variable{w:J9}{s s':sA}{t:Nat}
structure Ct1(s s':sA)(t:Nat):Prop where
 lt:t<L s.count
 e:s'.count=s.count.set t (gd s.count t+1)
 p:0<=gd s.count t
theorem Ct1.len(h:Ct1 s s' t):L s'.count=L s.count:=by rw[h.e];simp
def Ct1.at(h:Ct1 s s' t):gd s'.count t=gd s.count t+1:=by rw[h.e,aTe h.lt]
theorem Ct1.ne(h:Ct1 s s' t){j:Nat}(a:j≠t):gd s'.count j=gd s.count j:=by rw[h.e,aTf<|Sa a]
theorem Ct1.bg(h:Ct1 s s' t){x:Int}(a:Ab.bg s x):Ab.bg s' x:=by refine⟨by rw[h.len];exact a.1,?_⟩;by_cases e:x.toNat=t;rw[e,h.at];have:=h.p;omega;rw[h.ne e];exact a.2
theorem Ct1.own(h:Ct1 s s' t):Ab.bg s' (t:Int):=by refine⟨⟨by omega,by rw[h.len];have:=h.lt;omega⟩,?_⟩;rw[bh,h.at];have:=h.p;omega
theorem StI.keep(c:Ct1 s s' t){j:Nat}(b:j≠t)(a:gd s'.bW.ay j=gd s.bW.ay j)(d:∀l,(gd s'.bW.ak l).awG=(gd s.bW.ak l).awG\/(gd s'.bW.ak l).awG=t\/(gd s'.bW.ak l).awG= -1)(h:StI w s j):StI w s' j:=by refine⟨by rw[a];exact h.r,by rw[a,c.ne b];exact h.fr,by rw[a];exact h.z,λhs=>?_,by rw[a];exact h.nw,by grind [Ct1.bg,StI.at']⟩;grind [StI.wt]
theorem StI.own(c:Ct1 s s' t){x:aoC}(f:gd s'.bW.ay t=x)(b:x.cQ=2\/x.cQ=5)(d:x.cond=0):StI w s' t:=by have a:=c.own;have e:¬gd s'.count t=0:=(by rw[c.at];have:=c.p;omega);refine⟨by grind,by grind,by grind,by grind,by simp_all,λ_=>a⟩
theorem LcI.keep(c:Ct1 s s' t){j:Nat}(a:gd s'.bW.ak j=gd s.bW.ak j)(h:LcI w s j):LcI w s' j:=⟨by grind [Ct1.bg,LcI.ow],by rw[a];exact h.rd,by grind [Ct1.bg,LcI.rb],by rw[a];exact h.inc⟩
end
def bfw{l:List Int}:∀{i:Nat} {x:Int},i<L l->(l.set i x).sum=l.sum-gd l i+x:=by induction l with|nil=>simp|cons a l b=>intro i x h;cases i with|zero=>simp[gd];omega|succ i=>grind [gd]
def aWu{l:List Int}:(∀c∈l,0<=c)->∀i,gd l i<=l.sum/\0<=l.sum:=by induction l with|nil=>intro _ i;simp[gd]|cons a l b=>intro h i;have d:=h a (by simp);obtain⟨e,f⟩:=b (by simp_all)<|i-1;grind [gd,Nat.add_sub_cancel]
section
variable{w:J9}{s s':sA}{t n:Nat}
theorem SI.next(h:SI w s n)(c:Ct1 s s' t)(a:fN w s'=U)(m:∀j,j<L s.bW.ay->StI w s' j)(l:∀j,j<L s.bW.ak->LcI w s' j)(g:L s'.bW.ay=L s.bW.ay)(i:L s'.bW.ak=L s.bW.ak)(k:s'.bW.tx=s.bW.tx\/s'.bW.tx=t\/s'.bW.tx= -1)(d:∀j,j<L s'.bU->gd s'.bW.done j=I->gd s'.bU j=0):SI w s' (n+1):=by refine⟨a,?_,?_,by simp_all,by simp_all,λb=>?_,d⟩;intro x b;rw[c.e] at b;rcases CC b with f|rfl;exact h.c0 x f;have:=c.p;omega;rw[c.e,bfw c.lt,h.sum];omega;grind [Ct1.bg,SI.tx,Ct1.own]
theorem SI.mk1(h:SI w s n)(c:Ct1 s s' t)(a:fN w s'=U)(f:∀j,j≠t->gd s'.bW.ay j=gd s.bW.ay j)(b:L s'.bW.ay=L s.bW.ay)(e:L s'.bW.ak=L s.bW.ak)(k:StI w s' t)(m:∀l,(gd s'.bW.ak l).awG=(gd s.bW.ak l).awG\/(gd s'.bW.ak l).awG=t\/(gd s'.bW.ak l).awG= -1)(i:∀j,j<L s.bW.ak->LcI w s' j)(g:s'.bW.tx=s.bW.tx\/s'.bW.tx=t\/s'.bW.tx= -1)(d:∀j,j<L s'.bU->gd s'.bW.done j=I->gd s'.bU j=0):SI w s' (n+1):=by grind [SI.next,StI.keep,SI.st]
end
theorem a97{w:J9}{s:aW}{t k bF amt:Int}:L (cU w s t k bF amt).1.ak=L s.ak/\L (cU w s t k bF amt).1.done=L s.done/\L (cU w s t k bF amt).1.ay=L s.ay:=by by_cases a:k=18;grind [a6V,Mk.lk,Mk.dn,Mk.len];by_cases b:k=19;grind [a6W,Mk.lk,Mk.dn,Mk.len];unfold cU;by_cases q:k=1;grind [ni,I9];rw[dB q];clear q;by_cases q:k=2;grind [ni,I9];rw[dB q];clear q;by_cases q:k=6\/k=10;grind [ni,I9];rw[dB q];clear q;by_cases q:k=7\/k=11;grind [ni,I9];rw[dB q];clear q;by_cases q:k=8;grind [ni,I9];grind [ni,I9]
def bfb{w:J9}{s:sA}{e:aP}(h:fN w s=U):fN w (oc w s e)=U:=by grind [a97,og,fN,lh,oc]
theorem SI.step{w:J9}{s:sA}{e:aP}{n:Nat}(h:SI w s n)(hv:∀j,j<L w.bC->uh w j=I)(hn:n<100000)(P:be3 w s e=U):SI w (oc w s e) (n+1):=by
 simp only[be3,Bool.not_eq_true',cP] at P
 obtain⟨R,_,_,_,b5⟩:=P
 simp only[aOL,cP,fK,j5] at R
 obtain⟨⟨⟨⟨hf,ht⟩,k1⟩,k2⟩,he⟩:=R
 have q:=bfb (e:=e) hf
 simp only[jm,bN] at he
 obtain⟨ad,_,i,g⟩:=he
 obtain⟨W,f2,f3,f4⟩:=iY ad
 have F:=dX.1 ht
 have av:L s.count=L w.ay:=by grind [fN]
 have ax:L s.bU=L w.bU:=by grind [fN]
 obtain⟨K,kd,bF,val,site,dI,ep⟩:=e
 simp only at ht F k1 k2 i g
 obtain⟨t,rfl⟩:∃t:Nat,K=t:=⟨K.toNat,by have:=F.1;omega⟩
 have aB:t<L w.ay:=by have:=F.2;omega
 have H:=h.st t (by omega)
 have ab:0<=gd s.count t/\gd s.count t<=n:=by
  have D:=aWu h.c0 t
  rw[h.sum] at D
  exact⟨h.c0 _<|ig<|by omega,D.1⟩
 have c:Ct1 s (oc w s ⟨t,kd,bF,val,site,dI,ep⟩) t:=⟨by omega,by grind [oc,bh,eM],ab.1⟩
 have af:kd=1\/kd=2\/kd=3\/kd=4\/kd=5\/kd=6\/kd=7\/kd=8\/kd=9\/kd=10\/kd=11\/kd=12\/kd=13\/kd=14\/kd=15\/kd=16\/kd=17\/kd=18\/kd=19\/kd=20\/kd=21\/kd=22\/kd=23:=by omega
 generalize hS:oc w s ⟨t,kd,bF,val,site,dI,ep⟩=S at*
 have ag:S.bW=(cU w s.bW t kd bF<|og ⟨t,kd,bF,val,site,dI,ep⟩).1:=by rw[<-hS];rfl
 have z:kd≠22->S.bU=s.bU:=(by grind [oc])
 have v:S.bU=s.bU->S.bW.done=s.bW.done->∀j,j<L S.bU->gd S.bW.done j=I->gd S.bU j=0:=(by grind [SI.fu])
 have G:S.bW.ak=s.bW.ak->∀j,j<L s.bW.ak->LcI w S j:=(by grind [LcI.keep,SI.lk])
 generalize og ⟨t,kd,bF,val,site,dI,ep⟩=wk at ag
 have ao:kd=22->S.bU=s.bU.set bF.toNat val:=(by grind [oc])
 clear hS
 have aC:Mk s.bW S.bW->kd≠22->(gd s.bW.ay t).cQ=2->SI w S (n+1):=λm a X=>by
  refine h.next c q (λj A=>?_) (G m.lk) m.len (by rw[m.lk]) (.inl m.tx) (v (z a) m.dn)
  by_cases T:j=t
  ·grind [Mk.th,StI.own,StI.nw]
  ·have ae:=h.st j A
   rcases m.th j with D|⟨D,Z⟩
   ·grind [StI.keep,Mk.lk]
   ·have e4:=ae.wt<|.inl D
    refine⟨by simp_all,by grind [Ct1.ne,StI.fr],by grind,(by grind [Mk.lk]),by simp_all,by grind [Ct1.bg,StI.at']⟩
 have al:S.bW=s.bW->kd≠22->(gd s.bW.ay t).cQ=2->SI w S (n+1):=(by grind [SI.mk1,StI.own,StI.nw])
 have one:∀x:aoC,S.bW=ni s.bW t x->kd≠22->x.cQ=2\/x.cQ=5->x.cond=0->SI w S (n+1):=λx b a X Z=>by
  refine h.mk1 c q (by grind [ni,bh,aTf]) (by grind [ni]) (by rw[b];rfl) (by grind [StI.own,ni,bh,aTe]) (λl=> .inl<|by rw[b];rfl) (G<|by rw[b];rfl) (.inl<|by rw[b];rfl) (v (z a)<|by rw[b];rfl)
 have lock:∀(k:Nat) (x:cg),S.bW={s.bW with ak:=s.bW.ak.set k x}->kd≠22->(gd s.bW.ay t).cQ=2->(x.awG=(gd s.bW.ak k).awG\/x.awG=t\/x.awG= -1)->(x.bk≠[]->(gd w.ak k).rw=U/\x.awG= -1)->(∀y∈x.bk,y=t\/y∈(gd s.bW.ak k).bk)->jC x.bk->k<L s.bW.ak->SI w S (n+1):=λk x b a X Z h4 h5 h6 P=>by
  have C:∀j,gd S.bW.ak j=if k=j/\j<L s.bW.ak then x else gd s.bW.ak j:=(by grind [gdS])
  refine h.mk1 c q (λj _=>by rw[b]) (by rw[b]) (by rw[b];simp) (by grind [StI.own,StI.nw]) (λl=>?_) (λj A=>?_) (.inl<|by rw[b]) (by grind)
  ·grind
  ·by_cases B:k=j
   ·subst B
    have p:gd S.bW.ak k=x:=by simp_all
    have l0:=h.lk k A
    refine⟨by grind [Ct1.bg,LcI.ow,Ct1.own],by simp_all,by grind [Ct1.own,Ct1.bg,LcI.rb],by simp_all⟩
   grind [LcI.keep,SI.lk]
 rcases af with rfl|rfl|rfl|rfl|rfl|rfl|rfl|rfl|rfl|rfl|rfl|rfl|rfl|rfl|rfl|rfl|rfl|rfl|rfl|rfl|rfl|rfl|rfl
 all_goals simp[lc] at g
 ·exact one {gd s.bW.ay t with cQ:=2} (by grind [cU,fA]) (by decide) (.inl rfl) (H.nw<|by omega)
 ·exact one {gd s.bW.ay t with cQ:=5} (by grind [cU,fA]) (by decide) (.inr rfl) (H.nw<|by omega)
 ·grind [cU]
 ·grind [cU]
 ·grind [cU]
 ·
  have f:=mJ i (by decide) (by decide)
  have d:bF.toNat<L s.bW.ak:=by have:=f.1;have:=f.2;omega
  have l0:=h.lk _ d
  simp[named] at i
  exact lock bF.toNat {cH s.bW bF with awG:=t} (by grind [cU,I9]) (by decide) g.1 (.inr<|.inl rfl) (λa=>by have:=(l0.rd a).1;grind) (λy o=> .inr o) l0.inc d
 ·have f:=mJ i (by decide) (by decide)
  have d:bF.toNat<L s.bW.ak:=by have:=f.1;have:=f.2;omega
  have l0:=h.lk _ d
  exact lock bF.toNat {cH s.bW bF with awG:= -1} (by grind [cU,I9]) (by decide) g.1 (.inr<|.inr rfl) (λa=>⟨(l0.rd a).1,rfl⟩) (λy o=> .inr o) l0.inc d
 ·
  have f:=mJ i (by decide) (by decide)
  have d:bF.toNat<L s.bW.ak:=by have:=f.1;have:=f.2;omega
  have l0:=h.lk _ d
  simp[named] at i
  have e0:mP (cH s.bW bF).bk [(t:Int)]=fk (cH s.bW bF).bk t:=Ro l0.inc
  exact lock bF.toNat {cH s.bW bF with bk:=mP (cH s.bW bF).bk [(t:Int)]} (by grind [cU,I9]) (by decide) g.1 (.inl rfl) (λ_=>⟨i.2,g.2.1⟩) (λy o=>by rw[e0] at o;exact an1 o) (by rw[e0];exact Nz l0.inc) d
 ·
  have f:=mJ i (by decide) (by decide)
  have d:bF.toNat<L s.bW.ak:=by have:=f.1;have:=f.2;omega
  have l0:=h.lk _ d
  exact lock bF.toNat {cH s.bW bF with bk:=fJ (cH s.bW bF).bk t} (by grind [cU,I9]) (by decide) g.1 (.inl rfl) (λa=>l0.rd<|λe=>a<|by simp[cH,e,fJ]) (λy o=> .inr (jW.1 o).1) (amF.2<|(amF.1 l0.inc).filter _) d
 ·
  have f:=mJ i (by decide) (by decide)
  have d:bF.toNat<L s.bW.ak:=by have:=f.1;have:=f.2;omega
  have l0:=h.lk _ d
  exact lock bF.toNat {cH s.bW bF with awG:=t} (by grind [cU,I9]) (by decide) g.1 (.inr<|.inl rfl) (λa=>aNK g.2.2 a) (λy o=> .inr o) l0.inc d
 ·have f:=mJ i (by decide) (by decide)
  have d:bF.toNat<L s.bW.ak:=by have:=f.1;have:=f.2;omega
  have l0:=h.lk _ d
  exact lock bF.toNat {cH s.bW bF with awG:= -1} (by grind [cU,I9]) (by decide) g.1 (.inr<|.inr rfl) (λa=>⟨(l0.rd a).1,rfl⟩) (λy o=> .inr o) l0.inc d
 ·
  have b:S.bW={s.bW with tx:=(t:Int)}:=by grind [cU]
  grind [SI.mk1,StI.own,StI.nw]
 ·have b:S.bW={s.bW with tx:= -1}:=by grind [cU]
  grind [SI.mk1,StI.own,StI.nw]
 ·exact one {gd s.bW.ay t with atomic:=U} (by grind [cU,fA]) (by decide) (.inl g.1) (H.nw<|by omega)
 ·exact one {gd s.bW.ay t with atomic:=I} (by grind [cU,fA]) (by decide) (.inl g.1) (H.nw<|by omega)
 ·
  have f:=oT i (by decide) (by decide)
  have r:bF.toNat<L w.bC:=by have:=f.1;have:=f.2;omega
  have hm:=W _<|ig r
  have u:(gd w.bC bF.toNat).eg.toNat<L s.bW.ak:=by omega
  have l0:=h.lk _ u
  generalize M:(gd w.bC bF.toNat).eg=m at*
  have b:S.bW=ni (I9 s.bW m {cH s.bW m with awG:= -1}) t {fA s.bW t with cQ:=3,cond:=bF}:=by grind [cU]
  have C:∀j,gd S.bW.ak j=if m.toNat=j/\j<L s.bW.ak then{cH s.bW m with awG:= -1} else gd s.bW.ak j:=λj=>by rw[b];exact gdS
  have N:gd S.bW.ay t={fA s.bW t with cQ:=3,cond:=bF}:=by grind [ni,bh,aTe,I9]
  refine h.mk1 c q (by grind [ni,bh,I9,aTf]) (by grind [ni,I9]) (by grind [ni,I9]) ?_ (λl=>?_) (λj A=>?_) (.inl<|by rw[b];rfl) (v (z<|by decide)<|by rw[b];rfl)
  ·have aw:=c.at
   refine⟨by grind,by grind,by grind,λ_=>?_,by grind,λ_=>c.own⟩
   rw[N]
   refine⟨f,?_⟩
   simp only[M]
   rw[C,f8 ⟨rfl,u⟩]
   simp only;omega
  ·grind
  ·by_cases B:m.toNat=j
   ·subst B
    have p:=C m.toNat
    rw[f8 ⟨rfl,u⟩] at p
    exact⟨by grind,by rw[p];exactλa=>⟨(l0.rd a).1,rfl⟩,by rw[p];exactλy o=>c.bg<|l0.rb y o,by rw[p];exact l0.inc⟩
   grind [LcI.keep,SI.lk]
 ·
  have f:=oT i (by decide) (by decide)
  have r:bF.toNat<L w.bC:=by have:=f.1;have:=f.2;omega
  have hm:=W _<|ig r
  have E:=hv _ r
  have u:(gd w.bC bF.toNat).eg.toNat<L s.bW.ak:=by omega
  have l0:=h.lk _ u
  simp only[uh,cP] at E
  have aA:=E.2
  clear E
  generalize M:(gd w.bC bF.toNat).eg=m at*
  have b:S.bW=ni (I9 s.bW m {cH s.bW m with awG:=t}) t {fA s.bW t with cQ:=2,cond:=0}:=by grind [cU]
  have C:∀j,gd S.bW.ak j=if m.toNat=j/\j<L s.bW.ak then{cH s.bW m with awG:=(t:Int)} else gd s.bW.ak j:=λj=>by rw[b];exact gdS
  have N:gd S.bW.ay t={fA s.bW t with cQ:=2,cond:=0}:=by grind [ni,bh,aTe,I9]
  refine h.mk1 c q (by grind [ni,bh,I9,aTf]) (by grind [ni,I9]) (by grind [ni,I9]) (StI.own c N (.inl rfl) rfl) (λl=>?_) (λj A=>?_) (.inl<|by rw[b];rfl) (v (z<|by decide)<|by rw[b];rfl)
  ·grind
  ·by_cases B:m.toNat=j
   ·subst B
    have p:=C m.toNat
    rw[f8 ⟨rfl,u⟩] at p
    exact⟨by grind [Ct1.own],by rw[p];exactλa=>aNK (l0.rd a).1 (by simp_all),by rw[p];exactλy o=>c.bg<|l0.rb y o,by rw[p];exact l0.inc⟩
   grind [LcI.keep,SI.lk]
 ·grind [a6V]
 ·grind [a6W]
 ·
  have r:=Eb i (by decide) (by decide)
  have az:bF.toNat<L w.ay:=by have:=r.1;have:=r.2;omega
  have a:bF.toNat≠t:=by grind
  have O:=h.st bF.toNat (by omega)
  have b:S.bW=ni s.bW bF {fA s.bW bF with cQ:=1}:=by grind [cU]
  have C:∀j,gd S.bW.ay j=if bF.toNat=j/\j<L s.bW.ay then{fA s.bW bF with cQ:=1} else gd s.bW.ay j:=λj=>by rw[b];exact gdS
  refine h.next c q (λj A=>?_) (G<|by rw[b];rfl) (by grind [ni]) (by rw[b];rfl) (.inl<|by rw[b];rfl) (v (z<|by decide)<|by rw[b];rfl)
  by_cases B:bF.toNat=j
  ·subst B
   have p:=C bF.toNat
   rw[f8 ⟨rfl,A⟩] at p
   have h0:gd s.count bF.toNat=0:=O.fr.1<|.inl g.2.2
   refine⟨by grind,by grind [Ct1.ne],by grind,by grind,by rw[p];intro _;exact O.nw (by omega),by rw[p];exactλha=>c.bg<|O.at' ha⟩
  ·by_cases T:j=t
   ·grind [StI.own,StI.nw]
   ·exact StI.keep c T (by grind) (λl=> .inl<|by rw[b];rfl) (h.st j A)
 ·grind [cU]
 ·
  have b:S.bW={s.bW with done:=s.bW.done.set bF.toNat U}:=by grind [cU]
  grind [SI.mk1,StI.own,StI.nw,gdS,SI.fu]
 grind [cU]
structure PB(x:ae)(v6 v7:Nat)(c:aBY)(ch:BF):Prop where
 hl:L x=4096
 b1:box x (3,1)=V ⟨129,7,U,U,[c.c]⟩
 b3:box x (5,1)=V ⟨170,2,U,U,[ch.c]⟩
 b6:box x (6,v6)=V ⟨124,7,U,U,[aOO]⟩
 b7:box x (7,v7)=V ⟨62,7,U,U,[bnk]⟩
theorem PB.kx{x y:ae}{v6 v7:Nat}{c:aBY}{ch:BF}{ks:List Nat}(P:PB x v6 v7 c ch)(F:Kx ks x y)(h:3∉ks/\5∉ks/\6∉ks/\7∉ks):PB y v6 v7 c ch:=⟨F.len.trans P.hl,F.keep _ _ h.1 P.b1,F.keep _ _ h.2.1 P.b3,F.keep _ _ h.2.2.1 P.b6,F.keep _ _ h.2.2.2 P.b7⟩
theorem PB.fx{x y:ae}{v6 v7:Nat}{c:aBY}{ch:BF}{Lw:List Id}(P:PB x v6 v7 c ch)(F:Fx x y Lw)(h:∀q∈Lw,q.1≠3/\q.1≠5/\q.1≠6/\q.1≠7):PB y v6 v7 c ch:=⟨F.len.trans P.hl,(by grind [Fx.keep,PB.b1]),(by grind [Fx.keep,PB.b3]),(by grind [Fx.keep,PB.b6]),by grind [Fx.keep,PB.b7]⟩
section
variable{pl:Nat×Nat×Nat}{x:ae}{a:AV}{f:Nat->AV×AV}{ss:List aNQ}{n u:Nat}
def TTs.ix(T:TTs pl I x a f ss n)(h:u<n){K:cC}(g:∀b,a= .m b n->box x b=V ⟨251,4,U,U,alx f ss n⟩->K (.p b u 0)):rV (cz 4 x a<|iv u) K:=by rcases T.bx with⟨j,_⟩|⟨b,rfl,_,d⟩;omega;have:cz 4 x (.m b n) (iv u)=V (.p b u 0):=(by simp[cz,d,h]);rw[this];exact g b rfl d
def be4{b:Id}{e:TypeId}{z:Nat}{o v:Bool}(d:box x b=V ⟨e,z,o,v,alx f ss n⟩)(g:u<n):vl (V 4) x (.p b u 0)=V (.a [iv (gd ss u).pc,(f u).1,(f u).2,iv (gd ss u).ac]):=by simp only[vl,iE,d,aQd,aTy g];rfl
theorem a7b{s:aNQ}(b:s.pc=(gd ss u).pc)(d:s.ac=(gd ss u).ac):alx f (ss.set u s) n=alx f ss n:=by grind [alx,gdS]
theorem bfD(T:TTs pl I x a f ss n)(z:u<n)(O:n<=L ss){m:Nat}(N:m<L (gd ss u).H7){v:Int}{K:be}(H:pl.1≠pl.2.1/\pl.1≠pl.2.2)(D:∀p y,TTs pl I y a f (ss.set u {gd ss u with H7:=(gd ss u).H7.set m v}) n->Fx x y (aA (f u).1)->K p y):rV (cz 1 x (f u).1<|iv m) λp=>sV (aK 1 x p<|iv v) (K p):=by refine ixG (T.g1 u z) (by grind [dJ]) λd m1 j t=>?_;rw[bh];have G:d.1=pl.1:=T.p1 u z d (by grind [aA]);refine aQz (x:=iv v) (r:=[iv<|gd (gd ss u).H7 m]) t (by grind [bT]) (by simp) rfl rfl rfl λy F o=>?_;have l:((gd ss u).H7.map ci++m1).set m ([iv<|gd (gd ss u).H7 m].set 0<|nrm<|eR x<|iv v)=((gd ss u).H7.set m v).map ci++m1:=(by rw[List.set_append_left _ _ (by grind),vB];rfl);rw[l] at o;have E:aA (f u).1=[d]:=(by rw[j];rfl);have w:∀k,k<n->k≠u->∀q∈aA (f k).1,q∉[d]:=(by grind [TTs.d1]);refine D _ y ⟨T.bx.elim .inl λ⟨b,B,C,M⟩=> .inr ⟨b,B,C,?_⟩,λk g=>?_,λk g=>?_,T.p1,T.p2,T.d1,T.d2⟩ (by simp_all);grind [a7b,Fx.keep];rw[gdS];by_cases e:u=k;subst e;rw[f8 ⟨rfl,by omega⟩];exact .inr ⟨d,m1,by rw[j];simp,o⟩;rw[dB<|λh=>e h.1];exact(T.g1 k g).fx F<|w k g<|Sa e;rw[gdS];have A:G2 I y (f k).2 (gd ss k).J6:=(T.g2 k g).fx F (by grind [TTs.p2]);grind
theorem bfE(T:TTs pl I x a f ss n)(D:u<n)(R:n<=L ss){m:Nat}(B:m<L (gd ss u).J6){l:List Int}{t o:Bool}{K:ae->Prop}(O:pl.2.1≠pl.1/\pl.2.1≠pl.2.2)(H:∀y,TTs pl I y a f (ss.set u {gd ss u with J6:=(gd ss u).J6.set m l}) n->Fx x y (aA (f u).2)->K y):rV (cz 1 x (f u).2<|iv m) λp=>sV (aK 1 x p<|.l (l.map ci) t o) K:=by have v:gp x 38 1 (f u).2 ((gd ss u).J6.map cl):=T.g2 u D;refine ixG v (by grind [dJ]) λd m1 j A=>?_;rw[bh];have N:d.1=pl.2.1:=T.p2 u D d (by grind [aA]);refine aQz (x:= .l (l.map ci) t o) (r:=[sl ci<|gd (gd ss u).J6 m]) A (by rw[xe (by grind),bj9,eC B,bT B];rfl) (by simp) rfl rfl rfl λy F z=>?_;have w:((gd ss u).J6.map cl++m1).set m ([sl ci<|gd (gd ss u).J6 m].set 0<|nrm<|eR x<|.l (l.map ci) t o)=((gd ss u).J6.set m l).map cl++m1:=(by rw[List.set_append_left _ _ (by grind),vB];rfl);rw[w] at z;have M:aA (f u).2=[d]:=(by rw[j];rfl);have C:∀k,k<n->k≠u->∀q∈aA (f k).2,q∉[d]:=(by grind [TTs.d2]);refine H y ⟨T.bx.elim .inl λ⟨b,E,G,P⟩=> .inr ⟨b,E,G,?_⟩,λk g=>?_,λk g=>?_,T.p1,T.p2,T.d1,T.d2⟩ (by simp_all);grind [a7b,Fx.keep];rw[gdS];have g1:gp y 2 1 (f k).1 ((gd ss k).H7.map ci):=(T.g1 k g).fx F (by grind [TTs.p1]);grind;rw[gdS];by_cases e:u=k;subst e;rw[f8 ⟨rfl,by omega⟩];show gp y 38 1 (f u).2<|((gd ss u).J6.set m l).map cl;exact .inr ⟨d,m1,by rw[j];simp,z⟩;rw[dB<|λh=>e h.1];exact(T.g2 k g).fx F<|C k g<|Sa e
theorem bfC{b:Id}{r:List AV}{s:aNQ}{y:ae}(T:TTs pl I y (.m b<|L ss) f ss<|L ss){e:TypeId}{z:Nat}{o:Bool}(B:u<L ss)(t:box x b=V ⟨e,z,o,U,(alx f ss<|L ss).set u r⟩)(w:r.map (rS x)=s.c)(v:∀k,k<L ss->rS x (f k).1=sl ci (gd ss k).H7/\rS x (f k).2=sl cl (gd ss k).J6):fz x (.m b<|L ss)=sl aNQ.c (ss.set u s):=by have h:((alx f ss<|L ss).set u r).map (·.map (rS x))=(ss.set u s).map aNQ.c:=(by rw[vB,vB,w];congr 1;refine aqI λk=>?_;rcases jj k (L ss) with d|d;rw[bj9,aTy d,bj9,eC d];obtain⟨l,p⟩:=v k d;simp only[df,ji,mU,l,p,bT d];rfl;grind [aQ8]);have e:((alx f ss<|L ss).set u r).take (L ss)=(alx f ss<|L ss).set u r:=List.take_of_length_le (by grind [aQ8]);have q:(((alx f ss<|L ss).set u r).all λr=>r.all λc=>eN<|rS x c)=U:=(by rw[dV];intro C j;rw[dV];intro c A;have g:=CA (f:=(·.map (rS x))) j;rw[h] at g;obtain⟨s,_,hs⟩:=dN.1 g;grind [CA,aNQ.c,eN,sl]);simp only[Ab.fz,dQ,t,e,q,aNV,h];rw[dB<|by decide];rfl
theorem idb{b q:Id}{k:Nat}(h:q∈[b])(d:b.1=k):q.1=k:=by simp_all
end
def aQc(t b:aNQ):Prop:=L t.H7=L b.H7/\L t.J6=L b.J6/\(∀l∈t.J6,Tn l)/\t.pc=b.pc/\t.ac=b.ac
structure SK(ch:BF)(cc fu:AV)(v15 u:Nat)(s:atC):Prop where
 pc:∀q∈aA cc,q.1=11
 pf:∀q∈aA fu,q.1=15/\q≠(15,v15)
 hu:u<L s.ay
 hch:ch.aq=u
structure SM(x:ae)(v6 v7 v9 v14 v15:Nat)(c:aBY)(ch:BF)(S:aW)(fl:Bool×Bool×Bool×Bool×Bool×Bool)(cc fu ta:AV)(f:Nat->AV×AV)(u:Nat)(s:atC)(e:aP)(i:aNZ):Prop where
 P:PB x v6 v7 c ch
 b4:box x (4,1)=V ⟨124,7,U,U,[eD S fl++[cc,fu,ta]]⟩
 b9:∃v:Int,box x (9,v9)=V ⟨62,7,U,U,[({e with value:=v}:aP).c]⟩
 b14:box x (14,v14)=V ⟨251,4,U,U,[[iv (gd s.ay u).pc,(f u).1,(f u).2,iv (gd s.ay u).ac]]⟩
 b15:box x (15,v15)=V ⟨264,6,U,U,[i.c]⟩
 gc:∃l:List Int,L l=L s.cells/\gp x 2 1 cc (l.map ci)
 gf:∃l:List Int,L l=L s.bU/\gp x 2 1 fu (l.map ci)
 tt:∃ss:List aNQ,L ss=L s.ay/\TTs (12,31,33) I x ta f ss (L ss)/\∀k,k<L ss->aQc (gd ss k) (gd s.ay k)
section
variable{x:ae}{v6 v7 v9 v14 v15:Nat}{c:aBY}{ch:BF}{S:aW}{fl:Bool×Bool×Bool×Bool×Bool×Bool}{cc fu ta:AV}{f:Nat->AV×AV}{u:Nat}{s:atC}{e:aP}{i:aNZ}{K:cC}{K2:be}{KS:ae->Prop}
theorem SM.to(M:SM x v6 v7 v9 v14 v15 c ch S fl cc fu ta f u s e i){y:ae}{Lw:List Id}(F:Fx x y Lw)(h:∀q∈Lw,q.1≠3/\q.1≠4/\q.1≠5/\q.1≠6/\q.1≠7/\q.1≠14/\q≠(15,v15))(b:∃v:Int,box y (9,v9)=V ⟨62,7,U,U,[({e with value:=v}:aP).c]⟩)(d:∃l:List Int,L l=L s.cells/\gp y 2 1 cc (l.map ci))(g:∃l:List Int,L l=L s.bU/\gp y 2 1 fu (l.map ci))(j:∃ss:List aNQ,L ss=L s.ay/\TTs (12,31,33) I y ta f ss (L ss)/\∀k,k<L ss->aQc (gd ss k) (gd s.ay k)):SM y v6 v7 v9 v14 v15 c ch S fl cc fu ta f u s e i:=⟨M.P.fx F (by grind),(by grind [Fx.keep,SM.b4]),b,(by grind [Fx.keep,SM.b14]),(by grind [Fx.keep,SM.b15]),d,g,j⟩
theorem SM.keep9(M:SM x v6 v7 v9 v14 v15 c ch S fl cc fu ta f u s e i){y:ae}{Lw:List Id}(F:Fx x y Lw)(h:∀q∈Lw,q.1≠9):∃v:Int,box y (9,v9)=V ⟨62,7,U,U,[({e with value:=v}:aP).c]⟩:=by grind [SM.b9,Fx.keep]
theorem SM.keepC(M:SM x v6 v7 v9 v14 v15 c ch S fl cc fu ta f u s e i){y:ae}{Lw:List Id}(F:Fx x y Lw)(h:∀q∈aA cc,q∉Lw):∃l:List Int,L l=L s.cells/\gp y 2 1 cc (l.map ci):=by grind [SM.gc,gp.fx]
theorem SM.keepF(M:SM x v6 v7 v9 v14 v15 c ch S fl cc fu ta f u s e i){y:ae}{Lw:List Id}(F:Fx x y Lw)(h:∀q∈aA fu,q∉Lw):∃l:List Int,L l=L s.bU/\gp y 2 1 fu (l.map ci):=by grind [SM.gf,gp.fx]
theorem SM.keepT(M:SM x v6 v7 v9 v14 v15 c ch S fl cc fu ta f u s e i){y:ae}{Lw:List Id}(F:Fx x y Lw)(h:∀q∈Lw,q.1≠12/\q.1≠31/\q.1≠33):∃ss:List aNQ,L ss=L s.ay/\TTs (12,31,33) I y ta f ss (L ss)/\∀k,k<L ss->aQc (gd ss k) (gd s.ay k):=by grind [SM.tt,TTs.fx]
theorem aX3(M:SM x v6 v7 v9 v14 v15 c ch S fl cc fu ta f u s e i)(C:SK ch cc fu v15 u s){v:Int}(h:∀y,SM y v6 v7 v9 v14 v15 c ch S fl cc fu ta f u s e i->KS y):sV (aK 1 x (.p (9,v9) 0 3)<|iv v) KS:=by obtain⟨l,j⟩:=M.b9;refine A0 j rfl (by simp[aP.c]) λy F b=>h y (M.to F (by simp) ⟨v,b⟩ (M.keepC F λq d g=>?_) (M.keepF F λq d g=>?_)<|M.keepT F<|by simp);grind [SK.pc];have k:=(C.pf q d).1;simp_all
theorem aTu{e:TypeId}{a:AV}{l:List Int}(g:gp x e 1 a<|l.map ci){o:Int}(b:aF (L l) o)(d:∀v:Int,K<|iv v):rV (cz 1 x a<|iv o) λp=>rV (vl J x p) K:=by obtain⟨m,rfl⟩:∃m:Nat,o=m:=⟨o.toNat,by have:=b.1;omega⟩;have h:m<L l:=(by have:=b.2;omega);refine(SlR.of g).ix1 (c:=iv<|gd l m) (by grind [bT]) (K:=λ_=>K) λ_ _=>d _
theorem bfe(M:SM x v6 v7 v9 v14 v15 c ch S fl cc fu ta f u s e i){o:Int}(h:aF (L s.cells) o)(b:∀v:Int,K<|iv v):rV (cz 1 x cc<|iv o) λp=>rV (vl J x p) K:=by obtain⟨l,d,g⟩:=M.gc;exact aTu g (by simp_all) b
theorem bff(M:SM x v6 v7 v9 v14 v15 c ch S fl cc fu ta f u s e i){o:Int}(h:aF (L s.bU) o)(b:∀v:Int,K<|iv v):rV (cz 1 x fu<|iv o) λp=>rV (vl J x p) K:=by obtain⟨l,d,g⟩:=M.gf;exact aTu g (by simp_all) b
def aX2(M:SM x v6 v7 v9 v14 v15 c ch S fl cc fu ta f u s e i)(C:SK ch cc fu v15 u s){o:Int}(j:aF (L (gd s.ay u).H7) o)(h:∀v:Int,K<|iv v):rV (cz 1 x (f u).1<|iv o) λp=>rV (vl J x p) K:=by obtain⟨ss,d,T,g⟩:=M.tt;have b:u<L ss:=(by rw[d];exact C.hu);exact aTu (T.g1 u b) (by rw[(g u b).1];exact j) h
theorem aR5{e:TypeId}{a:AV}{l:List Int}(g:gp x e 1 a<|l.map ci){o v:Int}(j:aF (L l) o)(k:∀p y,Fx x y (aA a)->gp y e 1 a ((l.set o.toNat v).map ci)->K2 p y):rV (cz 1 x a<|iv o) λp=>sV (aK 1 x p<|iv v) (K2 p):=by refine ixG g (by grind) λb m q t=>?_;have w:o.toNat<L l:=(by have:=j.1;have:=j.2;omega);refine aQz (x:=iv v) (r:=[iv<|gd l o.toNat]) t (by grind [bT]) (by simp) rfl rfl rfl λy F h=>?_;have d:(l.map ci++m).set o.toNat ([iv<|gd l o.toNat].set 0<|nrm<|eR x<|iv v)=(l.set o.toNat v).map ci++m:=(by rw[List.set_append_left _ _ (by grind),vB];rfl);rw[d] at h;exact k _ y (by grind [aA]) (.inr ⟨b,m,by rw[q];simp,h⟩)
theorem bfg(M:SM x v6 v7 v9 v14 v15 c ch S fl cc fu ta f u s e i)(C:SK ch cc fu v15 u s){o v:Int}(m:aF (L s.cells) o)(h:∀p y,SM y v6 v7 v9 v14 v15 c ch S fl cc fu ta f u s e i->K2 p y):rV (cz 1 x cc<|iv o) λp=>sV (aK 1 x p<|iv v) (K2 p):=by obtain⟨l,d,g⟩:=M.gc;refine aR5 g (by simp_all) λp y F k=>h p y (M.to F (λq b=>?_) (M.keep9 F λq b=>?_) (by grind) (M.keepF F λq b j=>?_)<|M.keepT F λq b=>?_);grind [SK.pc];grind [SK.pc];have d:=(C.pf q b).1;grind [SK.pc];grind [SK.pc]
theorem bfh(M:SM x v6 v7 v9 v14 v15 c ch S fl cc fu ta f u s e i)(C:SK ch cc fu v15 u s){o v:Int}(m:aF (L s.bU) o)(j:∀p y,SM y v6 v7 v9 v14 v15 c ch S fl cc fu ta f u s e i->K2 p y):rV (cz 1 x fu<|iv o) λp=>sV (aK 1 x p<|iv v) (K2 p):=by obtain⟨l,h,g⟩:=M.gf;refine aR5 g (by simp_all) λp y F k=>j p y (M.to F (λq b=>?_) (M.keep9 F λq b=>?_) (M.keepC F λq b d=>?_) (by grind)<|M.keepT F λq b=>?_);grind [SK.pf];have:=(C.pf q b).1;omega;have h:=(C.pf q d).1;grind [SK.pc];have:=(C.pf q b).1;omega
theorem a7e{ss:List aNQ}{t:aNQ}(b:∀k,k<L ss->aQc (gd ss k) (gd s.ay k))(d:aQc t<|gd s.ay u):∀k,k<L (ss.set u t)->aQc (gd (ss.set u t) k) (gd s.ay k):=(by grind [gdS])
theorem bfi(M:SM x v6 v7 v9 v14 v15 c ch S fl cc fu ta f u s e i)(C:SK ch cc fu v15 u s){o v:Int}(l:aF (L (gd s.ay u).H7) o)(r:∀p y,SM y v6 v7 v9 v14 v15 c ch S fl cc fu ta f u s e i->K2 p y):rV (cz 1 x (f u).1<|iv o) λp=>sV (aK 1 x p<|iv v) (K2 p):=by obtain⟨ss,j,T,k⟩:=M.tt;have b:u<L ss:=(by rw[j];exact C.hu);obtain⟨m,rfl⟩:∃m:Nat,o=m:=⟨o.toNat,by have:=l.1;omega⟩;have g:=k u b;refine bfD T b (dA _) (by rw[g.1];have:=l.2;omega) (by decide) λp y t F=>r p y (M.to F (λq d=>?_) (M.keep9 F λq d=>?_) (M.keepC F λq d h=>?_) (M.keepF F λq d h=>?_) ⟨ss.set u {gd ss u with H7:=(gd ss u).H7.set m v},by grind,by simp_all,a7e k ⟨by simpa using g.1,g.2.1,g.2.2.1,g.2.2.2⟩⟩);have:=T.p1 u b q d;grind;have:=T.p1 u b q d;omega;have j:=T.p1 u b q h;grind [SK.pc];have j:=T.p1 u b q h;have w:=(C.pf q d).1;omega
theorem bfj(M:SM x v6 v7 v9 v14 v15 c ch S fl cc fu ta f u s e i)(C:SK ch cc fu v15 u s){o:Int}{l:List Int}{t b:Bool}(E:Tn l)(v:aF (L (gd s.ay u).J6) o)(w:∀y,SM y v6 v7 v9 v14 v15 c ch S fl cc fu ta f u s e i->KS y):rV (cz 1 x (f u).2<|iv o) λp=>sV (aK 1 x p<|.l (l.map ci) t b) KS:=by obtain⟨ss,k,T,r⟩:=M.tt;have d:u<L ss:=(by rw[k];exact C.hu);obtain⟨m,rfl⟩:∃m:Nat,o=m:=⟨o.toNat,by have:=v.1;omega⟩;have h:=r u d;refine bfE T d (dA _) (by rw[h.2.1];have:=v.2;omega) (by decide) λy B F=>w y (M.to F (λq g=>?_) (M.keep9 F λq g=>?_) (M.keepC F λq g j=>?_) (M.keepF F λq g j=>?_) ⟨ss.set u {gd ss u with J6:=(gd ss u).J6.set m l},by grind,by simp_all,a7e r ⟨h.1,by simpa using h.2.1,λz A=>(CC A).elim (h.2.2.1 z) (by simp_all),h.2.2.2⟩⟩);have:=T.p2 u d q g;grind;have:=T.p2 u d q g;simp_all;have k:=T.p2 u d q j;grind [SK.pc];have k:=T.p2 u d q j;have D:=(C.pf q g).1;simp_all
end
section
variable{x:ae}{v6 v7 v9 v14 v15:Nat}{c:aBY}{ch:BF}{S:aW}{fl:Bool×Bool×Bool×Bool×Bool×Bool}{cc fu ta:AV}{f:Nat->AV×AV}{u:Nat}{s:atC}{e:aP}{i:aNZ}{Qq:cC}
structure SB(c:aBY)(s:atC)(u:Nat):Prop where
 hu:u<L c.ay
 rg:(gd c.ay u).H7<=1000
 il:L (gd c.ay u).bid<1000000
 ev:0<=(gd s.ay u).ac/\(gd s.ay u).ac<=900
 rl:L (gd s.ay u).H7<=1000
 tl:L (gd s.ay u).J6<=1000
def aSl(Qq:cC)(S:aW)(s:atC)(e:aP)(u:Nat):Prop:=∀(cells d:List Int) (ss:List aNQ) (v:Int) (b:aNQ),L cells=L s.cells->L d=L s.bU->L ss=L s.ay->(∀k,k<L ss->aQc (gd ss k) (gd s.ay k))->((∀l∈b.J6,Tn l)/\L b.H7<=1000/\L b.J6<=1000/\0<=b.ac/\b.ac<=(gd s.ay u).ac+1)->Qq (.t [.a<|atC.c ⟨S,cells,d,ss.set u b⟩, .a ({e with value:=v}:aP).c,bv U])
end
section
variable{x:ae}{v6 v7 v9 v14 v15:Nat}{c:aBY}{ch:BF}{S:aW}{fl:Bool×Bool×Bool×Bool×Bool×Bool}{cc fu ta:AV}{f:Nat->AV×AV}{u:Nat}{s:atC}{e:aP}{i:aNZ}{Qq:cC}
def aOf{v:Int}:({e with value:=v}:aP).c=[iv e.aq,iv e.kind,iv e.bF,iv v,iv e.site,sl ci e.dI,sl ci e.ep]:=rfl
end
def aQG.b{s s':aNQ}(h:aQG s s'){k:Nat}(d:0<=s.ac/\s.ac<=k):ThB k s':=⟨h.2.1,h.2.2.1,h.1,by rcases h.2.2.2 with e|e<;>omega,by rcases h.2.2.2 with e|e<;>omega⟩
def aXt(c:aBY)(s:atC)(ch:BF)(hp:aPU c/\aOc c/\∃k,k<=900/\StB k s):Ct 187 [.a c.c, .a s.c, .a ch.c] (λr=>∃(s':atC) (e:aP) (ok:Bool),r= .t [.a s'.c, .a e.c,bv ok]/\(ok=U->EvL e/\∀k,k<=900->StB k s->StB (k+1) s')):=by
 obtain⟨hc,hb,K,hK,hs⟩:=hp
 have ej:=aP4 hc.1
 generalize hQ:(λ(r:AV)=>∃(s':atC) (e:aP) (ok:Bool),r= .t [.a s'.c, .a e.c,bv ok]/\(ok=U->EvL e/\∀k,k<=900->StB k s->StB (k+1) s'))=Qq
 refine aDq (bhk rfl rfl rfl λs6 W b1 b2 b3 h0=>?_)
 simp only[aVk,qy 8]
 refine ic W λv6 s7 F7 N7 b6=>?_
 refine ic (F7.len.trans W) λv7 s8 F8 N8 b7=>?_
 have a6:Fx s6 s8 []:=F7.trans F8
 have P:PB s8 v6 v7 c ch:=⟨a6.len.trans W,a6.kq b1,a6.kq b3,F8.kq b6,b7⟩
 have c2:=a6.kq b2
 have G:∀{x:List AV} {y:AV},aN J (y::x)=V y:=λ{x y}=>by cases y<;>rfl
 have hz:bM aOO anY []=V (.a aOO):=rfl
 have cm:bM bnk aOG []=V (.a bnk):=rfl
 have bp:∀{x:ae},PB x v6 v7 c ch->sV (aK 7 x (.p (6,v6) 0 0)<|.a aOO) λy=>sV (aK 7 y (.p (7,v7) 0 0)<|.a bnk) λz=>rV (vl (V 7) z<|.p (6,v6) 0 0) λa=>rV (vl (V 7) z<|.p (7,v7) 0 0) λb=>aE (λr=>Qq<|bm1 r) z [a,b,bv I]:=λ{x} P=>by
  refine r9 P.b6 rfl rfl λy F b=>?_
  refine r9 (F.kq P.b7) rfl rfl λz F2 b2=>?_
  rw[aEa (F2.kq b) rfl]
  simp only[aY]
  rw[aEa b2 rfl]
  refine aOH (vs':=[.a<|atC.c ⟨⟨[],0,[],[]⟩,[],[],[]⟩, .a<|aP.c ⟨0,0,0,0,0,[],[]⟩,bv I]) rfl rfl ?_
  rw[<-hQ];exact⟨_,_,_,rfl,by simp⟩
 simp only[qz 10,qy 12,u0,u1,P.b1,P.b3,c2,BF.c,pz,G,aj,ar,Fa,aWn,↓uL]
 refine⟨⟨hc,hb,K,hs⟩,?_⟩
 rintro r ⟨e,ok,rfl,ca,dt⟩
 refine⟨by simp[lo,nA,eB,iR,aBY.c,J9.c,atC.c,aW.c,sl],?_⟩
 simp only[oJ,pG,aY]
 refine anu P.hl λv9 s9 F9 N9 D=>?_
 have P9:=P.fx F9 (by simp)
 have bY:=F9.kq c2
 cases ok with
 |false=>
  simp only[qz 14,qy 16,qy 20,u0,u1,↓iC,hz,cm,↓uL]
  exact bp P9
 |true=>
 obtain⟨ds,ce,bd⟩:=dt rfl
 have Z:=hs.sy
 simp only[qz 14,qy 16,qy 20,u0,u1,P9.b1,P9.b3,bY,D,BF.c,rk,pz,G,aj,ar,aWn,↓iB,↓uL]
 refine⟨⟨by omega,λl W=>by have:=Z.rd l W;omega,by have:=Z.lo;omega,by have:=Z.dn;omega,by have:=Z.th;omega⟩,?_⟩
 rintro r ⟨fl,rfl⟩
 rcases b8:jm c.aQ s.bW ch.aq e.kind e.bF with _|_
 ·refine⟨by simp[lo,nA,eB,iR,J9.c,aW.c,sl],?_⟩
  simp only[bdT,oJ,pG,KM,aY]
  refine anu P9.hl λdM dD aD cY bS=>?_
  simp only[qz 22,qy 24,u0,u1,↓iC,hz,cm,↓uL]
  exact bp (P9.fx aD<|by simp)
 refine⟨by simp[lo,nA,eB,iR,J9.c,aW.c,sl],?_⟩
 simp only[bdZ,oJ,pG,KM,aY]
 obtain⟨dR,f1,f2,f3,f4,f5⟩:=ds
 simp only[jm,bN] at b8
 obtain⟨_,el,cj,_⟩:=b8
 obtain⟨u,R⟩:∃u:Nat,ch.aq=u:=⟨ch.aq.toNat,by have:=ce.1;omega⟩
 have aL:u<L c.ay:=by have:=ce.2;omega
 have aM:u<L s.ay:=by omega
 obtain⟨p1,p2,p3⟩:=f5 u aL
 obtain⟨r1,r2,r3⟩:=hc.2.2 _<|ig aL
 have a9:=hs.th _<|ig aM
 generalize hi:aQs c s ch.aq=i at bd
 have cd:gd (gd c.ay u).bid (gd s.ay u).pc.toNat=i:=by grind [aQs]
 have du:(gd s.ay u).pc.toNat<L (gd c.ay u).bid:=by have:=p1.1;have:=p1.2;omega
 have a5:∀j∈a6z i,aF (L (gd s.ay u).H7) j/\aF (L (gd s.ay u).J6) j:=λj hj=>by
  have:=r3 _ du j (by rw[cd];exact hj)
  exact⟨⟨this.1,by omega⟩,⟨this.1,by omega⟩⟩
 generalize hS:(cU c.aQ s.bW ch.aq e.kind e.bF ch.amt).1=S
 generalize(cU c.aQ s.bW ch.aq e.kind e.bF ch.amt).2=av
 have B:SB c s u:=⟨aL,by omega,hb.2 _<|ig aL,⟨a9.2.2.2.1,by have:=a9.2.2.2.2;omega⟩,a9.1,a9.2.1⟩
 have cJ:aSl Qq S s e u:=λcells az ss v t' q1 q2 q3 q4 q5=>by
  rw[<-hQ]
  refine⟨_,_,_,rfl,λ_=>⟨ca,λk hk ck=>?_⟩⟩
  have cK:=ck.th _<|ig aM
  refine⟨by grind [jX.apply,StB.sy],by simp_all,by simp_all,by grind [StB.tl],λt ht=>?_⟩
  rcases CC ht with ht|rfl
  ·obtain⟨j,hj,rfl⟩:=ou ht
   obtain⟨w1,w2,w3,w4,w5⟩:=q4 j hj
   have ba:=ck.th _ (ig (l:=s.ay) (k:=j)<|by omega)
   rw[bT hj] at w1 w2 w3 w4 w5
   exact⟨by rw[w1];exact ba.1,by rw[w2];exact ba.2.1,w3,by rw[w5];exact ba.2.2.2.1,by rw[w5];have:=ba.2.2.2.2;omega⟩
  ·exact⟨q5.2.1,q5.2.2.1,q5.1,q5.2.2.2.1,by have:=cK.2.2.2.2;omega⟩
 refine anu P9.hl λdM dD aD cY bS=>?_
 have bQ:=P9.fx aD (by simp)
 have bo:=aD.kq bY
 have cv:=aD.kq D
 have dz:aN (V 7) s.c=V (.a s.c):=rfl
 simp only[qz 22,qy 24,u0,u1,bo,dz,iy,↓iB,↓uL]
 refine jH rfl (bds bQ.hl ⟨by have:=Z.lo;omega,by have:=Z.dn;omega,by have:=Z.th;omega,λl W=>by have:=Z.rd l W;omega⟩ (by omega) (by omega) (by have:=hs.tl;omega) λt ht=>⟨(hs.th t ht).1,(hs.th t ht).2.1,λz hz=>((hs.th t ht).2.2.1 z hz).len⟩) ?_
 rintro r eo ⟨a1,a2,a3,cc,fu,ta,f,rfl,_,gc,gf,T,iq,en,dx,na⟩
 refine⟨iq.len,?_⟩
 have c0:=bQ.kx iq (by simp)
 have cB:=iq.kq bo
 have cw:=iq.kq cv
 have bt:=iq.kq bS
 simp only[qz 28]
 refine r9 cB rfl rfl λet N bV=>?_
 have cx:=N.kq cw
 have bu:=N.kq bt
 have c1:=c0.fx N (by simp)
 have n4:∀{q:Id},q.1≠4->q∉[((4,1):Id)]:=(by grind)
 have cC:=gc.fx N (by grind)
 have cG:=gf.fx N (by grind)
 have c4:=T.fx N (by simp)
 have es:aN (V 4) (eD S fl)=V (.a<|eD S fl):=rfl
 simp only[qz 30,u0,u1,bu,bV,es,iy,aj,↓uL]
 refine cy (y:=4) (cs:=eD S fl) bV rfl rfl (by simp) λdE aG H=>?_
 have bl:box dE (4,1)=V ⟨124,7,U,U,[eD S fl++[cc,fu,ta]]⟩:=H
 have cz:=aG.kq cx
 have bk:=c1.fx aG (by simp)
 have cD:=cC.fx aG (by grind)
 have cH:=cG.fx aG (by grind)
 have bR:=c4.fx aG (by simp)
 have e4:eD S fl++[cc,fu,ta]=[.l (S.ak.map cg.c) fl.1 fl.2.1,iv S.tx, .l (S.done.map cb) fl.2.2.1 fl.2.2.2.1, .l (S.ay.map aoC.c) fl.2.2.2.2.1 fl.2.2.2.2.2,cc,fu,ta]:=rfl
 have bX:=bl
 rw[e4] at bX
 simp only[qz 32,qy 34,u0,u1,bX,bk.b3,BF.c,R,G,nM,iy,aj,↓uL]
 refine bR.ix aM λb ek hb=>?_
 simp only[be4 hb aM,aY]
 refine anu bk.hl λv14 dG ao ei O=>?_
 have a7:=bk.fx ao (by simp)
 have cr:=ao.kq bl
 have cA:=ao.kq cz
 have cF:=cD.fx ao (by simp)
 have bq:=cH.fx ao (by simp)
 have c5:=bR.fx ao (by simp)
 have ri:aN (V 6) i.c=V (.a i.c):=rfl
 have em:∀{j:Nat},(j:Int).toNat=j:=(by omega)
 simp only[qz 36,qy 38,u0,u1,a7.b1,a7.b3,O,BF.c,R,rk,pz,G,aj,ixv,bh,cd,ri,↓uL]
 refine⟨dJ aL,p1,ic a7.hl λv15 eb co bO cq=>?_⟩
 refine r9 cq rfl rfl λcn cp c6=>?_
 have ab:Fx dG cn []:=(co.trans cp).mono λq A=>by simp at A;subst A;exact .inr bO.no
 have c3:=a7.fx ab (by simp)
 simp only[qz 40,↓uL]
 refine dT (by simp[eL,lb,gz,dC,dK,sl,aTo.c]) ?_
 have bn:=ab.kq cA
 have a8:=ab.kq O
 have ec:e.c=[iv e.aq,iv e.kind,iv e.bF,iv e.value,iv e.site,sl ci e.dI,sl ci e.ep]:=rfl
 have M:SM cn v6 v7 v9 v14 v15 c ch S fl cc fu ta f u s e i:=⟨c3,ab.kq cr,⟨e.value,bn⟩,a8,c6,⟨s.cells,rfl,cF.fx ab<|by simp⟩,⟨s.bU,rfl,bq.fx ab<|by simp⟩,⟨s.ay,rfl,c5.fx ab (by simp),λk hk=>⟨rfl,rfl,(hs.th _<|ig hk).2.2.1,rfl,rfl⟩⟩⟩
 have C:SK ch cc fu v15 u s:=⟨(by grind),λq A=>⟨(dx q A).1,λeq=>?_⟩,aM,R⟩
 ·simp only[u0,u1,a8,bn,G,iy,aj,↓uL]
  refine aX3 M C λx M=>?_
  have hA:e.kind=3\/e.kind=23->aF (L (gd s.ay u).H7) i.a/\aF (L (gd s.ay u).J6) i.a:=λh=>a5 _<|bd.1 h
  have hB:e.kind=4\/e.kind=22->aF (L (gd s.ay u).H7) i.b:=λh=>(a5 _<|bd.2.1 h).1
  have hC:e.kind=5->aF (L (gd s.ay u).H7) i.a:=λh=>(a5 _<|bd.2.2 h).1
  have hO:e.kind=3\/e.kind=4->aF (L s.cells) e.bF:=λh=>by rw[f2];exact qP cj (by omega) (by omega)
  have hF:e.kind=22\/e.kind=23->aF (L s.bU) e.bF:=λh=>by rw[f3];exact oU cj (by omega) (by omega)
  simp only[qz 42,↓uL]
  refine bpD (λo=>∀{x:ae} {nx:Int},SM x v6 v7 v9 v14 v15 c ch S fl cc fu ta f u s e i->o [iv nx] x) (λ{x nx} M=>?_) λo j=>?_
  ·obtain⟨v,D⟩:=M.b9
   simp only[qz 93,aI,↓uL]
   refine bpD (λo=>∀{x:ae},SM x v6 v7 v9 v14 v15 c ch S fl cc fu ta f u s e i->o [] x) (λ{x} M=>?_) λeg j=>?_
   ·have hw:dq.wrap ((gd s.ay u).ac+1)=(gd s.ay u).ac+1:=eM (by have:=B.ev;omega) (by have:=B.ev;omega)
    simp only[qz 183,aI,u0,u1,M.b14,G,nM,iy,aj,hw,↓uL]
    refine A0 M.b14 rfl (by simp) λx1 F1 b1=>?_
    simp only[List.set_cons_succ,RY] at b1
    simp only[qz 66,au,u0,u1,b1,aj,↓uL]
    refine A0 b1 rfl (by simp) λx2 F2 b2=>?_
    simp only[RY] at b2
    have F:Fx x x2 [(14,v14)]:=(F1.trans F2).mono λq A=> .inl (by simpa using A)
    have P:=M.P.fx F (by simp)
    have X:=F.kq M.b4
    obtain⟨v,D⟩:=M.keep9 F (by simp)
    obtain⟨cells,dm,gc⟩:=M.keepC F λq A g=>by have:=C.pc q A;simp at g;subst g;simp at this
    obtain⟨az,dr,gf⟩:=M.keepF F λq A g=>by have:=(C.pf q A).1;simp at g;subst g;simp at this
    obtain⟨ss,h1,T,h3⟩:=M.keepT F (by simp)
    have R:u<L ss:=by rw[h1];exact C.hu
    have S3:=h3 u R
    simp only[qz 68,↓uL]
    refine bpD (λo=>∀{x:ae} {r:List AV} {t':aNQ},PB x v6 v7 c ch->box x (4,1)=V ⟨124,7,U,U,[eD S fl++[cc,fu,ta]]⟩->box x (9,v9)=V ⟨62,7,U,U,[({e with value:=v}:aP).c]⟩->box x (14,v14)=V ⟨251,4,U,U,[r]⟩->gp x 2 1 cc (cells.map ci)->gp x 2 1 fu (az.map ci)->TTs (12,31,33) I x ta f ss (L ss)->(r=t'.c\/∃pc ev,r=[iv pc,(f u).1,(f u).2,iv ev]/\t'=⟨pc,(gd ss u).H7,(gd ss u).J6,ev⟩)->((∀l∈t'.J6,Tn l)/\L t'.H7<=1000/\L t'.J6<=1000/\0<=t'.ac/\t'.ac<=(gd s.ay u).ac+1)->o [] x) (λ{x r t'} P X D H gc gf T hr ht=>?_) λeh o=>?_
    ·have k4:∀{a b c d:AV},aN (V 4) [a,b,c,d]=V (.a [a,b,c,d]):=rfl
     have br:=C.hch
     have bb:=C.pc
     have bc:=λq A=>(C.pf q A).1
     have dw:∃y0 y1 y2 y3,r=[y0,y1,y2,y3]:=by
      rcases hr with rfl|⟨_,_,rfl,_⟩<;>exact⟨_,_,_,_,rfl⟩
     obtain⟨y0,y1,y2,y3,rfl⟩:=dw
     have dp:eY (.a [y0,y1,y2,y3])=V [y0,y1,y2,y3]:=rfl
     simp only[qz 213,aI,u0,u1,X,P.b3,H,eD,zn,dW,BF.c,G,k4,nM,iy,aj,br,↓uL]
     refine T.ix R λb ha hb=>?_
     subst ha
     have pb:b.1=33:=by rcases T.bx with⟨h,_⟩|⟨b',h,h2,_⟩;omega;simp only[AV.m.injEq] at h;rw[h.1];exact h2
     refine Bp hb (aTy R) dp rfl (by simp) λs1 F1 b1=>?_
     have n1:∀{q:Id},q.1≠33->q∉[b]:=λh e=>h<|idb e pb
     have P1:=P.fx F1 (λq A=>by have:=idb A pb;omega)
     have af:=F1.keep _ _ (n1<|by simp) X
     have ag:=F1.keep _ _ (n1<|by simp) D
     have dd:=gc.fx F1 λq A=>n1 (by rw[bb q A];decide)
     have de:=gf.fx F1 λq A=>n1 (by rw[bc q A];decide)
     have e1:aN (V 7) (eD S fl++[cc,fu, .m b<|L ss])=V (.a<|eD S fl++[cc,fu, .m b<|L ss]):=rfl
     have e2:aN (V 7) ({e with value:=v}:aP).c=V (.a ({e with value:=v}:aP).c):=rfl
     simp only[qz 74,qy 76,u0,u1,af,ag,iy,e1,e2,↓uL]
     refine r9 P1.b6 rfl rfl λs2 F2 b2=>?_
     have c8:=F2.kq P1.b7
     refine r9 c8 rfl rfl λs3 F3 b3=>?_
     simp only[qz 78,↓uL]
     have cf:9∉gz (.a<|eD S fl++[cc,fu, .m b<|L ss]):=λh=>by
      have e:gz (.a<|eD S fl++[cc,fu, .m b<|L ss])=dK cc++(dK fu++[b.1]):=by simp[gz,dC,eD,dK]
      rw[e] at h
      simp only[dF,cE] at h
      rcases h with h|h|h
      ·obtain⟨q,A,h⟩:=aQu gc h;have:=bb q A;omega
      ·obtain⟨q,A,h⟩:=aQu gf h;have:=bc q A;omega
      ·omega
     refine dT ?_ ?_
     ·generalize AV.a (eD S fl++[cc,fu, .m b<|L ss])=b0 at cf⊢
      simp[eL,lb,aTn,cf]
     have bm:=F3.kq b2
     simp only[u0,u1,b3,bm,iy,e1,e2,↓uL]
     have N:Fx s1 s3 [(6,v6),(7,v7)]:=F2.trans F3
     have aO:∀{q:Id},q.1≠6->q.1≠7->q∉[((6,v6):Id),(7,v7)]:=λh h' e=>by simp at e;rcases e with rfl|rfl;exact h rfl;exact h' rfl
     have hT:fz s3 (.m b<|L ss)=sl aNQ.c (ss.set u t'):=by
      have g1:∀k,k<L ss->rS s3 (f k).1=sl ci (gd ss k).H7/\rS s3 (f k).2=sl cl (gd ss k).J6:=λk hk=>
       ⟨aWh<|((T.g1 k hk).fx F1 λq A=>n1<|by rw[T.p1 k hk q A];decide).fx N λq A=>aO (by rw[T.p1 k hk q A];decide)<|by rw[T.p1 k hk q A];decide,(((T.g2 k hk).fx F1 λq A=>n1<|by rw[T.p2 k hk q A];decide).fx N λq A=>aO (by rw[T.p2 k hk q A];decide)<|by rw[T.p2 k hk q A];decide).fr⟩
      refine bfC T R (N.keep _ _ (aO (by rw[pb];decide)<|by rw[pb];decide) b1) ?_ g1
      simp only[CE,dW,nM,List.drop_nil,cL]
      rcases hr with h|⟨pc,ev,h,rfl⟩
      ·rw[h];rfl
      ·rw[h]
       simp only[ji,mU,(g1 u R).1,(g1 u R).2]
       rfl
     have x4:=aBr (dd.fx N λq A=>aO (by rw[bb q A];decide)<|by rw[bb q A];decide)
     have x5:=aBr (de.fx N λq A=>aO (by rw[bc q A];decide)<|by rw[bc q A];decide)
     refine aOH (vs':=[.a<|atC.c ⟨S,cells,az,ss.set u t'⟩, .a ({e with value:=v}:aP).c,bv U]) ?_ (by simp[iX,atC.c,aP.c,aW.c,eN,sl])<|cJ cells az ss v t' dm dr h1 h3 ht
     simp only[ji,mU,fzT,eD,x4,x5,hT,bcz,aWt,zn,dW]
     rfl
    have ca:=B.ev
    have b5:=o P X D b2 gc gf T (.inr ⟨nx,_,rfl,rfl⟩) ⟨S3.2.2.1,by rw[S3.1];exact B.rl,by rw[S3.2.1];exact B.tl,by simp only;omega,by simp only;omega⟩
    have hb:=B.hu
    have k4:∀{a b c d:AV},aN (V 4) [a,b,c,d]=V (.a [a,b,c,d]):=rfl
    have ke:({e with value:=v}:aP).c=[iv e.aq,iv e.kind,iv e.bF,iv v,iv e.site,sl ci e.dI,sl ci e.ep]:=rfl
    have kc:aN (V 2) (gd c.ay u).c=V (.a (gd c.ay u).c):=rfl
    rcases q1:Q (e.kind≠16) with _|_
    ·simp only[qz 215,u0,u1,D,ke,G,nM,iy,aj,q1,↓jN,a7c,↓iB,↓uL]
     exact b5
    ·rcases q2:Q (e.kind≠2) with _|_
     ·simp only[qz 215,u0,u1,D,ke,G,nM,iy,aj,q1,q2,↓jA,↓iB,↓uL]
      exact b5
     ·simp only[qz 215,u0,u1,D,ke,P.b1,P.b3,b2,BF.c,C.hch,rk,pz,G,k4,kc,aj,ixv,bh,q1,q2,↓jA,↓iC,↓uL]
      refine⟨dJ hb,?_⟩
      refine baY (s:=⟨nx,(gd ss u).H7,(gd ss u).J6,(gd s.ay u).ac+1⟩) P.hl (.of (T.g1 u R)) (.of (e:=38)<|T.g2 u R) (λq A=>by have:=T.p1 u R q A;simp at this;omega) B.rg B.il (by have:=B.rl;simp only;have:=S3.1;omega) (by have:=B.tl;simp only;have:=S3.2.1;omega) S3.2.2.1 λok s' x3 h' F3=>?_
      have bm:=F3.kq b2
      simp only[qz 70,oJ,pG,aY,↓uL]
      refine r9 bm rfl rfl λx4 F4 c7=>?_
      simp only[qz 72,↓uL]
      refine dT (by simp[eL,lb,gz,dC,dK,aNQ.c,sl]) ?_
      have ap:Fx x2 x4 [(14,v14)]:=(F3.trans F4).mono λq A=> .inl (by simpa using A)
      refine o (P.fx ap<|by simp) (ap.kq X) (ap.kq D) c7 (gc.fx ap λq A g=>?_) (gf.fx ap λq A g=>?_) (T.fx ap<|by simp) (.inl rfl) ⟨h'.1,h'.2.1,h'.2.2.1,?_,?_⟩
      ·have:=C.pc q A;simp at g;subst g;simp at this
      ·have:=(C.pf q A).1;simp at g;subst g;simp at this
      ·rcases h'.2.2.2 with e|e<;>(try simp only at e)<;>omega
      ·rcases h'.2.2.2 with e|e<;>(try simp only at e)<;>omega
   rcases q1:Q (e.kind=3) with _|_<;>rcases q2:Q (e.kind=23) with _|_<;>simp only[qz 185,u0,u1,D,aOf,M.b14,M.b15,pz,G,nM,iy,aj,q1,q2,↓jA,↓jN,aUw,↓iC,↓iB,wY,↓uL]
   ·exact j M
   all_goals
    obtain⟨h1,h2⟩:=hA (by simp only[j4,j5] at q1 q2;omega)
    refine bfi M C h1 λ_ y E=>?_
    have hb:aX bH 1 y [(0,iv (gd s.ay u).ac)]=V (.l ([(gd s.ay u).ac].map ci) U U,y):=iz
    simp only[qz 60,u0,u1,E.b14,E.b15,pz,G,aj,hb,qz 62,qy 64,↓uL]
    exact bfj E C (Tn.one ⟨B.ev.1,by have:=B.ev.2;omega⟩) h2 λz M2=>j M2
  obtain⟨v,D⟩:=M.b9
  have X:=M.b4
  rw[e4] at X
  have H:=M.b14
  have O:=M.b15
  have val:∀{w:Int} {K:ae->Prop},(∀y,SM y v6 v7 v9 v14 v15 c ch S fl cc fu ta f u s e i->K y)->sV (aK 1 x (.p (9,v9) 0 3)<|iv w) K:=λh=>aX3 M C h
  simp only[qz 95,u0,u1,D,aOf,pz,G,nM,iy,aj,↓uL]
  refine bsp (λo=>o [bv U]/\o [bv I]) ⟨?_,?_⟩ λef h=>by
   rcases q1:Q (e.kind=1) with _|_<;>rcases q2:Q (e.kind=16) with _|_<;>rcases q3:Q (e.kind=2) with _|_<;>simp only[qz 107,u0,u1,q1,q2,q3,↓iC,↓iB,↓uL]
   all_goals first|exact h.2|exact h.1
  ·simp only[qz 105,qy 44,qy 46,au,aI,↓uL]
   simp only[u0,u1,H,pz,G,aj,↓iC,↓uL]
   exact j M
  simp only[qz 105,qy 44,qy 46,au,aI,↓iB,↓uL]
  rcases q4:Q (e.kind=3) with _|_
  rotate_left
  ·simp only[u0,u1,D,aOf,X,pz,G,aj,↓iC,↓iB,q4,↓uL]
   exact bfe M (hO<|.inl<|qc q4) λw=>val λy E=>j E
  rcases q5:Q (e.kind=23) with _|_
  rotate_left
  ·simp only[u0,u1,D,aOf,X,pz,G,aj,↓iC,↓iB,q4,q5,↓uL]
   exact bff M (hF<|.inr<|qc q5) λw=>val λy E=>j E
  rcases q6:Q (e.kind=4) with _|_
  rotate_left
  ·simp only[u0,u1,D,aOf,H,O,pz,G,aj,↓iC,↓iB,q4,q5,q6,↓uL]
   refine aX2 M C (hB<|.inl<|qc q6) λw=>val λy E=>?_
   obtain⟨v1,ag⟩:=E.b9
   have af:=E.b4
   rw[e4] at af
   simp only[qz 48,qy 50,u0,u1,ag,aOf,af,G,nM,iy,aj,↓uL]
   exact bfg E C (hO<|.inr<|qc q6) λ_ y M2=>j M2
  rcases q7:Q (e.kind=22) with _|_
  rotate_left
  ·simp only[u0,u1,D,aOf,H,O,pz,G,aj,↓iC,↓iB,q4,q5,q6,q7,↓uL]
   refine aX2 M C (hB<|.inr<|qc q7) λw=>val λy E=>?_
   obtain⟨v1,ag⟩:=E.b9
   have af:=E.b4
   rw[e4] at af
   simp only[qz 52,qy 54,u0,u1,ag,aOf,af,G,nM,iy,aj,↓uL]
   exact bfh E C (hF<|.inl<|qc q7) λ_ y M2=>j M2
  rcases q8:Q (e.kind=5) with _|_
  ·simp only[u0,u1,↓iB,q4,q5,q6,q7,q8,↓uL]
   exact j M
  simp only[u0,u1,D,aOf,aj,↓iC,↓iB,q4,q5,q6,q7,q8,↓uL]
  refine val λy E=>?_
  obtain⟨v1,ag⟩:=E.b9
  simp only[qz 56,u0,u1,E.b14,E.b15,pz,G,aj,↓uL]
  refine aX2 E C (hC<|qc q8) λw=>?_
  simp only[u0,u1,ag,↓uL]
  refine⟨λ_=>aX3 E C λz M2=>?_,λ_=>j E⟩
  simp only[qz 58,u0,u1,M2.b15,pz,aj,↓uL]
  exact j M2
 ·obtain⟨x,hx⟩:=aTi bq q A
  subst eq
  exact bO.no x hx
def aUk:FT:=vn aXt
def bcb{c s ch Lw K}:=f311 aUk aXt c s ch Lw K (j:=by simp+contextual only[ij,ijv])
def a7H:dO:=(187,aUk)::aYe
def a7q:eJ a7H:=sz (By aXt)<|a7p
def a6s:=ai @bcb<|@aWn
section
attribute[local irreducible] aX
def a9N:=I5 11 [(3,([2,10],[3,4,5,9])),(6,([2],[3,4,5,9,10]))]
def aVp a b c d e R:=(.mk _:NS a7H a9N Tryz.f120 [.u, .u,c,d] [a,b] e R).p
def bhm{c0:List AV}{b:List AV}{c d:AV}{s0:ae}{R:be}(hs:L s0=4096)(l0:L c0=7)(l1:L b=7)(h:HB2 129 7 4 c0 124 7 5 b s0 λf g e=>aVp f g c d e R):EB 120 [.a c0, .a b,c,d] s0 R:=zB2 a9N a7q Tryz.func120 hs l0 l1 h
end
def bcu{Y:ae}{a:AV}{cs c:List AV}{bA:List (List AV)}{e:TypeId}{z:Nat}(g:gp Y e z a bA)(h:cs.map (lz Y)=c):aOo Y (.t [a, .a cs])= .t [.l bA I I, .a c]:=by have f:nrm (eR Y a)= .l bA I I:=(by rw[<-aOb g];rcases g with⟨_,rfl⟩|⟨b,m,rfl,d⟩;rfl;simp[eR,gi,d,nrm,lz]);have i:nrm (eR Y<|.a cs)= .a (cs.map<|lz Y):=(by simp only[eR,nrm,vA];rfl);grind [aOo]
def bdt{Y:ae}{c:aBY}{s:atC}{f:List BF}(Z:L Y=4096)(hc:aPU c)(hb:aOc c)(hs:StB 0 s)(hn:L f<=100):∃r Y1,((∃(l:List aP) (s':atC),r= .t [sl aP.c l, .a s'.c]/\L l<=100/\∀e∈l,EvL e)/\Fx Y Y1 [])/\cZ aS GG 120 [.a c.c, .a s.c, .l [] U U,sl BF.c f] Y r Y1:=by generalize hQ:(λ(r:AV) (y:ae)=>(∃(l:List aP) (s':atC),aOo y r= .t [sl aP.c l, .a s'.c]/\L l<=100/\∀e∈l,EvL e)/\Fx Y (kills y<|aNW r) [])=Qq;refine aQR (R:=Qq) ?_ (by grind);refine bhm Z rfl rfl λs4 v4 v5 K4 bl bm bn b4 b5=>?_;have W:Fx Y s4 []:=K4.fx [];simp only[aVp,qy 6];refine ic (W.len.trans Z) λv9 s6 n N6 b9=>?_;have ah:Fx Y s6 []:=W.trans n;have n9:∀y,box Y (9,v9)≠V y:=(N6.old W).no;have rc:aN (V 7) c.c=V (.a c.c):=rfl;have N:∀{s:atC},aN (V 7) s.c=V (.a s.c):=rfl;have re:∀{s:aP},aN (V 7) s.c=V (.a s.c):=rfl;have aK:∀{s:BF},aN (V 2) s.c=V (.a s.c):=rfl;have az:∀{x:ae} {j:Int} {K:cC},rV (cz 2 x (sl BF.c f)<|iv j) K=(aF (L f) j/\K (.q<|BF.c<|gd f j.toNat)):=aBz λ_=>rfl;refine jD (α:=AV) (λa i=>[a,iv i]) 1 (L f) (λk a x=>Fx Y x []/\box x (4,v4)=V ⟨129,7,U,U,[c.c]⟩/\(∃s',box x (5,v5)=V ⟨124,7,U,U,[s'.c]⟩/\StB k s')/\box x (9,v9)=V ⟨124,7,U,U,[aOO]⟩/\∃l:List aP,L l<=k/\(∀e∈l,EvL e)/\gp x 62 7 a (l.map aP.c)/\∀q∈aA a,q.1=41/\∀y,box Y q≠V y) (s0:= .l [] U U) ⟨ah,n.kq b4,(by grind [Fx.keep]),b9,[],by simp,by simp, .inl ⟨rfl,rfl⟩,by simp[aA]⟩ ?_;rintro k a x hk ⟨F,E,⟨s',H,S⟩,M,l,bk,B,g,pa⟩;have C:=F.len.trans Z;have aC:fS x a=V (iv<|L l):=(by rw[g.ln,bJ]);rcases q1:Q ((k:Int)<(L f:Int)) with _|_;simp only[qz 19,qy 22,aI,au,u0,u1,H,N,q1,↓jN,a7c,↓iB,iy,↓uL];refine r9 M rfl rfl λs7 F7 b7=>?_;simp only[b7,aQd,qh,df,N,aY];have X:=g.fx F7 λq o h=>(by have:=(pa q o).1;simp at h;subst h;simp at this);show Qq (.t [a, .a s'.c]) s7;rw[<-hQ];refine⟨⟨l,s',bcu X rfl,by omega,B⟩,((F.trans F7).trans<|aOp _ _).mono λq o=> .inr ?_⟩;have ei:aNW (.t [a, .a s'.c])=aA a:=(by have:=aQX X;rcases X with⟨_,rfl⟩|⟨b,m,rfl,_⟩<;>simp[aNW,eB,iR,atC.c,aW.c,sl,aA]);grind;have q2:Q (((L l:Nat):Int)<400)=U:=(by grind);simp only[qz 19,qy 22,aI,au,u0,u1,aC,q1,q2,↓jA,aUw,↓iC,iy,↓uL];have P:k<L f:=(by simp_all);refine bsK (λd=>∀{w:AV} {y:ae} {s3:atC} {l':List aP},Fx Y y []->box y (4,v4)=V ⟨129,7,U,U,[c.c]⟩->box y (5,v5)=V ⟨124,7,U,U,[s3.c]⟩->StB (k+1) s3->box y (9,v9)=V ⟨124,7,U,U,[aOO]⟩->L l'<=k+1->(∀e∈l',EvL e)->gp y 62 7 w (l'.map aP.c)->(∀q∈aA w,q.1=41/\∀z,box Y q≠V z)->d [w] y) ?_ λd j6=>?_;intro w y s3 l' F E H hs M h1 h2 g p;simp only[qz 39,aI,au,u0,u1,↓uL];exact dR (mk:=λ(a:AV) i=>[a,iv i]) (s:=a) (s':=w) (λ_ _=>rfl) P (by omega) (by grind);simp only[qz 41,u0,u1,E,H,N,rc,az,aK,bh,ar,Fa,a6s,rr,iy,↓uL];refine⟨dJ P,(by grind),?_⟩;rintro r ⟨s2,e,ok,rfl,aD⟩;refine⟨by simp[lo,nA,eB,iR,aBY.c,J9.c,atC.c,aW.c,BF.c,sl],?_⟩;simp only[oJ,pG,KM,aY];refine ic C λbo x1 F1 N1 b1=>?_;simp only[qz 8];refine ic (F1.len.trans C) λbp x2 F2 N2 b2=>?_;have an:=F2.kq b1;simp only[qz 10];refine r9 an rfl rfl λx3 F3 b3=>?_;have ao:=F3.kq b2;simp only[qz 12];refine r9 ao rfl rfl λx4 O aq=>?_;have ap:=O.kq b3;have G:Fx x x4 []:=(((F1.trans F2).trans F3).trans O).mono (by grind [bK.no,bK.old]);simp only[qz 14,↓uL];refine dT (by simp[ck,eL,lb,Qh,gz,dC,dK,sl,BF.c,atC.c,aW.c,aP.c,aBY.c,J9.c]) ?_;have T:=G.kq H;have g4:=g.fx G (by simp);have aB:=G.len.trans C;have aL:StB k s'->StB (k+1) s':=λh=>⟨h.sy.mono (by omega),h.ce,h.fu,h.tl,λt ht=>by obtain⟨w1,w2,w3,w4,w5⟩:=h.th t ht;exact⟨w1,w2,w3,w4,by omega⟩⟩;cases ok with|false=>simp only[↓iB];exact j6 (F.trans G) (G.kq E) T (aL S) (G.kq M) (by omega) B g4 pa|true=>obtain⟨he,aE⟩:=aD rfl;simp only[↓iC,u0,u1,ap,N,iy,↓uL];refine r9 T rfl rfl λx5 v aw=>?_;have av:=v.kq aq;have g5:=g4.fx v λq o h=>(by have:=(pa q o).1;simp at h;subst h;simp at this);have ay:aX btV 1 x5 [(0, .a e.c)]=V (.l ([e].map aP.c) U U,x5):=ua rfl rfl rfl (by decide) (by simp[aP.c,eN,sl]) (by decide);have u:∀{l:List aP},∀r∈l.map aP.c,L r=7:=qW (by intro _;rfl);simp only[qz 16,qy 18,qy 20,u0,u1,av,re,ay,iy,↓uL];refine apQ g5 (v.len.trans aB) u u (by simp) (by simp;omega) λw x6 g6 n P6=>?_;have D:∀{q:Id},q.1≠41->q∉aA a:=(by grind);have A:Fx Y x5 []:=((F.trans G).trans v).mono (by grind);refine j6 (l':=l++[e]) ((A.trans n).mono<|by grind) (n.keep _ _ (D<|by simp)<|v.kq<|G.kq E) (n.keep _ _ (D<|by simp) aw) (aE k (by omega) S) (n.keep _ _ (D<|by simp)<|v.kq<|G.kq M) (by simp;omega) (λy hy=>?_) (by grind [bc.p]) λq o=>⟨(P6 q o).2,((P6 q o).1.old A).no⟩;rcases dF.1 hy with h|h;exact B y h;grind
def aYf:dO:=a7H
def a7r:eJ aYf:=a7q
def a6t:=@a6s
section
attribute[local irreducible] aX
def aVj a a1 b R:=(.mk _:NF<|zF GGV aYf asK Tryz.f58 [.u,a1] [a] b<|I3 Tryz.f58 R).p
def bhi{c0:List AV}{a1:AV}{R:cC}(l0:L c0=7)(h:∀b:ae,L b=4096->box b (2,1)=V ⟨129,7,U,U,[c0]⟩->(∀k,k≠2->aZ b k=mO)->aVj (.p (2,1) 0 0) a1 b R):Fn aS GG 58 [.a c0,a1] R:=by refine fnV (uq ready (aQ9 a7r) Tryz.func58 (an:=asK) (by kernel_rfl)<|Eq.mpr (show ZF aS GGV aYf asK Tryz.f58 [.a c0,a1] R=(eV (bxA 129 7 (ly Tryz.f58) 2<|.a c0) λc b=>aVj c a1 b R) by kernel_rfl) ?_);refine mY (N:=4096) rfl l0 (by decide) (by decide) uB (by rw[i8]) λb f d g g0=>?_;exact h b f d (λk e=>by rw[g0 k e];exact i8 _ k)
end
theorem Kx.fx0{Y Y':ae}(k:Kx [] Y Y'){b:Id}{x:bY}(h:box Y b=V x):box Y' b=V x:=k.keep b x (by simp) h
def baV{Y:ae}{c:aBY}{s:atC}{f:List BF}{d:Nat}{K:be}(u:L Y=4096)(q:aPU c)(o:aOc c)(hs:StB 0 s)(w:L f<=100)(n:∀(l:List aP) (s':atC) g,L l<=100->(∀e∈l,EvL e)->Kx [] Y g->K (.t [sl aP.c l, .a s'.c]) g):cV 120 [.a c.c, .a s.c, .l [] U U,sl BF.c f] Y d K:=by refine aQN rfl rfl [] (λx j=>?_) (by intro p h;simp at h) (bdt (aOr.trans u) q o hs w) ?_;simp only[eW,ql,bie] at j;rcases j with rfl|rfl|rfl|rfl;intro y b;simp only[aBY.c,J9.c,dF,eW,ql,bie,or_assoc] at b;rcases b with rfl|rfl|rfl|rfl|rfl|rfl|rfl<;>exact .inl (by simp[eN]);intro y b;simp only[atC.c,aW.c,dF,eW,ql,bie,or_assoc] at b;(rcases b with rfl|rfl|rfl|rfl|rfl|rfl|rfl<;>first|trivial|exact .inl (by simp[eN]));exact .inr rfl;exact .inl (by simp[eN]);rintro r g ⟨⟨l,s',rfl,k,m⟩,F⟩;refine⟨F.len.trans aOr,[],(by intro p h;simp at h),?_,n l s' _ k m Kx.mix⟩;intro v i;simp only[eW,ql,bie] at i;rcases i with rfl|rfl;exact .inl (by simp[eN]);intro y b;simp only[atC.c,aW.c,dF,eW,ql,bie,or_assoc] at b;rcases b with rfl|rfl|rfl|rfl|rfl|rfl|rfl<;>first|trivial|exact .inl (by simp[eN])
def aXr(c:aBY)(f:List BF)(hp:aOc c/\L f<=100):Ct 58 [.a c.c,sl BF.c f] (λr=>∃(t:aOx) (s:atC),r= .t [.a t.c, .a s.c]/\L t.ac<=100/\∀e∈t.ac,EvL e):=by obtain⟨m,hn⟩:=hp;generalize F:(λ(r:AV)=>∃(t:aOx) (s:atC),r= .t [.a t.c, .a s.c]/\L t.ac<=100/\∀e∈t.ac,EvL e)=Qq;refine aDq (bhi rfl λs2 n S h0=>?_);simp only[aVj,qy 4];refine ic n λv4 s4 w N4 T=>?_;refine ic (w.len.trans n) λv5 p x N6 C=>?_;have d:=x.kq T;have b:Fx s2 p []:=w.trans x;have E:=b.kq S;have g:=b.len.trans n;have hz:bM aOO anY []=V (.a aOO):=rfl;have H:bM bs2 [(0,6),(6,1)] []=V (.a bs2):=rfl;have rc:aN (V 7) c.c=V (.a c.c):=rfl;simp only[qz 6,qy 8,u0,u1,E,rc,iy,a6t,ar,Fa,hz,H,↓uL];have i:∀{r:AV},lo p [.a c.c] r:=(by intro r;simp[lo,nA,eB,iR,aBY.c,J9.c,sl]);refine⟨m,?_⟩;rintro _ ⟨ok,rfl,h⟩;refine⟨i,?_⟩;simp only[aIN,aY];cases ok with|false=>simp only[Bool.not_false,↓iC];refine r9 d rfl rfl λs7 P k=>?_;refine r9 (P.kq C) rfl rfl λs8 R W=>?_;have D:=R.kq k;have rz:aN (V 7) aOO=V (.a aOO):=rfl;have N:aN (V 7) bs2=V (.a bs2):=rfl;simp only[qz 10,u0,u1,W,D,rz,N,iy,↓uL];refine aOH (vs':=[.a<|aOx.c ⟨⟨[],[],[],[],[],[]⟩,[]⟩, .a<|atC.c ⟨⟨[],0,[],[]⟩,[],[],[]⟩]) rfl rfl ?_;rw[<-F];exact⟨_,_,rfl,by simp,by simp⟩|true=>simp only[Bool.not_true,↓iB];refine⟨⟨h rfl,m⟩,?_⟩;rintro _ ⟨s,rfl,hs⟩;refine⟨i,?_⟩;refine baV g (h rfl) m hs hn λl s' av h1 h2 y=>?_;have o:=y.len.trans g;simp only[qz 12,qy 14,oJ,pG,aY];refine ic o λv7 aw ap au k=>?_;refine r9 k rfl rfl λO aq X=>?_;have up:∀{q:Id} {z:bY},q≠(7,v7)->box p q=V z->box O q=V z:=(by grind [Fx.keep,Kx.fx0]);have Z:=up (by simp) E;have d4:=up (by simp) d;have d5:=up (by simp) C;have K:aN (V 6) c.c=V (.a c.aQ.c):=rfl;have M:aN (V 7) s'.c=V (.a s'.c):=rfl;have rt:aN (V 7) (aOx.c ⟨c.aQ,l⟩)=V (.a<|aOx.c ⟨c.aQ,l⟩):=rfl;have G:bM bs2 [(0,6),(6,1)] [(0, .a c.aQ.c),(1,sl aP.c l)]=V (.a<|aOx.c ⟨c.aQ,l⟩):=rfl;simp only[qz 16,↓uL];refine dT (by simp[eL,lb,lbV,Qh,gz,dC,dK,aBY.c,atC.c,aW.c,J9.c,sl]) ?_;simp only[u0,u1,Z,X,K,M,G,aj,iy,↓uL];refine r9 d4 rfl rfl λax u A=>?_;simp only[qz 18];refine r9 (u.kq d5) rfl rfl λay v B=>?_;have j:=v.kq A;simp only[qz 20,↓uL];refine dT (by simp[eL,lb,lbV,gz,dC,dK,atC.c,aW.c,J9.c,aOx.c,sl]) ?_;simp only[u0,u1,j,B,M,rt,iy,↓uL];refine aOH (vs':=[.a<|aOx.c ⟨c.aQ,l⟩, .a s'.c]) rfl (by simp[iX,eN,aOx.c,J9.c,atC.c,aW.c,sl]) ?_;rw[<-F];exact⟨_,_,rfl,h1,h2⟩
def aUi:FT:=pn aXr
def bb9{c chs Lw K}:=f211 aUi aXr c chs Lw K (j:=by simp+contextual only[ij,ijv])
def a7I:dO:=(58,aUi)::aYf
def a7s:eJ a7I:=sz (aN0 aXr)<|a7r
def aWo:=ai @bb9<|@a6t
section
attribute[local irreducible] aX
def a9X:=I5 18 [(1,([0],[1,4])),(8,([28],[1,4,5,6,26,27]))]
def a4B a a1 s0 R:=(.mk _:NR a7I a9X Tryz.f21 [a,a1] [] s0 R).p
def bhv{a a1:AV}{R:cC}(h:H0 λs0=>a4B a a1 s0 R):Ct 21 [a,a1] R:=z0 a9X a7s Tryz.func21 h
end
section
attribute[local irreducible] aX
def aVO b a c R:=(.mk _:NS aR3 asK Tryz.f116 [b, .u] [a] c R).p
def bhx{c:AV}{b:List AV}{s0:ae}{R:be}(hs:L s0=4096)(l1:L b=7)(h:HB1 40 7 3 b s0 λe d=>aVO c e d R):EB 116 [c, .a b] s0 R:=zB1 asK aPL Tryz.func116 hs l1 h
def a90:=I5 25 [(3,([8],[0,2,7])),(6,([16],[0,2,7])),(9,([21],[0,2,7])),(14,([26],[0,2,7])),(21,([33],[0,2]))]
def aRx a a1 b s0 R:=(.mk _:NS aR3 a90 Tryz.f183 [a,a1,b] [] s0 R).p
def bhA{a a1 b:AV}{s0:ae}{R:be}(hs:L s0=4096)(h:aRx a a1 b s0 R):EB 183 [a,a1,b] s0 R:=zB a90 aPL Tryz.func183 h
def a93:=I5 21 [(7,([24],[0,5,10]))]
def aRz b a c d e R:=(.mk _:NS aR3 a93 Tryz.f184 [b, .u,c,d] [a] e R).p
def bhD{c:AV}{b:List AV}{d e:AV}{s0:ae}{R:be}(hs:L s0=4096)(l1:L b=7)(h:HB1 40 7 5 b s0 λg f=>aRz c g d e f R):EB 184 [c, .a b,d,e] s0 R:=zB1 a93 aPL Tryz.func184 hs l1 h
def a92:=I5 11 [(4,([5,10],[0,1,8,9])),(7,([5],[0,1,8,9,10]))]
def aVX a a1 s0 R:=(.mk _:NS aR3 a92 Tryz.f185 [a,a1] [] s0 R).p
def bhC{a a1:AV}{s0:ae}{R:be}(hs:L s0=4096)(h:aVX a a1 s0 R):EB 185 [a,a1] s0 R:=zB a92 aPL Tryz.func185 h
def a5J:=I5 39 [(4,([16],[0,4,5,15])),(7,([],[0,4,5,15,16])),(10,([7],[0,4,5,6,15,16])),(17,([64],[0,4,5,63])),(20,([],[0,4,5,63,64])),(26,([],[0,4,5])),(28,([],[0,4,5])),(33,([143],[0,4,5,142]))]
def aSH b a c R:=(.mk _:NF<|zF GGV aR3 a5J Tryz.f55 [b, .u] [a] c<|QDb Tryz.f55 R).p
def bhw{c:AV}{b:List AV}{s0:ae}{R:be}(hs:L s0=4096)(l1:L b=6)(h:HB1 31 6 3 b s0 λe d=>aSH c e d R):EB 55 [c, .a b] s0 R:=aTc<|zB1 a5J (aQ9 aPL) Tryz.func55 hs l1 h
def a5K:=I5 13 [(4,([],[0,3,5,6,8,9,11])),(8,([],[0,3,8,9,11])),(10,([],[8,11]))]
def aSL c a b d e R:=(.mk _:NF<|zF GGV aR3 a5K Tryz.f117 [c, .u, .u,d] [a,b] e<|QDb Tryz.f117 R).p
def bhy{d:AV}{b:List AV}{c:List AV}{e:AV}{s0:ae}{R:be}(hs:L s0=4096)(l1:L b=7)(f:L c=6)(h:HB2 40 7 5 b 31 6 6 c s0 λi j g=>aSL d i j e g R):EB 117 [d, .a b, .a c,e] s0 R:=aTc<|zB2 a5K (aQ9 aPL) Tryz.func117 hs l1 f h
end
end Go.Ab
